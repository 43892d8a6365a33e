import Derived.Test.YtmciflmlpnpkaaaDoorQ4a
import Derived.Test.YtmciflmlpnpkaaaDoorPbx3
namespace Go.Proofs.YtmciflmlpnpkaaaDoor.Pa
open Go.RowKit Go.Proofs.YtmciflmlpnpkaaaDoorW.PrintWords Go.Proofs.YtmciflmlpnpkaaaDoorW.PrintLast Go.Proofs.YtmciflmlpnpkaaaDoorW.PrintMore
set_option linter.unusedVariables false
set_option linter.unusedSimpArgs false

theorem errs_loop (x : ByteArray) (e : Int) (n : Nat) (hn : n ≤ 2000) : ∀ (m : Nat) (rest p r : List UInt8) (done i k : Nat), takeL m rest = some (p, r) → rest.length ≤ 1500 → done ≤ 1500 → done + rest.length ≤ 1500 → i + m = n →
    ontimelaw51_ScriptErrors.l0 (k + m) x e (str rest) (done : Int) (n : Int) (i : Int) = ontimelaw51_ScriptErrors.l0 k x e (str r) ((done + p.length : Nat) : Int) (n : Int) (n : Int)
  | 0, rest, p, r, done, i, k, h, _, _, _, hi => by
    simp only [takeL, Option.some.injEq, Prod.mk.injEq] at h
    obtain ⟨rfl, rfl⟩ := h
    obtain rfl : i = n := by omega
    rfl
  | m + 1, rest, p, r, done, i, k, h, h1, h2, h3, hi => by
    rw [takeL] at h
    cases hc : cut10 rest with
    | none => rw [hc] at h; cases h
    | some q =>
      obtain ⟨a, r1⟩ := q
      rw [hc] at h
      simp only at h
      cases ht : takeL m r1 with
      | none => rw [ht] at h; cases h
      | some q2 =>
        obtain ⟨t1, r2⟩ := q2
        rw [ht] at h
        simp only [Option.map_some, Option.some.injEq, Prod.mk.injEq] at h
        obtain ⟨rfl, rfl⟩ := h
        have hll := congrArg List.length (cut10_some hc).1
        rw [List.length_append, List.length_cons] at hll
        have hcut : strings_Cut.f (str rest) ⟨#[10]⟩ = some (str a, str r1, true) := by
          unfold strings_Cut.f
          rw [if_pos (by rw [str_size]; omega)]
          show some (str (Lib.cut rest [10]).1, str (Lib.cut rest [10]).2.1, (Lib.cut rest [10]).2.2) = _
          rw [cut_10, hc]
        have e1 : wrap64 ((done : Int) + wrap64 (((str rest).size : Int) - ((str r1).size : Int))) = ((done + (a.length + 1) : Nat) : Int) := by
          rw [str_size, str_size]; unfold wrap64; omega
        have e2 : wrap64 ((i : Int) + 1) = ((i + 1 : Nat) : Int) := by unfold wrap64; omega
        rw [← Nat.add_assoc, ontimelaw51_ScriptErrors.l0, if_pos (by omega), hcut, Option.bind_some]
        simp only
        rw [if_pos trivial, e1, e2, errs_loop x e n hn m r1 t1 _ _ _ k ht (by omega) (by omega) (by omega) (by omega)]
        congr 1
        simp
        omega
theorem ScriptErrors_pure (a0 : ByteArray) : ∃ k, ontimelaw51_ScriptErrors.f k a0 = some true := by
  refine ⟨10000, ?_⟩
  unfold ontimelaw51_ScriptErrors.f
  rw [awake_pos _ (by omega), Option.bind_some, if_pos rfl, ontimelaw51_ScriptErrors.j0]
  by_cases hbig : (a0.size : Int) > 1500
  · rw [if_pos (decide_eq_true hbig), awake_pos _ (by omega)]
    rfl
  · rw [if_neg (by rw [decide_eq_false hbig]; simp)]
    have hl := size_len a0
    obtain ⟨cs, n, r, h, he⟩ := steps_all _ a0.data.toList (Nat.le_refl _)
    obtain ⟨p, e1, o1, t1, s1, n1⟩ := steps_local h
    have e1l := congrArg List.length e1
    rw [List.length_append] at e1l
    by_cases hr : r = []
    · subst hr
      have := parse_ok _ cs n h (by omega) (by omega) 9999 (by omega)
      rw [str_of] at this
      rw [this, Option.bind_some]
      rfl
    · rcases he with he | ⟨e, he⟩
      · exact absurd he hr
      · have := parse_err _ cs n r e h hr he (by omega) (by omega) 9999 (by omega)
        rw [str_of] at this
        rw [this, Option.bind_some]
        simp only
        have hone : e = 3 ∨ e = 4 := oneL_err he
        have e2 : wrap64 (((1 + n : Nat) : Int) - 1) = (n : Int) := by unfold wrap64; omega
        have h3 : ontimelaw51_ScriptErrors.l0 (9999 - n + n) a0 e (str a0.data.toList) ((0 : Nat) : Int) (n : Int) ((0 : Nat) : Int) = _ := errs_loop a0 e n (by omega) n a0.data.toList p r 0 0 (9999 - n) (by have := t1 r; rw [← e1] at this; exact this) (by omega) (by omega) (by omega) (by omega)
        rw [if_neg (by omega), e2]
        rw [str_of, show 9999 - n + n = 9999 by omega, show ((0 : Nat) : Int) = 0 from rfl] at h3
        rw [h3, Nat.zero_add]
        obtain ⟨k, hk⟩ : ∃ k, 9999 - n = k + 1 := ⟨9998 - n, by omega⟩
        rw [hk, ontimelaw51_ScriptErrors.l0, if_neg (by omega), if_pos (by omega), if_pos (by omega), Int.toNat_natCast, extract_pre]
        have ep : a0.data.toList.take p.length = p := by rw [e1]; simp
        rw [ep]
        have hp := o1 []
        rw [List.append_nil] at hp
        rw [parse_ok p cs n hp (by omega) (by omega) k (by omega), Option.bind_some, parse_err r [] 0 r e (.nil _) hr he (by omega) (by simp) k (by simp; omega), Option.bind_some]
        simp
end Go.Proofs.YtmciflmlpnpkaaaDoor.Pa
