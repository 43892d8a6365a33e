import Derived.Test.YtmciflmlpnpkaaaDoorH6
import Derived.Test.YtmciflmlpnpkaaaDoorPax4
import Derived.Test.YtmciflmlpnpkaaaDoorN
namespace Go.Proofs.YtmciflmlpnpkaaaDoor.Pa
open Go.RowKit Go.Proofs.YtmciflmlpnpkaaaDoorW.PrintWords Go.Proofs.YtmciflmlpnpkaaaDoorW.PrintLast Go.Proofs.YtmciflmlpnpkaaaDoorW.PrintMore
set_option linter.unusedVariables false
set_option linter.unusedSimpArgs false

/-! ### the reference's decimal text of an int -/
theorem num_last (x3 x4 : ByteArray) (h : x4 ≠ ⟨#[]⟩) (hs : x3.size + x4.size ≤ 9223372036854775807) (k : Nat) : ontimeref51_Number.l0 (k + 2) 0 x3 x4 = some (x3 ++ x4) := by
  have e : (x4.toList == ([] : List UInt8)) = false := by
    rw [beq_eq_false_iff_ne, ByteArray.toList_eq]
    exact fun e => h (ByteArray.ext (Array.toList_inj.1 e))
  rw [ontimeref51_Number.l0, if_pos rfl, e, ontimeref51_Number.j2, if_neg (by simp), if_pos hs]
theorem num_dig (x0 : Int) (hr0 : -9223372036854775808 ≤ x0) (hr1 : x0 ≤ 9223372036854775807) (x3 x4 : ByteArray) (hs : x4.size ≤ 100) (k : Nat) (h : x0 ≠ 0 ∨ x4 = ⟨#[]⟩) :
    ∃ x0' : Int, x0'.natAbs = x0.natAbs / 10 ∧ -9223372036854775808 ≤ x0' ∧ x0' ≤ 9223372036854775807 ∧ ontimeref51_Number.l0 (k + 2) x0 x3 x4 = ontimeref51_Number.l0 k x0' x3 (str [UInt8.ofNat (48 + x0.natAbs % 10)] ++ x4) := by
  have hd : ∀ u : Nat, strOfNums [((48 + u % 10 : Nat) : Int)] = str [UInt8.ofNat (48 + u % 10)] := by
    intro u
    show (⟨#[UInt8.ofNat (((48 + u % 10 : Nat) : Int)).toNat]⟩ : ByteArray) = _
    rw [Int.toNat_natCast]
    rfl
  have hsz : ∀ (y : UInt8), (str [y]).size + x4.size ≤ 9223372036854775807 := fun y => by rw [str_size]; simp; omega
  have hj : ∃ x0' : Int, x0'.natAbs = x0.natAbs / 10 ∧ -9223372036854775808 ≤ x0' ∧ x0' ≤ 9223372036854775807 ∧ ontimeref51_Number.j2 (k + 1) x0 x3 x4 true = ontimeref51_Number.l0 k x0' x3 (str [UInt8.ofNat (48 + x0.natAbs % 10)] ++ x4) := by
    rw [ontimeref51_Number.j2, if_pos rfl]
    by_cases hn : 0 ≤ x0
    · obtain ⟨u, rfl⟩ : ∃ u : Nat, x0 = (u : Int) := ⟨x0.toNat, by omega⟩
      have e1 : Int.tmod (u : Int) 10 = ((u % 10 : Nat) : Int) := by rw [Int.tmod_eq_emod_of_nonneg (by omega)]; omega
      have e3 : wrap64 (Int.tdiv (u : Int) 10) = ((u / 10 : Nat) : Int) := by
        rw [Int.tdiv_eq_ediv_of_nonneg (by omega)]
        unfold wrap64
        omega
      have e2 : wrap64 (48 + ((u % 10 : Nat) : Int)) % 256 = ((48 + u % 10 : Nat) : Int) := by unfold wrap64; omega
      refine ⟨((u / 10 : Nat) : Int), by omega, by omega, by omega, ?_⟩
      rw [e1, if_neg (by omega), e2, e3]
      simp only [Option.bind_some]
      rw [hd, if_pos (hsz _), Int.natAbs_natCast]
    · obtain ⟨u, rfl⟩ : ∃ u : Nat, x0 = -(u : Int) := ⟨x0.natAbs, by omega⟩
      have e1 : Int.tmod (-(u : Int)) 10 = -((u % 10 : Nat) : Int) := by rw [Int.neg_tmod, Int.tmod_eq_emod_of_nonneg (by omega)]; omega
      have e3 : wrap64 (Int.tdiv (-(u : Int)) 10) = -((u / 10 : Nat) : Int) := by
        rw [Int.neg_tdiv, Int.tdiv_eq_ediv_of_nonneg (by omega)]
        unfold wrap64
        omega
      refine ⟨-((u / 10 : Nat) : Int), by omega, by omega, by omega, ?_⟩
      rw [e1, e3, Int.natAbs_neg, Int.natAbs_natCast]
      by_cases h0 : u % 10 = 0
      · have e2 : wrap64 (48 + -((u % 10 : Nat) : Int)) % 256 = ((48 + u % 10 : Nat) : Int) := by unfold wrap64; omega
        rw [if_neg (by omega), e2]
        simp only [Option.bind_some]
        rw [hd, if_pos (hsz _)]
      · have e2 : wrap64 (48 + wrap64 (- -((u % 10 : Nat) : Int))) % 256 = ((48 + u % 10 : Nat) : Int) := by unfold wrap64; omega
        rw [if_pos (by omega), e2]
        simp only [Option.bind_some]
        rw [hd, if_pos (hsz _)]
  obtain ⟨x0', h1, h2, h3, h4⟩ := hj
  refine ⟨x0', h1, h2, h3, ?_⟩
  rw [← h4]
  conv => lhs; unfold ontimeref51_Number.l0
  by_cases h0 : x0 = 0
  · rw [if_pos h0]
    have : x4 = ⟨#[]⟩ := by
      rcases h with h | h
      · exact absurd h0 h
      · exact h
    subst this
    rw [show ((⟨#[]⟩ : ByteArray).toList == ([] : List UInt8)) = true from by rw [ByteArray.toList_eq]; rfl]
  · rw [if_neg h0]
theorem str_cons_ne (b : UInt8) (x : ByteArray) : str [b] ++ x ≠ ⟨#[]⟩ := by
  intro h
  have := congrArg ByteArray.size h
  rw [ByteArray.size_append, str_size, List.length_singleton] at this
  have e : (⟨#[]⟩ : ByteArray).size = 0 := rfl
  omega
theorem decDigits_step (u : Nat) : Lib.decDigits u = (if u / 10 = 0 then [] else Lib.decDigits (u / 10)) ++ [UInt8.ofNat (48 + u % 10)] := by
  by_cases h : u < 10
  · rw [if_pos (by omega), Lib.decDigits, dif_pos h, List.nil_append, Nat.mod_eq_of_lt h]
  · rw [if_neg (by omega)]
    conv => lhs; rw [Lib.decDigits, dif_neg h]
theorem num_loop : ∀ (n : Nat) (x0 : Int), x0.natAbs < 10 ^ n → -9223372036854775808 ≤ x0 → x0 ≤ 9223372036854775807 → ∀ (x3 x4 : ByteArray), x3.size ≤ 100 → x4.size + n ≤ 100 → x4 ≠ ⟨#[]⟩ → ontimeref51_Number.l0 (2 * n + 2) x0 x3 x4 = some (x3 ++ (str (if x0.natAbs = 0 then [] else Lib.decDigits x0.natAbs) ++ x4))
  | 0, x0, hu, _, _, x3, x4, h3, h4, hne => by
    have : x0 = 0 := by simp at hu; exact hu
    subst this
    rw [num_last x3 x4 hne (by omega) 0]
    congr 2
  | n + 1, x0, hu, hr0, hr1, x3, x4, h3, h4, hne => by
    by_cases h0 : x0 = 0
    · subst h0
      rw [show 2 * (n + 1) + 2 = (2 * n + 2) + 2 by omega, num_last x3 x4 hne (by omega) _]
      congr 2
    · obtain ⟨x0', h1, h2, h5, h6⟩ := num_dig x0 hr0 hr1 x3 x4 (by omega) (2 * n + 2) (.inl h0)
      rw [show 2 * (n + 1) + 2 = (2 * n + 2) + 2 by omega, h6, num_loop n x0' (by rw [h1]; rw [Nat.pow_succ] at hu; omega) h2 h5 x3 _ h3 (by rw [ByteArray.size_append, str_size]; simp; omega) (str_cons_ne _ _), h1, if_neg (show ¬ x0.natAbs = 0 by omega), decDigits_step x0.natAbs, ← str_append]
      simp only [ByteArray.append_assoc]
theorem number_eval (n : Int) (h0 : -9223372036854775808 ≤ n) (h1 : n ≤ 9223372036854775807) : ontimeref51_Number.f 47 n = some (str (Lib.itoa n)) := by
  have hj : ∀ x3 : ByteArray, x3.size ≤ 100 → ontimeref51_Number.j0 47 n x3 = some (x3 ++ str (Lib.decDigits n.natAbs)) := by
    intro x3 h3
    obtain ⟨x0', h4, h5, h6, h7⟩ := num_dig n h0 h1 x3 ⟨#[]⟩ (by show 0 ≤ 100; omega) 44 (.inr rfl)
    show ontimeref51_Number.l0 46 n x3 ⟨#[]⟩ = _
    rw [h7, num_loop 21 x0' (by rw [h4]; omega) h5 h6 x3 _ h3 (by rw [ByteArray.size_append, str_size]; show 1 + 0 + 21 ≤ 100; omega) (str_cons_ne _ _), h4, decDigits_step n.natAbs, ← str_append]
    congr 3
  unfold ontimeref51_Number.f Lib.itoa
  by_cases hn : n < 0
  · rw [if_pos hn, if_pos hn, hj _ (by show 1 ≤ 100; omega)]
    rw [show (⟨#[45]⟩ : ByteArray) = str [45] from rfl, str_append]
    rfl
  · rw [if_neg hn, if_neg hn, hj _ (by show 0 ≤ 100; omega), show n.natAbs = n.toNat by omega]
    congr 1
end Go.Proofs.YtmciflmlpnpkaaaDoor.Pa
