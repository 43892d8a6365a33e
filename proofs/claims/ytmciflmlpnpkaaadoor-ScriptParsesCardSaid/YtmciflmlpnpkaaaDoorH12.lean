import Derived.Test.YtmciflmlpnpkaaaDoorPex0
import Derived.Test.YtmciflmlpnpkaaaDoorQ3
namespace Go.Proofs.YtmciflmlpnpkaaaDoor.Pa
open Go.RowKit Go.Proofs.YtmciflmlpnpkaaaDoorW.PrintWords Go.Proofs.YtmciflmlpnpkaaaDoorW.PrintLast Go.Proofs.YtmciflmlpnpkaaaDoorW.PrintMore
set_option linter.unusedVariables false
set_option linter.unusedSimpArgs false

/-! ### equal commands -/
def eqC (x : S31) (y : S71) : Bool := decide (x.f0 = y.f0) && decide (x.f1 = y.f1) && decide (x.f3 = y.f3) && decide (x.f2 = y.f2)
def eqL : List S31 → List S71 → Bool
  | [], [] => true
  | x :: a, y :: b => eqC x y && eqL a b
  | _, _ => false
theorem toList_iff (a b : ByteArray) : a.toList = b.toList ↔ a = b := by
  rw [ByteArray.toList_eq, ByteArray.toList_eq]
  exact ⟨fun h => ByteArray.ext (Array.toList_inj.1 h), fun h => by rw [h]⟩
theorem eqC_eval (x : S31) (y : S71) (h : x.f2.length ≤ 1000000) : ontimelaw51_equalc.f (x.f2.length + 1) x.f0 x.f1 x.f2 x.f3 y.f0 y.f1 y.f2 y.f3 = some (eqC x y) := by
  unfold ontimelaw51_equalc.f eqC
  rw [eq_eval x.f2 y.f2 h _ (Nat.le_refl _), Option.bind_some]
  by_cases h0 : x.f0 = y.f0
  · by_cases h1 : x.f1 = y.f1
    · by_cases h3 : x.f3 = y.f3
      · rw [if_pos h0, if_pos ((toList_iff _ _).2 h1), if_pos ((toList_iff _ _).2 h3)]
        simp [h0, h1, h3]
      · rw [if_pos h0, if_pos ((toList_iff _ _).2 h1), if_neg (fun e => h3 ((toList_iff _ _).1 e))]
        simp [h3]
    · rw [if_pos h0, if_neg (fun e => h1 ((toList_iff _ _).1 e))]
      simp [h1]
  · rw [if_neg h0]
    simp [h0]
theorem eqL_len : ∀ (a : List S31) (b : List S71), a.length ≠ b.length → eqL a b = false
  | [], [], h => absurd rfl h
  | [], _ :: _, _ => rfl
  | _ :: _, [], _ => rfl
  | x :: a, y :: b, h => by
    rw [eqL, eqL_len a b (by simpa using h)]
    simp
theorem rd71_at (l : List S71) (j : Nat) (h : j < l.length) : rd_T71 l (j : Int) = l[j] := by
  simp [rd_T71, List.getD_eq_getElem?_getD, h]
theorem rd31_at' (l : List S31) (j : Nat) (h : j < l.length) : rd_T31 l (j : Int) = l[j] := by
  simp [rd_T31, List.getD_eq_getElem?_getD, h]
theorem eqL_drop (a : List S31) (b : List S71) (j : Nat) (h : j < a.length) (h2 : j < b.length) : eqL (a.drop j) (b.drop j) = (eqC a[j] b[j] && eqL (a.drop (j + 1)) (b.drop (j + 1))) := by
  rw [List.drop_eq_getElem_cons h, List.drop_eq_getElem_cons h2, eqL]
theorem stepE (j n : Nat) (h : j < n) (hn : n ≤ 9223372036854775807) : wrap64 ((j : Int) + 1) = (j : Int) + 1 := by unfold wrap64; omega
theorem measE (j n : Nat) (h : j < n) : n - (intOf (Value.int IntKind.i64 ((j : Int) + 1))).toNat < n - (intOf (Value.int IntKind.i64 (j : Int))).toNat := by
  simp [intOf]
  omega
theorem intE (j n : Nat) (h : j < n) : 0 ≤ (j : Int) ∧ (j : Int) < (n : Int) := by omega
set_option maxRecDepth 100000 in
set_option maxHeartbeats 2000000 in
theorem equalFunc_calls (A0 : Option Addr) (c0 : Nat) (l0 : List S31) (A1 : Option Addr) (c1 : Nat) (l1 : List S71) (w : World) (hr0 : Kd.C k31 w A0 l0.length l0) (hc0 : l0.length ≤ c0) (hr1 : Kd.C k71 w A1 l1.length l1) (hc1 : l1.length ≤ c1) (hs : ∀ x ∈ l0, x.f2.length ≤ 1000000) :
    Calls Tryd.prog 38 #[.slice A0 l0.length c0, .slice A1 l1.length c1, .func (.func 39) #[] #[]] w fun e w' => e = .returned (.bool (eqL l0 l1)) ∧ Below w.heap.size w w' := by
  have HR0 := Lib.hid hr0
  have HR1 := Lib.hid hr1
  have HS := Lib.hid hs
  have hmax := Kd.C_max hr0
  have hu31 := Tryd.underlying31
  have hu71 := Tryd.underlying71
  have HB0 := Aside0.mk (Below.refl w.heap.size w)
  clear hr0 hr1 hs
  by_cases hl : l0.length = l1.length
  · have h00 : eqL l0 l1 = eqL (l0.drop 0) (l1.drop 0) := rfl
    generalize eqL l0 l1 = R at h00 ⊢
    have H00 := Aside0.mk h00
    clear h00
    have hne : ((l0.length : Int) != (l1.length : Int)) = false := by rw [hl]; simp
    have HL := Lib.hid hl
    clear hl
    go_enter Tryd.func38, Tryd.ntmps38
    go_wp2
    go_loopw [17] (fun v wr => ∃ j : Nat, j ≤ l0.length ∧ v = .int .i64 j ∧ Aside0 (R = eqL (l0.drop j) (l1.drop j)) ∧ Aside0 (Below w.heap.size w wr)) (fun v _ => l0.length - (intOf v).toNat)
    case atStart => exact ⟨0, Nat.zero_le _, rfl, H00, HB0⟩
    case round =>
      obtain ⟨j, hj, rfl, HQ, HB⟩ := hrel
      clear H00
      by_cases hlt : j < l0.length
      · have hlt1 : j < l1.length := by have := HL.out; omega
        obtain ⟨i0, i1⟩ := intE j _ hlt
        obtain ⟨_, i2⟩ := intE j _ hlt1
        have hx := at_T31 (Kd.C_below HR0.out HB.out) (j : Int) i0 i1
        have hy := at_T71 (Kd.C_below HR1.out HB.out) (j : Int) i0 i2
        rw [rd31_at' l0 j hlt] at hx
        rw [rd71_at l1 j hlt1] at hy
        simp only [Int.toNat_natCast] at hx hy
        have hsm := HS.out l0[j] (List.getElem_mem hlt)
        have hq := HQ.out
        rw [eqL_drop l0 l1 j hlt hlt1] at hq
        have hnx := stepE j _ hlt hmax
        generalize l0[j] = x at hx hsm hq
        generalize l1[j] = y at hy hq
        obtain ⟨ad, A2, c2, e1, x0, x1, x2, x3, lx, gx⟩ := hx
        cases e1
        obtain ⟨bd, B2, d2, e2, y0, y1, y2, y3, ly, gy⟩ := hy
        cases e2
        have z0 := fun X => (World.cell?_alloc_lt wr X _ (World.block_lt_of_cell? _ _ y0)).trans y0
        have z1 := fun X => (World.cell?_alloc_lt wr X _ (World.block_lt_of_cell? _ _ y1)).trans y1
        have z2 := fun X => (World.cell?_alloc_lt wr X _ (World.block_lt_of_cell? _ _ y2)).trans y2
        have z3 := fun X => (World.cell?_alloc_lt wr X _ (World.block_lt_of_cell? _ _ y3)).trans y3
        have HN := Lib.hid (fun X Y => ontimelaw51_equalc.calls (x.f2.length + 1) x.f0 x.f1 A2 c2 x.f2 x.f3 y.f0 y.f1 B2 d2 y.f2 y.f3 (eqC x y) ((wr.alloc X).alloc Y) (Kd.C_alloc (Kd.C_alloc gx X) Y) lx (Kd.C_alloc (Kd.C_alloc gy X) Y) ly (eqC_eval x y hsm))
        clear hsm lx gx ly gy i0 i1 i2 y0 y1 y2 y3
        cases hb : eqC x y with
        | true =>
          rw [hb] at HN hq
          have HQ2 := Aside0.mk hq
          clear hq hb
          go_wp2_with (go_at_call 39; refine (HN.out _ _).mono ?_; rintro e w1 ⟨rfl, hb1⟩)
          go_roundw
          case rel => exact ⟨j + 1, hlt, by go_num, by simpa using HQ2, ⟨below_then HB.out HB.out.size ((below_alloc (below_alloc (Below.refl _ _) _) _).trans (hb1.mono (by simp; omega)))⟩⟩
          case measure => exact measE j _ hlt
        | false =>
          rw [hb] at HN hq
          simp only [Bool.false_and] at hq
          have HQ2 := Aside0.mk hq
          clear hq hb
          go_wp2_with (go_at_call 39; refine (HN.out _ _).mono ?_; rintro e w1 ⟨rfl, hb1⟩)
          go_ret
          exact ⟨by rw [HQ2.out]; rfl, below_then HB.out HB.out.size ((below_alloc (below_alloc (Below.refl _ _) _) _).trans (hb1.mono (by simp; omega)))⟩
      · have e : j = l0.length := Nat.le_antisymm hj (Nat.not_lt.1 hlt)
        have hq := HQ.out
        rw [e, List.drop_length, HL.out, List.drop_length] at hq
        have HQ2 := Aside0.mk hq
        clear hq
        go_wp2
        go_ret
        exact ⟨by rw [HQ2.out]; rfl, HB.out⟩
  · rw [eqL_len _ _ hl]
    have hne : ((l0.length : Int) != (l1.length : Int)) = true := by rw [bne_iff_ne]; omega
    clear hl
    go_enter Tryd.func38, Tryd.ntmps38
    go_wp2
    go_ret
    exact ⟨rfl, HB0.out⟩
def ontimelaw51_equal.f (l0 : List S31) (l1 : List S71) : Option Bool := if l0.all (fun x => decide (x.f2.length ≤ 1000000)) = true then some (eqL l0 l1) else none
set_option maxHeartbeats 1000000 in
theorem ontimelaw51_equal.calls (A0 : Option Addr) (c0 : Nat) (l0 : List S31) (A1 : Option Addr) (c1 : Nat) (l1 : List S71) (r : Bool) (w : World) (hr0 : Kd.C k31 w A0 l0.length l0) (hc0 : l0.length ≤ c0) (hr1 : Kd.C k71 w A1 l1.length l1) (hc1 : l1.length ≤ c1) (h : ontimelaw51_equal.f l0 l1 = some r) :
    Calls Tryd.prog 17 #[.slice A0 l0.length c0, .slice A1 l1.length c1] w fun e w' => e = .returned (.bool r) ∧ Below w.heap.size w w' := by
  unfold ontimelaw51_equal.f at h
  split at h
  · rename_i hs
    obtain rfl := Option.some.inj h
    have HI := Lib.hid (equalFunc_calls A0 c0 l0 A1 c1 l1 w hr0 hc0 hr1 hc1 (fun x hx => by have := List.all_eq_true.1 hs x hx; simpa using this))
    clear hr0 hr1 hs h
    generalize eqL l0 l1 = R at HI ⊢
    generalize l0.length = n0 at HI hc0 ⊢
    generalize l1.length = n1 at HI hc1 ⊢
    go_enter Tryd.func17, Tryd.ntmps17
    go_wp2_with (go_at_call 38; refine HI.out.mono ?_; rintro e w1 ⟨rfl, hb⟩)
    go_ret
    exact ⟨rfl, hb⟩
  · cases h
end Go.Proofs.YtmciflmlpnpkaaaDoor.Pa
