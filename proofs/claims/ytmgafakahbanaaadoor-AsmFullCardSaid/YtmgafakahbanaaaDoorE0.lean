import Derived.Test.YtmgafakahbanaaaDoorHa
import Derived.Maps.OwnOps
namespace Go.Proofs.YtmgafakahbanaaaDoor.Pa
open Go.RowKit Go.Proofs.YtmgafakahbanaaaDoorW.PrintWords Go.Proofs.YtmgafakahbanaaaDoorW.PrintLast Go.Proofs.YtmgafakahbanaaaDoorW.PrintMore
open Go.Maps
set_option linter.unusedVariables false
set_option linter.unusedSimpArgs false
theorem zero3 (w : World) : (zeroValue 3).run Tryd.prog w = .ok (.int .i64 0) w := by kernel_rfl
def posF (c : Int) : Int := if c = 97 then 22 else if c = 98 then 18 else if c = 99 then 14 else 0
def posD : DataW Unit := (((DataW.map []).put (.int .u8 97) (.lit (.int .i64 22))).put (.int .u8 98) (.lit (.int .i64 18))).put (.int .u8 99) (.lit (.int .i64 14))
theorem posD_eq : posD = .map [(.int .u8 97, .lit (.int .i64 22)), (.int .u8 98, .lit (.int .i64 18)), (.int .u8 99, .lit (.int .i64 14))] := by rfl
theorem posD_at (c x : Int) (h : posD.atKey (.int .u8 c) (.lit (.int .i64 0)) = .lit (.int .i64 x)) : x = posF c := by
  rw [posD_eq] at h
  unfold posF
  by_cases h1 : c = 97
  · subst h1
    simp [DataW.atKey, Lit.sameKey] at h
    rw [if_pos rfl, h]
  · by_cases h2 : c = 98
    · subst h2
      simp [DataW.atKey, Lit.sameKey] at h
      rw [if_neg (by decide), if_pos rfl, h]
    · by_cases h3 : c = 99
      · subst h3
        simp [DataW.atKey, Lit.sameKey] at h
        rw [if_neg (by decide), if_neg (by decide), if_pos rfl, h]
      · have e1 : ¬ (97 : Int) = c := fun e => h1 e.symm
        have e2 : ¬ (98 : Int) = c := fun e => h2 e.symm
        have e3 : ¬ (99 : Int) = c := fun e => h3 e.symm
        simp [DataW.atKey, Lit.sameKey, e1, e2, e3] at h
        rw [if_neg h1, if_neg h2, if_neg h3, h]
theorem wfp_u8 (c : Int) (h0 : 0 ≤ c) (h1 : c ≤ 255) : (Lit.int .u8 c).wf = true := by
  simp [Lit.wf, IntKind.min, IntKind.max, IntKind.signed, IntKind.bits]
  omega
set_option maxRecDepth 100000 in
theorem position_calls (c : Int) (w : World) (h0 : 0 ≤ c) (h1 : c ≤ 255) : Calls Tryd.prog 39 #[.int .u8 c] w fun e w' => e = .returned (.int .i64 (posF c)) ∧ Below w.heap.size w w' := by
  have hmm := @run_makeMap Tryd.prog
  have law : Keyed Tryd.prog 5 := int_keyed Tryd.underlying5
  have hwf := wfp_u8 c h0 h1
  have hown0 := World.ownsMap_made w Tryd.prog 5 (plainElem (H := Unit) Tryd.prog 3)
  have hb0 : Below w.heap.size w (w.alloc (.map #[] 0)) := below_alloc (Below.refl _ _) _
  obtain ⟨w1, hr1, hown1, hg1⟩ := hown0.update law Tryd.underlying101 (by decide) (key := .int .u8 97) (val := .int .i64 22) (keyOf_int_mk Tryd.underlying5 (by decide)) (plainElem_int Tryd.underlying3 (by decide))
  obtain ⟨w2, hr2, hown2, hg2⟩ := hown1.update law Tryd.underlying101 (by decide) (key := .int .u8 98) (val := .int .i64 18) (keyOf_int_mk Tryd.underlying5 (by decide)) (plainElem_int Tryd.underlying3 (by decide))
  obtain ⟨w3, hr3, hown3, hg3⟩ := hown2.update law Tryd.underlying101 (by decide) (key := .int .u8 99) (val := .int .i64 14) (keyOf_int_mk Tryd.underlying5 (by decide)) (plainElem_int Tryd.underlying3 (by decide))
  obtain ⟨x, hl, hat, hwx⟩ := hown3.lookup_int law Tryd.underlying101 Tryd.underlying3 (zero3 _) (keyOf_int_mk Tryd.underlying5 hwf)
  have hx := posD_at c x hat
  have h4 : Below w.heap.size w w3 := ((hb0.grown hg1 hb0.size (fun j hj => by cases hj; exact Nat.le_refl _)).grown hg2 (hb0.grown hg1 hb0.size (fun j hj => by cases hj; exact Nat.le_refl _)).size (fun j hj => by cases hj; exact Nat.le_refl _)).grown hg3 ((hb0.grown hg1 hb0.size (fun j hj => by cases hj; exact Nat.le_refl _)).grown hg2 (hb0.grown hg1 hb0.size (fun j hj => by cases hj; exact Nat.le_refl _)).size (fun j hj => by cases hj; exact Nat.le_refl _)).size (fun j hj => by cases hj; exact Nat.le_refl _)
  go_enter Tryd.func39, Tryd.ntmps39
  go_wp2
  go_ret
  exact ⟨rfl, h4⟩
end Go.Proofs.YtmgafakahbanaaaDoor.Pa
