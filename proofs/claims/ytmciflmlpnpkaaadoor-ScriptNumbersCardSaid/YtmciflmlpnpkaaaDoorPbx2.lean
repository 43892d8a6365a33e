-- Lines by a program of this session's (wip/gprint.py over the kit's printing program): the walks of plain functions. Not trusted: Lean checks it.
import Derived.Test.YtmciflmlpnpkaaaDoorPbx0
import Derived.Test.YtmciflmlpnpkaaaDoorPbx1
namespace Go.Proofs.YtmciflmlpnpkaaaDoor.Pa
open Go.RowKit Go.Proofs.YtmciflmlpnpkaaaDoorW.PrintWords Go.Proofs.YtmciflmlpnpkaaaDoorW.PrintLast Go.Proofs.YtmciflmlpnpkaaaDoorW.PrintMore
attribute [local go_sem] max2_int min2_int max_two min_two max_three min_three max_four min_four   -- for this text's walks alone
set_option linter.unusedVariables false
set_option linter.unusedSimpArgs false

/-! ### ontimelaw51_ScriptNumbers: function 3 -/
mutual
def ontimelaw51_ScriptNumbers.j0 : Nat → Int → ByteArray → Bool → Option (Bool)
  | 0, _, _, _ => none
  | k + 1, x1, x5, x42 => if x42 = true then (some false) else (if 1 + x5.size ≤ 9223372036854775807 then ((strings_TrimPrefix.f x5 (⟨#[45]⟩ : ByteArray)).bind fun t145 => (if 2 + t145.size ≤ 9223372036854775807 then (if x5.size + 1 ≤ 9223372036854775807 then ((strings_Repeat.f (⟨#[45]⟩ : ByteArray) (Int.tmod (wrap64 (x1)) 3)).bind fun t146 => (if 1 + t146.size ≤ 9223372036854775807 then (if ((⟨#[45]⟩ : ByteArray) ++ t146).size + 1 ≤ 9223372036854775807 then ((strings_Repeat.f (⟨#[57]⟩ : ByteArray) (wrap64 (20 + (Int.tmod (wrap64 (x1)) 30)))).bind fun t147 => ((some (([(⟨#[48]⟩ : ByteArray) ++ x5, (⟨#[43]⟩ : ByteArray) ++ x5, (⟨#[45, 48]⟩ : ByteArray) ++ t145, x5 ++ (⟨#[32]⟩ : ByteArray), (⟨#[32]⟩ : ByteArray) ++ x5, x5 ++ (⟨#[46]⟩ : ByteArray), ((⟨#[45]⟩ : ByteArray) ++ t146) ++ (⟨#[120]⟩ : ByteArray), t147, (⟨#[]⟩ : ByteArray)] : List ByteArray) : List ByteArray)).bind fun y148 => (ontimelaw51_ScriptNumbers.l0 k y148 (y148.length : Int) 0))) else (none)) else (none))) else (none)) else (none))) else (none))
def ontimelaw51_ScriptNumbers.l0 : Nat → List ByteArray → Int → Int → Option (Bool)
  | 0, _, _, _ => none
  | k + 1, x67, x68, x69 => if x69 < x68 then (if 0 ≤ x69 then (if x69 < (x67.length : Int) then (if 4 + (rdOf ByteArray.empty x67 x69).size ≤ 9223372036854775807 then (if ((⟨#[114, 117, 110, 32]⟩ : ByteArray) ++ (rdOf ByteArray.empty x67 x69)).size + 1 ≤ 9223372036854775807 then ((script_Parse.f k (((⟨#[114, 117, 110, 32]⟩ : ByteArray) ++ (rdOf ByteArray.empty x67 x69)) ++ (⟨#[10]⟩ : ByteArray))).bind fun bt152 => (if bt152.2.2 = 3 then (if bt152.2.1 = 1 then (ontimelaw51_ScriptNumbers.l0 k x67 x68 (wrap64 (x69 + 1))) else (some false)) else (some false))) else (none)) else (none)) else (none)) else (none)) else (some true)
end
def ontimelaw51_ScriptNumbers.f (k : Nat) (a0 : Int) (a1 : Int) : Option (Bool) := (ontimelaw51_awake.f k).bind fun t133 => (if t133 = true then ((ontimeref51_Number.f k a0).bind fun t134 => (if 4 + t134.size ≤ 9223372036854775807 then (if ((⟨#[114, 117, 110, 32]⟩ : ByteArray) ++ t134).size + 1 ≤ 9223372036854775807 then ((script_Parse.f k (((⟨#[114, 117, 110, 32]⟩ : ByteArray) ++ t134) ++ (⟨#[10]⟩ : ByteArray))).bind fun bt135 => (if bt135.2.2 = 0 then (if (bt135.1.length : Int) = 1 then (if 0 < (bt135.1.length : Int) then ((slices_Equal_int_int.f k ((rd_T31 bt135.1 0).f2) (([a0] : List Int))).bind fun t144 => (ontimelaw51_ScriptNumbers.j0 k a1 t134 (!t144))) else (none)) else (ontimelaw51_ScriptNumbers.j0 k a1 t134 true)) else (ontimelaw51_ScriptNumbers.j0 k a1 t134 true))) else (none)) else (none))) else (some false))
theorem ontimelaw51_ScriptNumbers.mono_l : ∀ k, (∀ y0 y1 y2, LeO (ontimelaw51_ScriptNumbers.j0 k y0 y1 y2) (ontimelaw51_ScriptNumbers.j0 (k + 1) y0 y1 y2)) ∧ (∀ y0 y1 y2, LeO (ontimelaw51_ScriptNumbers.l0 k y0 y1 y2) (ontimelaw51_ScriptNumbers.l0 (k + 1) y0 y1 y2))
  | 0 => ⟨fun _ _ _ r h => by simp [ontimelaw51_ScriptNumbers.j0] at h, fun _ _ _ r h => by simp [ontimelaw51_ScriptNumbers.l0] at h⟩
  | k + 1 => by
    obtain ⟨ih0, ih1⟩ := ontimelaw51_ScriptNumbers.mono_l k
    refine ⟨?_, ?_⟩
    · intro y0 y1 y2
      unfold ontimelaw51_ScriptNumbers.j0
      repeat' first
      | (with_reducible exact ih0 _ _ _)
      | (with_reducible exact ih1 _ _ _)
      | (with_reducible exact ontimelaw51_awake.mono _)
      | (with_reducible exact ontimeref51_Number.mono _ _)
      | (with_reducible exact script_Parse.mono _ _)
      | (with_reducible exact slices_Equal_int_int.mono _ _ _)
      | (with_reducible exact LeO.refl _)
      | (with_reducible exact LeO.none _)
      | (with_reducible refine LeO.ite ?_ ?_)
      | (with_reducible refine LeO.bind ?_ (fun _ => ?_))
      | exact ih0 _ _ _
      | exact ih1 _ _ _
      | exact ontimelaw51_awake.mono _
      | exact ontimeref51_Number.mono _ _
      | exact script_Parse.mono _ _
      | exact slices_Equal_int_int.mono _ _ _
      | exact LeO.none _
      | refine LeO.ite ?_ ?_
      | refine LeO.bind ?_ (fun _ => ?_)
    · intro y0 y1 y2
      unfold ontimelaw51_ScriptNumbers.l0
      repeat' first
      | (with_reducible exact ih0 _ _ _)
      | (with_reducible exact ih1 _ _ _)
      | (with_reducible exact ontimelaw51_awake.mono _)
      | (with_reducible exact ontimeref51_Number.mono _ _)
      | (with_reducible exact script_Parse.mono _ _)
      | (with_reducible exact slices_Equal_int_int.mono _ _ _)
      | (with_reducible exact LeO.refl _)
      | (with_reducible exact LeO.none _)
      | (with_reducible refine LeO.ite ?_ ?_)
      | (with_reducible refine LeO.bind ?_ (fun _ => ?_))
      | exact ih0 _ _ _
      | exact ih1 _ _ _
      | exact ontimelaw51_awake.mono _
      | exact ontimeref51_Number.mono _ _
      | exact script_Parse.mono _ _
      | exact slices_Equal_int_int.mono _ _ _
      | exact LeO.none _
      | refine LeO.ite ?_ ?_
      | refine LeO.bind ?_ (fun _ => ?_)
theorem ontimelaw51_ScriptNumbers.mono : ∀ a0 a1 k, LeO (ontimelaw51_ScriptNumbers.f k a0 a1) (ontimelaw51_ScriptNumbers.f (k + 1) a0 a1) := by
  intro a0 a1 k
  obtain ⟨ih0, ih1⟩ := ontimelaw51_ScriptNumbers.mono_l k
  unfold ontimelaw51_ScriptNumbers.f
  repeat' first
      | (with_reducible exact ih0 _ _ _)
      | (with_reducible exact ih1 _ _ _)
      | (with_reducible exact ontimelaw51_awake.mono _)
      | (with_reducible exact ontimeref51_Number.mono _ _)
      | (with_reducible exact script_Parse.mono _ _)
      | (with_reducible exact slices_Equal_int_int.mono _ _ _)
      | (with_reducible exact LeO.refl _)
      | (with_reducible exact LeO.none _)
      | (with_reducible refine LeO.ite ?_ ?_)
      | (with_reducible refine LeO.bind ?_ (fun _ => ?_))
      | exact ih0 _ _ _
      | exact ih1 _ _ _
      | exact ontimelaw51_awake.mono _
      | exact ontimeref51_Number.mono _ _
      | exact script_Parse.mono _ _
      | exact slices_Equal_int_int.mono _ _ _
      | exact LeO.none _
      | refine LeO.ite ?_ ?_
      | refine LeO.bind ?_ (fun _ => ?_)
set_option maxHeartbeats 8000000 in
set_option maxRecDepth 100000 in
theorem ontimelaw51_ScriptNumbers.calls (k : Nat) (a0 : Int) (a1 : Int) (r : Bool) (w : World) (h : ontimelaw51_ScriptNumbers.f k a0 a1 = some r) (hE : EnvW w) :
    Calls Tryd.prog 3 #[.int .i64 a0, .int .u8 a1] w fun e w' => e = .returned (.bool r) ∧ Below w.heap.size w w' := by
  have HB := Aside0.mk (Below.refl w.heap.size w)
  have H : ((ontimelaw51_awake.f k).bind fun t133 => (if t133 = true then ((ontimeref51_Number.f k a0).bind fun t134 => (if 4 + t134.size ≤ 9223372036854775807 then (if ((⟨#[114, 117, 110, 32]⟩ : ByteArray) ++ t134).size + 1 ≤ 9223372036854775807 then ((script_Parse.f k (((⟨#[114, 117, 110, 32]⟩ : ByteArray) ++ t134) ++ (⟨#[10]⟩ : ByteArray))).bind fun bt135 => (if bt135.2.2 = 0 then (if (bt135.1.length : Int) = 1 then (if 0 < (bt135.1.length : Int) then ((slices_Equal_int_int.f k ((rd_T31 bt135.1 0).f2) (([a0] : List Int))).bind fun t144 => (ontimelaw51_ScriptNumbers.j0 k a1 t134 (!t144))) else (none)) else (ontimelaw51_ScriptNumbers.j0 k a1 t134 true)) else (ontimelaw51_ScriptNumbers.j0 k a1 t134 true))) else (none)) else (none))) else (some false))) = some r := h
  clear h
  replace H := Option.bind_eq_some_iff.mp H
  obtain ⟨t133, A30, H⟩ := H
  replace H : (if t133 = true then ((ontimeref51_Number.f k a0).bind fun t134 => (if 4 + t134.size ≤ 9223372036854775807 then (if ((⟨#[114, 117, 110, 32]⟩ : ByteArray) ++ t134).size + 1 ≤ 9223372036854775807 then ((script_Parse.f k (((⟨#[114, 117, 110, 32]⟩ : ByteArray) ++ t134) ++ (⟨#[10]⟩ : ByteArray))).bind fun bt135 => (if bt135.2.2 = 0 then (if (bt135.1.length : Int) = 1 then (if 0 < (bt135.1.length : Int) then ((slices_Equal_int_int.f k ((rd_T31 bt135.1 0).f2) (([a0] : List Int))).bind fun t144 => (ontimelaw51_ScriptNumbers.j0 k a1 t134 (!t144))) else (none)) else (ontimelaw51_ScriptNumbers.j0 k a1 t134 true)) else (ontimelaw51_ScriptNumbers.j0 k a1 t134 true))) else (none)) else (none))) else (some false)) = some r := H
  have A3 := Aside0.mk A30
  clear A30
  by_cases c4 : t133 = true
  · subst c4
    have H1 : ((ontimeref51_Number.f k a0).bind fun t134 => (if 4 + t134.size ≤ 9223372036854775807 then (if ((⟨#[114, 117, 110, 32]⟩ : ByteArray) ++ t134).size + 1 ≤ 9223372036854775807 then ((script_Parse.f k (((⟨#[114, 117, 110, 32]⟩ : ByteArray) ++ t134) ++ (⟨#[10]⟩ : ByteArray))).bind fun bt135 => (if bt135.2.2 = 0 then (if (bt135.1.length : Int) = 1 then (if 0 < (bt135.1.length : Int) then ((slices_Equal_int_int.f k ((rd_T31 bt135.1 0).f2) (([a0] : List Int))).bind fun t144 => (ontimelaw51_ScriptNumbers.j0 k a1 t134 (!t144))) else (none)) else (ontimelaw51_ScriptNumbers.j0 k a1 t134 true)) else (ontimelaw51_ScriptNumbers.j0 k a1 t134 true))) else (none)) else (none))) = some r := by rw [if_pos rfl] at H; exact H
    clear H
    have H := H1
    clear H1
    replace H := Option.bind_eq_some_iff.mp H
    obtain ⟨t134, A50, H⟩ := H
    replace H : (if 4 + t134.size ≤ 9223372036854775807 then (if ((⟨#[114, 117, 110, 32]⟩ : ByteArray) ++ t134).size + 1 ≤ 9223372036854775807 then ((script_Parse.f k (((⟨#[114, 117, 110, 32]⟩ : ByteArray) ++ t134) ++ (⟨#[10]⟩ : ByteArray))).bind fun bt135 => (if bt135.2.2 = 0 then (if (bt135.1.length : Int) = 1 then (if 0 < (bt135.1.length : Int) then ((slices_Equal_int_int.f k ((rd_T31 bt135.1 0).f2) (([a0] : List Int))).bind fun t144 => (ontimelaw51_ScriptNumbers.j0 k a1 t134 (!t144))) else (none)) else (ontimelaw51_ScriptNumbers.j0 k a1 t134 true)) else (ontimelaw51_ScriptNumbers.j0 k a1 t134 true))) else (none)) else (none)) = some r := H
    have A5 := Aside0.mk A50
    clear A50
    by_cases c6 : 4 + t134.size ≤ 9223372036854775807
    · rw [if_pos c6] at H
      have c6b0 := eq_true c6
      have c6b1 : decide (4 + t134.size ≤ 9223372036854775807) = true := decide_eq_true c6
      try have c6b2 : (9223372036854775807 < 4 + t134.size) = False := eq_false (Nat.not_lt.2 c6)
      by_cases c7 : ((⟨#[114, 117, 110, 32]⟩ : ByteArray) ++ t134).size + 1 ≤ 9223372036854775807
      · rw [if_pos c7] at H
        have c7b0 := eq_true c7
        have c7b1 : decide (((⟨#[114, 117, 110, 32]⟩ : ByteArray) ++ t134).size + 1 ≤ 9223372036854775807) = true := decide_eq_true c7
        try have c7b2 : (9223372036854775807 < ((⟨#[114, 117, 110, 32]⟩ : ByteArray) ++ t134).size + 1) = False := eq_false (Nat.not_lt.2 c7)
        have c7b3 : (9223372036854775807 < 4 + t134.size + 1) = False := eq_false (by have h_ := c7; rw [ByteArray.size_append] at h_; have e_ : (⟨#[114, 117, 110, 32]⟩ : ByteArray).size = 4 := rfl; omega)
        replace H := Option.bind_eq_some_iff.mp H
        obtain ⟨⟨t135, t136, t137⟩, A80, H⟩ := H
        replace H : (if t137 = 0 then (if (t135.length : Int) = 1 then (if 0 < (t135.length : Int) then ((slices_Equal_int_int.f k ((rd_T31 t135 0).f2) (([a0] : List Int))).bind fun t144 => (ontimelaw51_ScriptNumbers.j0 k a1 t134 (!t144))) else (none)) else (ontimelaw51_ScriptNumbers.j0 k a1 t134 true)) else (ontimelaw51_ScriptNumbers.j0 k a1 t134 true)) = some r := H
        have A8 := Aside0.mk A80
        clear A80
        have HC9 := Aside0.mk H
        clear H
        go_enter Tryd.func3, Tryd.ntmps3
        go_upto_region 5 with (first | ((with_reducible refine gate_callee (f := 8) rfl ?_); refine goesL_ (some 14) rfl rfl Tryd.func8 (by kernel_rfl) rfl #[] rfl (by (try simp only [List.map_toArray, List.map_cons, List.map_nil]); first | done | rfl | (simp only [List.length_drop, List.length_take]; rfl)) ?_; (with_reducible refine (ontimelaw51_awake.calls k  true _ A3.out (EnvW.below hE (by repeat (first | (with_reducible first | exact HB.out | apply below_alloc | apply pw_below_drewN | apply below_drew1) | exact HB.out)))).mono ?_); rintro e w10 ⟨rfl, hb⟩; refine ⟨_, rfl, ?_⟩; have n0_ := Aside0.mk (below_step (by repeat (first | (with_reducible first | exact HB.out | apply below_alloc | apply pw_below_drewN | apply below_drew1) | exact HB.out)) hb); clear HB; have HB := n0_; clear n0_; (try clear hb); (try clear hb2); (try clear hk); (try clear hi)) | ((with_reducible refine gate_callee (f := 9) rfl ?_); refine goesL_ (some 17) rfl rfl Tryd.func9 (by kernel_rfl) rfl #[.int .i64 a0] rfl (by (try simp only [List.map_toArray, List.map_cons, List.map_nil]); first | done | rfl | (simp only [List.length_drop, List.length_take]; rfl)) ?_; (with_reducible refine (ontimeref51_Number.calls k a0 t134 _ A5.out).mono ?_); rintro e w11 ⟨rfl, hb⟩; refine ⟨_, rfl, ?_⟩; have n0_ := Aside0.mk (below_step (by repeat (first | (with_reducible first | exact HB.out | apply below_alloc | apply pw_below_drewN | apply below_drew1) | exact HB.out)) hb); clear HB; have HB := n0_; clear n0_; (try clear hb); (try clear hb2); (try clear hk); (try clear hi)) | ((with_reducible refine gate_callee (f := 10) rfl ?_); refine goesL_ (some 22) rfl rfl Tryd.func10 (by kernel_rfl) rfl #[.string (((⟨#[114, 117, 110, 32]⟩ : ByteArray) ++ t134) ++ (⟨#[10]⟩ : ByteArray))] rfl (by (try simp only [List.map_toArray, List.map_cons, List.map_nil]); first | done | rfl | (simp only [List.length_drop, List.length_take]; rfl)) ?_; (with_reducible refine (script_Parse.calls k (((⟨#[114, 117, 110, 32]⟩ : ByteArray) ++ t134) ++ (⟨#[10]⟩ : ByteArray)) t135 t136 t137 _ A8.out (EnvW.below hE (by repeat (first | (with_reducible first | exact HB.out | apply below_alloc | apply pw_below_drewN | apply below_drew1) | exact HB.out)))).mono ?_); rintro e w12 ⟨v138, rfl, ho0, hb⟩; refine ⟨_, rfl, ?_⟩; have n0_ := Aside0.mk (Kd.S_lower ho0 (below_size (by repeat (first | (with_reducible first | exact HB.out | apply below_alloc | apply pw_below_drewN | apply below_drew1) | exact HB.out)))); have n1_ := Aside0.mk (below_step (by repeat (first | (with_reducible first | exact HB.out | apply below_alloc | apply pw_below_drewN | apply below_drew1) | exact HB.out)) hb); clear HB; have HO139 := n0_; have HB := n1_; clear n0_ n1_; (try clear hb); (try clear hb2); (try clear hk); (try clear hi); (try clear ho0)))
        (try simp only [Act.put, List.setIfInBounds_toArray, List.set_cons_zero, List.set_cons_succ])
        go_cut [42] (fun v42 wc => ∃ (kq : Nat) (x42_8 : Bool), v42 = .bool x42_8 ∧ Aside0 (ontimelaw51_ScriptNumbers.j0 kq a1 t134 x42_8 = some r) ∧ Aside0 (kq ≤ k) ∧ Aside0 (Below w.heap.size w wc))
        case first =>
          have H := HC9.out
          clear HC9
          by_cases c13 : t137 = 0
          · rw [if_pos c13] at H
            have c13b0 : (t137 == 0) = true := beq_iff_eq.mpr c13
            have c13b1 : (t137 != 0) = false := bne_eq_false_iff_eq.mpr c13
            clear c13
            (first | rw [c13b0] | (simp only [i64_w, i32_w]; rw [c13b0]) | skip)
            by_cases c14 : (t135.length : Int) = 1
            · rw [if_pos c14] at H
              have c14b0 : ((t135.length : Int) == 1) = true := beq_iff_eq.mpr c14
              have c14b1 : ((t135.length : Int) != 1) = false := bne_eq_false_iff_eq.mpr c14
              clear c14
              by_cases c15 : 0 < (t135.length : Int)
              · rw [if_pos c15] at H
                have c15b0 : decide (0 < (t135.length : Int)) = true := decide_eq_true c15
                have c15b1 : decide (0 < t135.length) = true := decide_eq_true (by omega)
                clear c15
                obtain ⟨y141, hy141⟩ : ∃ y_ : List Int, y_ = (([a0] : List Int)) := ⟨_, rfl⟩
                replace H : ((slices_Equal_int_int.f k ((rd_T31 t135 0).f2) y141).bind fun t144 => (ontimelaw51_ScriptNumbers.j0 k a1 t134 (!t144))) = some r := by first | (rw [hy141]; with_reducible exact H) | (have H2_ := (Option.bind_some _ _).symm.trans H; rw [hy141]; with_reducible exact H2_) | (have H2_ := (Option.bind_some _ _).symm.trans H; with_reducible exact H2_) | with_reducible exact H | (rw [hy141]; exact H) | exact H
                have Ny141 := Aside0.mk hy141
                clear hy141
                replace H := Option.bind_eq_some_iff.mp H
                obtain ⟨t144, A160, H⟩ := H
                replace H : (ontimelaw51_ScriptNumbers.j0 k a1 t134 (!t144)) = some r := H
                have A16 := Aside0.mk A160
                clear A160
                have H' := Aside0.mk H
                clear H
                obtain ⟨Ao17, co17, eo17⟩ := Kd.S_slice HO139.out
                subst eo17
                have p140 : 0 ≤ (0 : Int) := (by omega)
                have q140 : 0 < (t135.length : Int) := of_decide_eq_true (by first | (with_reducible assumption) | assumption)
                obtain ⟨ad140, A140_2, c140_2, e140, hx140_0, hx140_1, hx140_2, hx140_3, hl140_2, hi140_2⟩ := at_T31 (Kd.S_reads' HO139.out).2.2 0 p140 q140
                cases e140
                obtain ⟨ce140, hce140, hMe140, hcc140⟩ := Kd.S_get HO139.out z31 0 p140 (by first | exact q140 | exact of_decide_eq_true (by first | (with_reducible assumption) | assumption) | (have e_ := (Kd.S_reads' HO139.out).1; omega))
                obtain ⟨ve140_2, rfl, ge140_2⟩ := k31_openM hMe140
                have hv140_2 := hcc140 2 _ rfl
                rw [add_field _ _ 2 (by omega)] at hv140_2
                replace hv140_2 := Option.some.inj (hv140_2.symm.trans hx140_2)
                rw [hv140_2] at ge140_2
                have HL140_2 := Aside0.mk (show Kd.R (Kd.int .i64) 3 _ _ _ _ ((rd_T31 t135 0).f2) from ge140_2)
                clear hv140_2 ge140_2
                clear hcc140 hce140
                have qi140 : (0 < t135.length) = True := eq_true (by omega)
                (try rw [show ((0 : Int)).toNat = 0 from rfl] at hx140_0)
                (try rw [show 0 * 4 = 0 from rfl] at hx140_0)
                (try rw [Addr.add_zero'] at hx140_0)
                (try rw [show ((0 : Int)).toNat = 0 from rfl] at hx140_1)
                (try rw [show 0 * 4 = 0 from rfl] at hx140_1)
                (try rw [Addr.add_zero'] at hx140_1)
                (try rw [show ((0 : Int)).toNat = 0 from rfl] at hx140_2)
                (try rw [show 0 * 4 = 0 from rfl] at hx140_2)
                (try rw [Addr.add_zero'] at hx140_2)
                (try rw [show ((0 : Int)).toNat = 0 from rfl] at hx140_3)
                (try rw [show 0 * 4 = 0 from rfl] at hx140_3)
                (try rw [Addr.add_zero'] at hx140_3)
                have HR140_2 := Aside0.mk hi140_2
                have HC140_2 := Aside0.mk hl140_2
                clear hi140_2 hl140_2
                replace p140 := eq_true p140
                replace q140 := eq_true q140
                go_wp2_with (first | ((with_reducible refine gate_dst (N := 39) rfl ?_); (try (refine gate_guard (by rfl) ?_; dsimp only)); refine Kd.R_lit (Kd.int .i64) _ 3 ?hg (N := 39) ?hd (xs := ([a0] : List Int)) (inner := [.int .i64 a0]) (ok := fun _ => True) (okp := fun _ => True) ?hr ?hp (fun _ hk => hk) trivial (Below.refl _ _) (Nat.le_refl _) (by simp) ?_; (case hd => rfl); (case hg => rfl); (case hr => first | (go_simp; done) | (go_simp; rfl)); (case hp => exact (Reps.one (show Kd.M (Kd.int .i64) _ _ _ a0 [.int .i64 a0] from rfl) (Reps.none _ _))); intro v142 w18 ho19 hb hg_ hnew_; clear hg_ hnew_; (first | rw [← Ny141.out] at ho19 | (simp only [Int.reduceToNat] at ho19; rw [← Ny141.out] at ho19)); have n0_ := Aside0.mk (Kd.S_elder' (by (with_reducible repeat (first | apply Kd.S_alloc | apply Kd.S_drewN | apply Kd.S_drew)); exact HO139.out) (Kd.R_base ho19) hb); have n1_ := Aside0.mk (Kd.R_elder' (by (with_reducible repeat (first | apply Kd.R_alloc | apply Kd.R_drewN | apply Kd.R_drew)); exact HL140_2.out) (Kd.R_base ho19) hb); have n2_ := Aside0.mk (Kd.R_lower (Kd.R_new' ho19 (Kd.R_lt (by (with_reducible repeat (first | apply Kd.R_alloc | apply Kd.R_drewN | apply Kd.R_drew)); exact HL140_2.out))) (below_size (by repeat (first | (with_reducible first | exact HB.out | apply below_alloc | apply pw_below_drewN | apply below_drew1) | exact HB.out)))); have n3_ := Aside0.mk (Kd.C_below (by repeat (first | (with_reducible exact HR140_2.out) | (with_reducible refine Kd.C_alloc ?_ _) | (with_reducible refine Kd.C_drewN ?_ _) | (with_reducible refine Kd.C_drew ?_) | exact HR140_2.out)) hb); have n4_ := Aside0.mk (below_step (by repeat (first | (with_reducible first | exact HB.out | apply below_alloc | apply pw_below_drewN | apply below_drew1) | exact HB.out)) hb); clear HO139; clear HL140_2; clear HR140_2; clear HB; have HO139 := n0_; have HL140_2 := n1_; have HO143 := n2_; have HR140_2 := n3_; have HB := n4_; clear n0_ n1_ n2_ n3_ n4_; clear hb ho19; obtain ⟨Ao20, co20, eo20⟩ := Kd.R_slice HO143.out; subst eo20) | (go_at_call 11; (with_reducible refine (slices_Equal_int_int.calls k _ _ ((rd_T31 t135 0).f2) _ _ y141 t144 _ ?side1 ?side2 ?side3 ?side4 A16.out).mono ?_); (case side1 => repeat (first | exact (by repeat (first | (with_reducible exact HR140_2.out) | (with_reducible refine Kd.C_alloc ?_ _) | (with_reducible refine Kd.C_drewN ?_ _) | (with_reducible refine Kd.C_drew ?_) | exact HR140_2.out)) | (with_reducible refine Kd.C_alloc ?_ _) | (with_reducible refine Kd.C_drewN ?_ _) | (with_reducible refine Kd.C_drew ?_))); (case side2 => exact HC140_2.out); (case side3 => repeat (first | exact (Kd.R_reads' HO143.out).2.2 | (with_reducible refine Kd.C_alloc ?_ _) | (with_reducible refine Kd.C_drewN ?_ _) | (with_reducible refine Kd.C_drew ?_))); (case side4 => exact (Kd.R_reads' HO143.out).2.1); rintro e w' ⟨rfl, ⟨nd, rfl⟩⟩))
                go_meet
                case rel => exact ⟨_, (!t144), (by first | rfl | (simp; done) | (simp [*]; done)), H', ⟨by first | omega | exact Nat.le_refl _⟩, ⟨by repeat (first | (with_reducible first | exact HB.out | apply below_alloc | apply pw_below_drewN | apply below_drew1) | exact HB.out)⟩⟩
              · rw [if_neg c15] at H
                exact absurd H (by simp)
            · rw [if_neg c14] at H
              have c14b0 : ((t135.length : Int) == 1) = false := beq_eq_false_iff_ne.mpr c14
              have c14b1 : ((t135.length : Int) != 1) = true := bne_iff_ne.mpr c14
              have H' := Aside0.mk H
              clear H
              obtain ⟨Ao21, co21, eo21⟩ := Kd.S_slice HO139.out
              subst eo21
              go_wp2
              go_meet
              case rel => exact ⟨_, (true), (by first | rfl | (simp; done) | (simp [*]; done)), H', ⟨by first | omega | exact Nat.le_refl _⟩, ⟨by repeat (first | (with_reducible first | exact HB.out | apply below_alloc | apply pw_below_drewN | apply below_drew1) | exact HB.out)⟩⟩
          · rw [if_neg c13] at H
            have c13b0 : (t137 == 0) = false := beq_eq_false_iff_ne.mpr c13
            have c13b1 : (t137 != 0) = true := bne_iff_ne.mpr c13
            (first | rw [c13b0] | (simp only [i64_w, i32_w]; rw [c13b0]) | skip)
            have H' := Aside0.mk H
            clear H
            go_wp2
            go_meet
            case rel => exact ⟨_, (true), (by first | rfl | (simp; done) | (simp [*]; done)), H', ⟨by first | omega | exact Nat.le_refl _⟩, ⟨by repeat (first | (with_reducible first | exact HB.out | apply below_alloc | apply pw_below_drewN | apply below_drew1) | exact HB.out)⟩⟩
        case rest =>
          clear HC9
          try clear c1
          try clear p1
          try clear q1
          try clear hx1
          try clear qi1
          try clear p2
          try clear c3
          try clear c4
          try clear c6
          try clear c6b0
          try clear c6b1
          try clear c6b2
          try clear c7
          try clear c7b0
          try clear c7b1
          try clear c7b2
          try clear c8
          try clear c9
          try clear c10
          try clear c13
          try clear c13b0
          try clear c13b1
          try clear c14
          try clear c14b0
          try clear c14b1
          try clear p14
          try clear q14
          try clear hx14
          try clear qi14
          try clear c15
          try clear c15b0
          try clear c15b1
          try clear hx140_0
          try clear hx140_1
          try clear hx140_2
          try clear hx140_3
          try clear p140
          try clear q140
          obtain ⟨kq, x42_8, rfl, HA, HJ8, HB⟩ := hcut
          cases kq with
          | zero => exact absurd HA.out (by simp [ontimelaw51_ScriptNumbers.j0])
          | succ kj8 =>
            have H := HA.out
            clear HA
            simp only [ontimelaw51_ScriptNumbers.j0] at H
            by_cases c22 : x42_8 = true
            · subst c22
              have H1 : (some false) = some r := by rw [if_pos rfl] at H; exact H
              clear H
              have H := H1
              clear H1
              obtain rfl := Option.some.inj H
              go_wp2
              go_ret
              exact ⟨by first | rfl | (simp [errW_none, errW_some] <;> rfl) | (simp [*, errW_none, errW_some] <;> rfl), by repeat (first | (with_reducible first | exact HB.out | apply below_alloc | apply pw_below_drewN | apply below_drew1) | exact HB.out)⟩
            · replace c22 := Bool.eq_false_iff.mpr c22
              subst c22
              have H1 : (if 1 + t134.size ≤ 9223372036854775807 then ((strings_TrimPrefix.f t134 (⟨#[45]⟩ : ByteArray)).bind fun t145 => (if 2 + t145.size ≤ 9223372036854775807 then (if t134.size + 1 ≤ 9223372036854775807 then ((strings_Repeat.f (⟨#[45]⟩ : ByteArray) (Int.tmod (wrap64 (a1)) 3)).bind fun t146 => (if 1 + t146.size ≤ 9223372036854775807 then (if ((⟨#[45]⟩ : ByteArray) ++ t146).size + 1 ≤ 9223372036854775807 then ((strings_Repeat.f (⟨#[57]⟩ : ByteArray) (wrap64 (20 + (Int.tmod (wrap64 (a1)) 30)))).bind fun t147 => ((some (([(⟨#[48]⟩ : ByteArray) ++ t134, (⟨#[43]⟩ : ByteArray) ++ t134, (⟨#[45, 48]⟩ : ByteArray) ++ t145, t134 ++ (⟨#[32]⟩ : ByteArray), (⟨#[32]⟩ : ByteArray) ++ t134, t134 ++ (⟨#[46]⟩ : ByteArray), ((⟨#[45]⟩ : ByteArray) ++ t146) ++ (⟨#[120]⟩ : ByteArray), t147, (⟨#[]⟩ : ByteArray)] : List ByteArray) : List ByteArray)).bind fun y148 => (ontimelaw51_ScriptNumbers.l0 kj8 y148 (y148.length : Int) 0))) else (none)) else (none))) else (none)) else (none))) else (none)) = some r := by rw [if_neg (show ¬ (false = true) by decide)] at H; exact H
              clear H
              have H := H1
              clear H1
              by_cases c23 : 1 + t134.size ≤ 9223372036854775807
              · rw [if_pos c23] at H
                have c23b0 := eq_true c23
                have c23b1 : decide (1 + t134.size ≤ 9223372036854775807) = true := decide_eq_true c23
                try have c23b2 : (9223372036854775807 < 1 + t134.size) = False := eq_false (Nat.not_lt.2 c23)
                replace H := Option.bind_eq_some_iff.mp H
                obtain ⟨t145, A240, H⟩ := H
                replace H : (if 2 + t145.size ≤ 9223372036854775807 then (if t134.size + 1 ≤ 9223372036854775807 then ((strings_Repeat.f (⟨#[45]⟩ : ByteArray) (Int.tmod (wrap64 (a1)) 3)).bind fun t146 => (if 1 + t146.size ≤ 9223372036854775807 then (if ((⟨#[45]⟩ : ByteArray) ++ t146).size + 1 ≤ 9223372036854775807 then ((strings_Repeat.f (⟨#[57]⟩ : ByteArray) (wrap64 (20 + (Int.tmod (wrap64 (a1)) 30)))).bind fun t147 => ((some (([(⟨#[48]⟩ : ByteArray) ++ t134, (⟨#[43]⟩ : ByteArray) ++ t134, (⟨#[45, 48]⟩ : ByteArray) ++ t145, t134 ++ (⟨#[32]⟩ : ByteArray), (⟨#[32]⟩ : ByteArray) ++ t134, t134 ++ (⟨#[46]⟩ : ByteArray), ((⟨#[45]⟩ : ByteArray) ++ t146) ++ (⟨#[120]⟩ : ByteArray), t147, (⟨#[]⟩ : ByteArray)] : List ByteArray) : List ByteArray)).bind fun y148 => (ontimelaw51_ScriptNumbers.l0 kj8 y148 (y148.length : Int) 0))) else (none)) else (none))) else (none)) else (none)) = some r := H
                have A24 := Aside0.mk A240
                clear A240
                by_cases c25 : 2 + t145.size ≤ 9223372036854775807
                · rw [if_pos c25] at H
                  have c25b0 := eq_true c25
                  have c25b1 : decide (2 + t145.size ≤ 9223372036854775807) = true := decide_eq_true c25
                  try have c25b2 : (9223372036854775807 < 2 + t145.size) = False := eq_false (Nat.not_lt.2 c25)
                  by_cases c26 : t134.size + 1 ≤ 9223372036854775807
                  · rw [if_pos c26] at H
                    have c26b0 := eq_true c26
                    have c26b1 : decide (t134.size + 1 ≤ 9223372036854775807) = true := decide_eq_true c26
                    try have c26b2 : (9223372036854775807 < t134.size + 1) = False := eq_false (Nat.not_lt.2 c26)
                    replace H := Option.bind_eq_some_iff.mp H
                    obtain ⟨t146, A270, H⟩ := H
                    replace H : (if 1 + t146.size ≤ 9223372036854775807 then (if ((⟨#[45]⟩ : ByteArray) ++ t146).size + 1 ≤ 9223372036854775807 then ((strings_Repeat.f (⟨#[57]⟩ : ByteArray) (wrap64 (20 + (Int.tmod (wrap64 (a1)) 30)))).bind fun t147 => ((some (([(⟨#[48]⟩ : ByteArray) ++ t134, (⟨#[43]⟩ : ByteArray) ++ t134, (⟨#[45, 48]⟩ : ByteArray) ++ t145, t134 ++ (⟨#[32]⟩ : ByteArray), (⟨#[32]⟩ : ByteArray) ++ t134, t134 ++ (⟨#[46]⟩ : ByteArray), ((⟨#[45]⟩ : ByteArray) ++ t146) ++ (⟨#[120]⟩ : ByteArray), t147, (⟨#[]⟩ : ByteArray)] : List ByteArray) : List ByteArray)).bind fun y148 => (ontimelaw51_ScriptNumbers.l0 kj8 y148 (y148.length : Int) 0))) else (none)) else (none)) = some r := H
                    have A27 := Aside0.mk A270
                    clear A270
                    by_cases c28 : 1 + t146.size ≤ 9223372036854775807
                    · rw [if_pos c28] at H
                      have c28b0 := eq_true c28
                      have c28b1 : decide (1 + t146.size ≤ 9223372036854775807) = true := decide_eq_true c28
                      try have c28b2 : (9223372036854775807 < 1 + t146.size) = False := eq_false (Nat.not_lt.2 c28)
                      by_cases c29 : ((⟨#[45]⟩ : ByteArray) ++ t146).size + 1 ≤ 9223372036854775807
                      · rw [if_pos c29] at H
                        have c29b0 := eq_true c29
                        have c29b1 : decide (((⟨#[45]⟩ : ByteArray) ++ t146).size + 1 ≤ 9223372036854775807) = true := decide_eq_true c29
                        try have c29b2 : (9223372036854775807 < ((⟨#[45]⟩ : ByteArray) ++ t146).size + 1) = False := eq_false (Nat.not_lt.2 c29)
                        have c29b3 : (9223372036854775807 < 1 + t146.size + 1) = False := eq_false (by have h_ := c29; rw [ByteArray.size_append] at h_; have e_ : (⟨#[45]⟩ : ByteArray).size = 1 := rfl; omega)
                        replace H := Option.bind_eq_some_iff.mp H
                        obtain ⟨t147, A300, H⟩ := H
                        replace H : ((some (([(⟨#[48]⟩ : ByteArray) ++ t134, (⟨#[43]⟩ : ByteArray) ++ t134, (⟨#[45, 48]⟩ : ByteArray) ++ t145, t134 ++ (⟨#[32]⟩ : ByteArray), (⟨#[32]⟩ : ByteArray) ++ t134, t134 ++ (⟨#[46]⟩ : ByteArray), ((⟨#[45]⟩ : ByteArray) ++ t146) ++ (⟨#[120]⟩ : ByteArray), t147, (⟨#[]⟩ : ByteArray)] : List ByteArray) : List ByteArray)).bind fun y148 => (ontimelaw51_ScriptNumbers.l0 kj8 y148 (y148.length : Int) 0)) = some r := H
                        have A30 := Aside0.mk A300
                        clear A300
                        obtain ⟨y148, hy148⟩ : ∃ y_ : List ByteArray, y_ = (([(⟨#[48]⟩ : ByteArray) ++ t134, (⟨#[43]⟩ : ByteArray) ++ t134, (⟨#[45, 48]⟩ : ByteArray) ++ t145, t134 ++ (⟨#[32]⟩ : ByteArray), (⟨#[32]⟩ : ByteArray) ++ t134, t134 ++ (⟨#[46]⟩ : ByteArray), ((⟨#[45]⟩ : ByteArray) ++ t146) ++ (⟨#[120]⟩ : ByteArray), t147, (⟨#[]⟩ : ByteArray)] : List ByteArray)) := ⟨_, rfl⟩
                        replace H : (ontimelaw51_ScriptNumbers.l0 kj8 y148 (y148.length : Int) 0) = some r := by first | (rw [hy148]; with_reducible exact H) | (have H2_ := (Option.bind_some _ _).symm.trans H; rw [hy148]; with_reducible exact H2_) | (have H2_ := (Option.bind_some _ _).symm.trans H; with_reducible exact H2_) | with_reducible exact H | (rw [hy148]; exact H) | exact H
                        have Ny148 := Aside0.mk hy148
                        clear hy148
                        have H' := Aside0.mk H
                        clear H
                        go_wp2_with (first | ((with_reducible refine gate_callee (f := 12) rfl ?_); refine goesL_ (some 48) rfl rfl Tryd.func12 (by kernel_rfl) rfl #[.string t134, .string (⟨#[45]⟩ : ByteArray)] rfl (by (try simp only [List.map_toArray, List.map_cons, List.map_nil]); first | done | rfl | (simp only [List.length_drop, List.length_take]; rfl)) ?_; (with_reducible refine (strings_TrimPrefix.calls t134 (⟨#[45]⟩ : ByteArray) t145 _ A24.out).mono ?_); rintro e w31 ⟨rfl, hb⟩; refine ⟨_, rfl, ?_⟩; have n0_ := Aside0.mk (below_step (by repeat (first | (with_reducible first | exact HB.out | apply below_alloc | apply pw_below_drewN | apply below_drew1) | exact HB.out)) hb); clear HB; have HB := n0_; clear n0_; (try clear hb); (try clear hb2); (try clear hk); (try clear hi)) | ((with_reducible refine gate_callee (f := 13) rfl ?_); refine goesL_ (some 59) rfl rfl Tryd.func13 (by kernel_rfl) rfl #[.string (⟨#[45]⟩ : ByteArray), .int .i64 (Int.tmod (wrap64 (a1)) 3)] rfl (by (try simp only [List.map_toArray, List.map_cons, List.map_nil]); first | done | rfl | (simp only [List.length_drop, List.length_take]; rfl)) ?_; (with_reducible refine (strings_Repeat.calls (⟨#[45]⟩ : ByteArray) (Int.tmod (wrap64 (a1)) 3) t146 _ A27.out (EnvW.below hE (by repeat (first | (with_reducible first | exact HB.out | apply below_alloc | apply pw_below_drewN | apply below_drew1) | exact HB.out)))).mono ?_); rintro e w32 ⟨rfl, hb⟩; refine ⟨_, rfl, ?_⟩; have n0_ := Aside0.mk (below_step (by repeat (first | (with_reducible first | exact HB.out | apply below_alloc | apply pw_below_drewN | apply below_drew1) | exact HB.out)) hb); clear HB; have HB := n0_; clear n0_; (try clear hb); (try clear hb2); (try clear hk); (try clear hi)) | ((with_reducible refine gate_callee (f := 13) rfl ?_); refine goesL_ (some 66) rfl rfl Tryd.func13 (by kernel_rfl) rfl #[.string (⟨#[57]⟩ : ByteArray), .int .i64 (wrap64 (20 + (Int.tmod (wrap64 (a1)) 30)))] rfl (by (try simp only [List.map_toArray, List.map_cons, List.map_nil]); first | done | rfl | (simp only [List.length_drop, List.length_take]; rfl)) ?_; (with_reducible refine (strings_Repeat.calls (⟨#[57]⟩ : ByteArray) (wrap64 (20 + (Int.tmod (wrap64 (a1)) 30))) t147 _ A30.out (EnvW.below hE (by repeat (first | (with_reducible first | exact HB.out | apply below_alloc | apply pw_below_drewN | apply below_drew1) | exact HB.out)))).mono ?_); rintro e w33 ⟨rfl, hb⟩; refine ⟨_, rfl, ?_⟩; have n0_ := Aside0.mk (below_step (by repeat (first | (with_reducible first | exact HB.out | apply below_alloc | apply pw_below_drewN | apply below_drew1) | exact HB.out)) hb); clear HB; have HB := n0_; clear n0_; (try clear hb); (try clear hb2); (try clear hk); (try clear hi)) | ((with_reducible refine gate_dst (N := 67) rfl ?_); (try (refine gate_guard (by rfl) ?_; dsimp only)); refine Kd.R_lit Kd.string _ 9 ?hg (N := 67) ?hd (xs := ([(⟨#[48]⟩ : ByteArray) ++ t134, (⟨#[43]⟩ : ByteArray) ++ t134, (⟨#[45, 48]⟩ : ByteArray) ++ t145, t134 ++ (⟨#[32]⟩ : ByteArray), (⟨#[32]⟩ : ByteArray) ++ t134, t134 ++ (⟨#[46]⟩ : ByteArray), ((⟨#[45]⟩ : ByteArray) ++ t146) ++ (⟨#[120]⟩ : ByteArray), t147, (⟨#[]⟩ : ByteArray)] : List ByteArray)) (inner := [.string ((⟨#[48]⟩ : ByteArray) ++ t134), .string ((⟨#[43]⟩ : ByteArray) ++ t134), .string ((⟨#[45, 48]⟩ : ByteArray) ++ t145), .string (t134 ++ (⟨#[32]⟩ : ByteArray)), .string ((⟨#[32]⟩ : ByteArray) ++ t134), .string (t134 ++ (⟨#[46]⟩ : ByteArray)), .string (((⟨#[45]⟩ : ByteArray) ++ t146) ++ (⟨#[120]⟩ : ByteArray)), .string t147, .string (⟨#[]⟩ : ByteArray)]) (ok := fun _ => True) (okp := fun _ => True) ?hr ?hp (fun _ hk => hk) trivial (Below.refl _ _) (Nat.le_refl _) (by simp) ?_; (case hd => rfl); (case hg => rfl); (case hr => first | (go_simp; done) | (go_simp; rfl)); (case hp => exact (Reps.one (show Kd.M Kd.string _ _ _ ((⟨#[48]⟩ : ByteArray) ++ t134) [.string ((⟨#[48]⟩ : ByteArray) ++ t134)] from rfl) (Reps.one (show Kd.M Kd.string _ _ _ ((⟨#[43]⟩ : ByteArray) ++ t134) [.string ((⟨#[43]⟩ : ByteArray) ++ t134)] from rfl) (Reps.one (show Kd.M Kd.string _ _ _ ((⟨#[45, 48]⟩ : ByteArray) ++ t145) [.string ((⟨#[45, 48]⟩ : ByteArray) ++ t145)] from rfl) (Reps.one (show Kd.M Kd.string _ _ _ (t134 ++ (⟨#[32]⟩ : ByteArray)) [.string (t134 ++ (⟨#[32]⟩ : ByteArray))] from rfl) (Reps.one (show Kd.M Kd.string _ _ _ ((⟨#[32]⟩ : ByteArray) ++ t134) [.string ((⟨#[32]⟩ : ByteArray) ++ t134)] from rfl) (Reps.one (show Kd.M Kd.string _ _ _ (t134 ++ (⟨#[46]⟩ : ByteArray)) [.string (t134 ++ (⟨#[46]⟩ : ByteArray))] from rfl) (Reps.one (show Kd.M Kd.string _ _ _ (((⟨#[45]⟩ : ByteArray) ++ t146) ++ (⟨#[120]⟩ : ByteArray)) [.string (((⟨#[45]⟩ : ByteArray) ++ t146) ++ (⟨#[120]⟩ : ByteArray))] from rfl) (Reps.one (show Kd.M Kd.string _ _ _ t147 [.string t147] from rfl) (Reps.one (show Kd.M Kd.string _ _ _ (⟨#[]⟩ : ByteArray) [.string (⟨#[]⟩ : ByteArray)] from rfl) (Reps.none _ _))))))))))); intro v149 w34 ho35 hb hg_ hnew_; clear hg_ hnew_; (first | rw [← Ny148.out] at ho35 | (simp only [Int.reduceToNat] at ho35; rw [← Ny148.out] at ho35)); have n0_ := Aside0.mk (Kd.R_lower ho35 (below_size (by repeat (first | (with_reducible first | exact HB.out | apply below_alloc | apply pw_below_drewN | apply below_drew1) | exact HB.out)))); have n1_ := Aside0.mk (below_step (by repeat (first | (with_reducible first | exact HB.out | apply below_alloc | apply pw_below_drewN | apply below_drew1) | exact HB.out)) hb); clear HB; have HO150 := n0_; have HB := n1_; clear n0_ n1_; clear hb ho35; obtain ⟨Ao36, co36, eo36⟩ := Kd.R_slice HO150.out; subst eo36))
                        go_loopg [69] kj8 (fun kq v69 w' => ∃ (x69_2 : Int), v69 = .int .i64 x69_2 ∧ Aside0 (ontimelaw51_ScriptNumbers.l0 kq y148 (y148.length : Int) x69_2 = some r) ∧ Aside0 (kq ≤ kj8) ∧ Aside0 (Kd.R Kd.string 9 w' w.heap.size (fun _ => True) (.slice Ao36 y148.length co36) y148) ∧ Aside0 (Below w.heap.size w w'))
                        case atStart => exact ⟨(0), (by first | rfl | (simp; done) | (simp [*]; done)), H', ⟨Nat.le_refl _⟩, ⟨by (with_reducible repeat (first | apply Kd.R_alloc | apply Kd.R_drewN | apply Kd.R_drew)); exact HO150.out⟩, ⟨by repeat (first | (with_reducible first | exact HB.out | apply below_alloc | apply pw_below_drewN | apply below_drew1) | exact HB.out)⟩⟩
                        case round =>
                          clear H'
                          try clear c1
                          try clear p1
                          try clear q1
                          try clear hx1
                          try clear qi1
                          try clear c2
                          try clear p2
                          try clear c3
                          try clear c4
                          try clear c6
                          try clear c6b0
                          try clear c6b1
                          try clear c6b2
                          try clear p6
                          try clear c7
                          try clear c7b0
                          try clear c7b1
                          try clear c7b2
                          try clear c8
                          try clear c9
                          try clear c10
                          try clear c12
                          try clear c13
                          try clear c13b0
                          try clear c13b1
                          try clear c14
                          try clear c14b0
                          try clear c14b1
                          try clear p14
                          try clear q14
                          try clear hx14
                          try clear qi14
                          try clear c15
                          try clear c15b0
                          try clear c15b1
                          try clear c22
                          try clear c23
                          try clear c23b0
                          try clear c23b1
                          try clear c23b2
                          try clear c25
                          try clear c25b0
                          try clear c25b1
                          try clear c25b2
                          try clear c26
                          try clear c26b0
                          try clear c26b1
                          try clear c26b2
                          try clear c28
                          try clear c28b0
                          try clear c28b1
                          try clear c28b2
                          try clear c29
                          try clear c29b0
                          try clear c29b1
                          try clear c29b2
                          try clear hx140_0
                          try clear hx140_1
                          try clear hx140_2
                          try clear hx140_3
                          try clear p1
                          try clear p14
                          try clear p140
                          try clear p2
                          try clear q1
                          try clear q14
                          try clear q140
                          obtain ⟨x69_2, rfl, HA, HK2, HO_67, HB⟩ := hrel
                          cases gk with
                          | zero => exact absurd HA.out (by simp [ontimelaw51_ScriptNumbers.l0])
                          | succ k2 =>
                            have H := HA.out
                            clear HA
                            simp only [ontimelaw51_ScriptNumbers.l0] at H
                            by_cases c37 : x69_2 < (y148.length : Int)
                            · rw [if_pos c37] at H
                              have c37b0 : decide (x69_2 < (y148.length : Int)) = true := decide_eq_true c37
                              clear c37
                              by_cases c38 : 0 ≤ x69_2
                              · rw [if_pos c38] at H
                                have c38b0 : decide (0 ≤ x69_2) = true := decide_eq_true c38
                                clear c38
                                by_cases c39 : x69_2 < (y148.length : Int)
                                · rw [if_pos c39] at H
                                  have c39b0 : decide (x69_2 < (y148.length : Int)) = true := decide_eq_true c39
                                  clear c39
                                  by_cases c40 : 4 + (rdOf ByteArray.empty y148 x69_2).size ≤ 9223372036854775807
                                  · rw [if_pos c40] at H
                                    have c40b0 := eq_true c40
                                    have c40b1 : decide (4 + (rdOf ByteArray.empty y148 x69_2).size ≤ 9223372036854775807) = true := decide_eq_true c40
                                    try have c40b2 : (9223372036854775807 < 4 + (rdOf ByteArray.empty y148 x69_2).size) = False := eq_false (Nat.not_lt.2 c40)
                                    by_cases c41 : ((⟨#[114, 117, 110, 32]⟩ : ByteArray) ++ (rdOf ByteArray.empty y148 x69_2)).size + 1 ≤ 9223372036854775807
                                    · rw [if_pos c41] at H
                                      have c41b0 := eq_true c41
                                      have c41b1 : decide (((⟨#[114, 117, 110, 32]⟩ : ByteArray) ++ (rdOf ByteArray.empty y148 x69_2)).size + 1 ≤ 9223372036854775807) = true := decide_eq_true c41
                                      try have c41b2 : (9223372036854775807 < ((⟨#[114, 117, 110, 32]⟩ : ByteArray) ++ (rdOf ByteArray.empty y148 x69_2)).size + 1) = False := eq_false (Nat.not_lt.2 c41)
                                      have c41b3 : (9223372036854775807 < 4 + (rdOf ByteArray.empty y148 x69_2).size + 1) = False := eq_false (by have h_ := c41; rw [ByteArray.size_append] at h_; have e_ : (⟨#[114, 117, 110, 32]⟩ : ByteArray).size = 4 := rfl; omega)
                                      replace H := Option.bind_eq_some_iff.mp H
                                      obtain ⟨⟨t152, t153, t154⟩, A420, H⟩ := H
                                      replace H : (if t154 = 3 then (if t153 = 1 then (ontimelaw51_ScriptNumbers.l0 k2 y148 (y148.length : Int) (wrap64 (x69_2 + 1))) else (some false)) else (some false)) = some r := H
                                      have A42 := Aside0.mk A420
                                      clear A420
                                      by_cases c43 : t154 = 3
                                      · rw [if_pos c43] at H
                                        have c43b0 : (t154 == 3) = true := beq_iff_eq.mpr c43
                                        have c43b1 : (t154 != 3) = false := bne_eq_false_iff_eq.mpr c43
                                        clear c43
                                        by_cases c44 : t153 = 1
                                        · rw [if_pos c44] at H
                                          have c44b0 : (t153 == 1) = true := beq_iff_eq.mpr c44
                                          have c44b1 : (t153 != 1) = false := bne_eq_false_iff_eq.mpr c44
                                          clear c44
                                          have H' := Aside0.mk H
                                          clear H
                                          have p151 : 0 ≤ (x69_2 : Int) := of_decide_eq_true (by first | (with_reducible assumption) | assumption)
                                          have q151 : x69_2 < (y148.length : Int) := of_decide_eq_true (by first | (with_reducible assumption) | assumption)
                                          obtain ⟨ad151, e151, hx151_0⟩ := Kd.at_string (Kd.R_reads' HO_67.out).2.2 x69_2 p151 q151
                                          cases e151
                                          replace p151 := eq_true p151
                                          replace q151 := eq_true q151
                                          go_wp2_with (first | ((with_reducible refine gate_callee (f := 10) rfl ?_); refine goesL_ (some 77) rfl rfl Tryd.func10 (by kernel_rfl) rfl #[.string (((⟨#[114, 117, 110, 32]⟩ : ByteArray) ++ (rdOf ByteArray.empty y148 x69_2)) ++ (⟨#[10]⟩ : ByteArray))] rfl (by (try simp only [List.map_toArray, List.map_cons, List.map_nil]); first | done | rfl | (simp only [List.length_drop, List.length_take]; rfl)) ?_; (with_reducible refine (script_Parse.calls k2 (((⟨#[114, 117, 110, 32]⟩ : ByteArray) ++ (rdOf ByteArray.empty y148 x69_2)) ++ (⟨#[10]⟩ : ByteArray)) t152 t153 t154 _ A42.out (EnvW.below hE (by repeat (first | (with_reducible first | exact HB.out | apply below_alloc | apply pw_below_drewN | apply below_drew1) | exact HB.out)))).mono ?_); rintro e w45 ⟨v155, rfl, ho0, hb⟩; refine ⟨_, rfl, ?_⟩; have n0_ := Aside0.mk (Kd.R_below (by (with_reducible repeat (first | apply Kd.R_alloc | apply Kd.R_drewN | apply Kd.R_drew)); exact HO_67.out) hb); have n1_ := Aside0.mk (Kd.S_lower ho0 (below_size (by repeat (first | (with_reducible first | exact HB.out | apply below_alloc | apply pw_below_drewN | apply below_drew1) | exact HB.out)))); have n2_ := Aside0.mk (below_step (by repeat (first | (with_reducible first | exact HB.out | apply below_alloc | apply pw_below_drewN | apply below_drew1) | exact HB.out)) hb); clear HO_67; clear HB; have HO_67 := n0_; have HO156 := n1_; have HB := n2_; clear n0_ n1_ n2_; (try clear hb); (try clear hb2); (try clear hk); (try clear hi); (try clear ho0)))
                                          go_roundg k2
                                          case measure => have := HJ8.out; have := HK2.out; omega
                                          case rel => exact ⟨(wrap64 (x69_2 + 1)), (by first | rfl | (simp; done) | (simp [*]; done)), H', ⟨by have := HJ8.out; have := HK2.out; omega⟩, ⟨by (with_reducible repeat (first | apply Kd.R_alloc | apply Kd.R_drewN | apply Kd.R_drew)); exact HO_67.out⟩, ⟨by repeat (first | (with_reducible first | exact HB.out | apply below_alloc | apply pw_below_drewN | apply below_drew1) | exact HB.out)⟩⟩
                                        · rw [if_neg c44] at H
                                          have c44b0 : (t153 == 1) = false := beq_eq_false_iff_ne.mpr c44
                                          have c44b1 : (t153 != 1) = true := bne_iff_ne.mpr c44
                                          obtain rfl := Option.some.inj H
                                          have p151 : 0 ≤ (x69_2 : Int) := of_decide_eq_true (by first | (with_reducible assumption) | assumption)
                                          have q151 : x69_2 < (y148.length : Int) := of_decide_eq_true (by first | (with_reducible assumption) | assumption)
                                          obtain ⟨ad151, e151, hx151_0⟩ := Kd.at_string (Kd.R_reads' HO_67.out).2.2 x69_2 p151 q151
                                          cases e151
                                          replace p151 := eq_true p151
                                          replace q151 := eq_true q151
                                          go_wp2_with (first | ((with_reducible refine gate_callee (f := 10) rfl ?_); refine goesL_ (some 77) rfl rfl Tryd.func10 (by kernel_rfl) rfl #[.string (((⟨#[114, 117, 110, 32]⟩ : ByteArray) ++ (rdOf ByteArray.empty y148 x69_2)) ++ (⟨#[10]⟩ : ByteArray))] rfl (by (try simp only [List.map_toArray, List.map_cons, List.map_nil]); first | done | rfl | (simp only [List.length_drop, List.length_take]; rfl)) ?_; (with_reducible refine (script_Parse.calls k2 (((⟨#[114, 117, 110, 32]⟩ : ByteArray) ++ (rdOf ByteArray.empty y148 x69_2)) ++ (⟨#[10]⟩ : ByteArray)) t152 t153 t154 _ A42.out (EnvW.below hE (by repeat (first | (with_reducible first | exact HB.out | apply below_alloc | apply pw_below_drewN | apply below_drew1) | exact HB.out)))).mono ?_); rintro e w46 ⟨v155, rfl, ho0, hb⟩; refine ⟨_, rfl, ?_⟩; have n0_ := Aside0.mk (Kd.R_below (by (with_reducible repeat (first | apply Kd.R_alloc | apply Kd.R_drewN | apply Kd.R_drew)); exact HO_67.out) hb); have n1_ := Aside0.mk (Kd.S_lower ho0 (below_size (by repeat (first | (with_reducible first | exact HB.out | apply below_alloc | apply pw_below_drewN | apply below_drew1) | exact HB.out)))); have n2_ := Aside0.mk (below_step (by repeat (first | (with_reducible first | exact HB.out | apply below_alloc | apply pw_below_drewN | apply below_drew1) | exact HB.out)) hb); clear HO_67; clear HB; have HO_67 := n0_; have HO156 := n1_; have HB := n2_; clear n0_ n1_ n2_; (try clear hb); (try clear hb2); (try clear hk); (try clear hi); (try clear ho0)))
                                          go_ret
                                          exact ⟨by first | rfl | (simp [errW_none, errW_some] <;> rfl) | (simp [*, errW_none, errW_some] <;> rfl), by repeat (first | (with_reducible first | exact HB.out | apply below_alloc | apply pw_below_drewN | apply below_drew1) | exact HB.out)⟩
                                      · rw [if_neg c43] at H
                                        have c43b0 : (t154 == 3) = false := beq_eq_false_iff_ne.mpr c43
                                        have c43b1 : (t154 != 3) = true := bne_iff_ne.mpr c43
                                        obtain rfl := Option.some.inj H
                                        have p151 : 0 ≤ (x69_2 : Int) := of_decide_eq_true (by first | (with_reducible assumption) | assumption)
                                        have q151 : x69_2 < (y148.length : Int) := of_decide_eq_true (by first | (with_reducible assumption) | assumption)
                                        obtain ⟨ad151, e151, hx151_0⟩ := Kd.at_string (Kd.R_reads' HO_67.out).2.2 x69_2 p151 q151
                                        cases e151
                                        replace p151 := eq_true p151
                                        replace q151 := eq_true q151
                                        go_wp2_with (first | ((with_reducible refine gate_callee (f := 10) rfl ?_); refine goesL_ (some 77) rfl rfl Tryd.func10 (by kernel_rfl) rfl #[.string (((⟨#[114, 117, 110, 32]⟩ : ByteArray) ++ (rdOf ByteArray.empty y148 x69_2)) ++ (⟨#[10]⟩ : ByteArray))] rfl (by (try simp only [List.map_toArray, List.map_cons, List.map_nil]); first | done | rfl | (simp only [List.length_drop, List.length_take]; rfl)) ?_; (with_reducible refine (script_Parse.calls k2 (((⟨#[114, 117, 110, 32]⟩ : ByteArray) ++ (rdOf ByteArray.empty y148 x69_2)) ++ (⟨#[10]⟩ : ByteArray)) t152 t153 t154 _ A42.out (EnvW.below hE (by repeat (first | (with_reducible first | exact HB.out | apply below_alloc | apply pw_below_drewN | apply below_drew1) | exact HB.out)))).mono ?_); rintro e w47 ⟨v155, rfl, ho0, hb⟩; refine ⟨_, rfl, ?_⟩; have n0_ := Aside0.mk (Kd.R_below (by (with_reducible repeat (first | apply Kd.R_alloc | apply Kd.R_drewN | apply Kd.R_drew)); exact HO_67.out) hb); have n1_ := Aside0.mk (Kd.S_lower ho0 (below_size (by repeat (first | (with_reducible first | exact HB.out | apply below_alloc | apply pw_below_drewN | apply below_drew1) | exact HB.out)))); have n2_ := Aside0.mk (below_step (by repeat (first | (with_reducible first | exact HB.out | apply below_alloc | apply pw_below_drewN | apply below_drew1) | exact HB.out)) hb); clear HO_67; clear HB; have HO_67 := n0_; have HO156 := n1_; have HB := n2_; clear n0_ n1_ n2_; (try clear hb); (try clear hb2); (try clear hk); (try clear hi); (try clear ho0)))
                                        go_ret
                                        exact ⟨by first | rfl | (simp [errW_none, errW_some] <;> rfl) | (simp [*, errW_none, errW_some] <;> rfl), by repeat (first | (with_reducible first | exact HB.out | apply below_alloc | apply pw_below_drewN | apply below_drew1) | exact HB.out)⟩
                                    · rw [if_neg c41] at H
                                      exact absurd H (by simp)
                                  · rw [if_neg c40] at H
                                    exact absurd H (by simp)
                                · rw [if_neg c39] at H
                                  exact absurd H (by simp)
                              · rw [if_neg c38] at H
                                exact absurd H (by simp)
                            · rw [if_neg c37] at H
                              have c37b0 : decide (x69_2 < (y148.length : Int)) = false := decide_eq_false c37
                              clear c37
                              obtain rfl := Option.some.inj H
                              go_wp2
                              go_ret
                              exact ⟨by first | rfl | (simp [errW_none, errW_some] <;> rfl) | (simp [*, errW_none, errW_some] <;> rfl), by repeat (first | (with_reducible first | exact HB.out | apply below_alloc | apply pw_below_drewN | apply below_drew1) | exact HB.out)⟩
                      · rw [if_neg c29] at H
                        exact absurd H (by simp)
                    · rw [if_neg c28] at H
                      exact absurd H (by simp)
                  · rw [if_neg c26] at H
                    exact absurd H (by simp)
                · rw [if_neg c25] at H
                  exact absurd H (by simp)
              · rw [if_neg c23] at H
                exact absurd H (by simp)
      · rw [if_neg c7] at H
        exact absurd H (by simp)
    · rw [if_neg c6] at H
      exact absurd H (by simp)
  · replace c4 := Bool.eq_false_iff.mpr c4
    subst c4
    have H1 : (some false) = some r := by rw [if_neg (show ¬ (false = true) by decide)] at H; exact H
    clear H
    have H := H1
    clear H1
    obtain rfl := Option.some.inj H
    go_enter Tryd.func3, Tryd.ntmps3
    go_wp2_with (first | ((with_reducible refine gate_callee (f := 8) rfl ?_); refine goesL_ (some 14) rfl rfl Tryd.func8 (by kernel_rfl) rfl #[] rfl (by (try simp only [List.map_toArray, List.map_cons, List.map_nil]); first | done | rfl | (simp only [List.length_drop, List.length_take]; rfl)) ?_; (with_reducible refine (ontimelaw51_awake.calls k  false _ A3.out (EnvW.below hE (by repeat (first | (with_reducible first | exact HB.out | apply below_alloc | apply pw_below_drewN | apply below_drew1) | exact HB.out)))).mono ?_); rintro e w48 ⟨rfl, hb⟩; refine ⟨_, rfl, ?_⟩; have n0_ := Aside0.mk (below_step (by repeat (first | (with_reducible first | exact HB.out | apply below_alloc | apply pw_below_drewN | apply below_drew1) | exact HB.out)) hb); clear HB; have HB := n0_; clear n0_; (try clear hb); (try clear hb2); (try clear hk); (try clear hi)))
    go_ret
    exact ⟨by first | rfl | (simp [errW_none, errW_some] <;> rfl) | (simp [*, errW_none, errW_some] <;> rfl), by repeat (first | (with_reducible first | exact HB.out | apply below_alloc | apply pw_below_drewN | apply below_drew1) | exact HB.out)⟩

end Go.Proofs.YtmciflmlpnpkaaaDoor.Pa
