-- Lines by a program of this session's (wip/gprint.py over the kit's printing program): the walks of plain functions. Not trusted: Lean checks it.
import Derived.Test.YtmgafakahbanaaaDoorPdx0
import Derived.Test.YtmgafakahbanaaaDoorPdx1
import Derived.Test.YtmgafakahbanaaaDoorPdx2
namespace Go.Proofs.YtmgafakahbanaaaDoor.Pa
open Go.RowKit Go.Proofs.YtmgafakahbanaaaDoorW.PrintWords Go.Proofs.YtmgafakahbanaaaDoorW.PrintLast Go.Proofs.YtmgafakahbanaaaDoorW.PrintMore
attribute [local go_sem] max2_int min2_int max_two min_two max_three min_three max_four min_four   -- for this text's walks alone
set_option linter.unusedVariables false
set_option linter.unusedSimpArgs false

attribute [local go_sem high] eqA48
/-! ### ontimelaw05_AsmDecodes: function 10 -/
mutual
def ontimelaw05_AsmDecodes.l0 : Nat → List Int → List (S48) → Int → Int → Int → Option (Bool)
  | 0, _, _, _, _, _ => none
  | k + 1, x0, x3, x4, x5, x6 => if x6 < (x0.length : Int) then (if 0 ≤ x6 then ((isa_Decode.f (rd x0 x6)).bind fun bt143 => (if bt143.2.2.2.2.2 = 0 then (if x5 = 0 then (if x6 ≥ (x3.length : Int) then (some false) else (if x6 < (x3.length : Int) then (if (!(((rd_T48 x3 x6).f0) == bt143.1) || (!(((rd_T48 x3 x6).f1) == bt143.2.1) || (!(((rd_T48 x3 x6).f2) == bt143.2.2.1) || (!(((rd_T48 x3 x6).f3) == bt143.2.2.2.1) || (!(((rd_T48 x3 x6).f4) == bt143.2.2.2.2.1)))))) = true then (some false) else (ontimelaw05_AsmDecodes.l0 k x0 x3 x4 x5 (wrap64 (x6 + 1)))) else (none))) else (ontimelaw05_AsmDecodes.l0 k x0 x3 x4 x5 (wrap64 (x6 + 1)))) else (if x5 = 3 then (if x4 = x6 then (some ((x3.length : Int) == 0)) else (some false)) else (some false)))) else (none)) else (if x5 = 0 then (if x4 = 0 then (ontimelaw05_AsmDecodes.j1 k x0 x3 ((x3.length : Int) != (x0.length : Int))) else (ontimelaw05_AsmDecodes.j1 k x0 x3 true)) else (ontimelaw05_AsmDecodes.j1 k x0 x3 true))
def ontimelaw05_AsmDecodes.j1 : Nat → List Int → List (S48) → Bool → Option (Bool)
  | 0, _, _, _ => none
  | k + 1, x0, x3, x79 => if x79 = true then (some false) else ((asm_Assemble.f k x3).bind fun bt151 => (if bt151.2 = 0 then (ontimelaw05_AsmDecodes.j2 k x0 bt151.1 ((bt151.1.length : Int) != (x0.length : Int))) else (ontimelaw05_AsmDecodes.j2 k x0 bt151.1 true)))
def ontimelaw05_AsmDecodes.j2 : Nat → List Int → List Int → Bool → Option (Bool)
  | 0, _, _, _ => none
  | k + 1, x0, x9, x93 => if x93 = true then (some false) else (ontimelaw05_AsmDecodes.l1 k x0 x9 0)
def ontimelaw05_AsmDecodes.l1 : Nat → List Int → List Int → Int → Option (Bool)
  | 0, _, _, _ => none
  | k + 1, x0, x9, x11 => if x11 < (x0.length : Int) then (if 0 ≤ x11 then (if x11 < (x9.length : Int) then (if (rd x9 x11) = (rd x0 x11) then (ontimelaw05_AsmDecodes.l1 k x0 x9 (wrap64 (x11 + 1))) else (some false)) else (none)) else (none)) else (some true)
end
def ontimelaw05_AsmDecodes.f (k : Nat) (l0 : List Int) : Option (Bool) := (ontimelaw05_awake.f).bind fun t136 => (if t136 = true then (if (l0.length : Int) > 40 then (some true) else ((asm_Disassemble.f k l0).bind fun bt137 => (ontimelaw05_AsmDecodes.l0 k l0 bt137.1 bt137.2.1 bt137.2.2 0))) else (some false))
theorem ontimelaw05_AsmDecodes.mono_l : ∀ k, (∀ y0 y1 y2 y3 y4, LeO (ontimelaw05_AsmDecodes.l0 k y0 y1 y2 y3 y4) (ontimelaw05_AsmDecodes.l0 (k + 1) y0 y1 y2 y3 y4)) ∧ (∀ y0 y1 y2, LeO (ontimelaw05_AsmDecodes.j1 k y0 y1 y2) (ontimelaw05_AsmDecodes.j1 (k + 1) y0 y1 y2)) ∧ (∀ y0 y1 y2, LeO (ontimelaw05_AsmDecodes.j2 k y0 y1 y2) (ontimelaw05_AsmDecodes.j2 (k + 1) y0 y1 y2)) ∧ (∀ y0 y1 y2, LeO (ontimelaw05_AsmDecodes.l1 k y0 y1 y2) (ontimelaw05_AsmDecodes.l1 (k + 1) y0 y1 y2))
  | 0 => ⟨fun _ _ _ _ _ r h => by simp [ontimelaw05_AsmDecodes.l0] at h, fun _ _ _ r h => by simp [ontimelaw05_AsmDecodes.j1] at h, fun _ _ _ r h => by simp [ontimelaw05_AsmDecodes.j2] at h, fun _ _ _ r h => by simp [ontimelaw05_AsmDecodes.l1] at h⟩
  | k + 1 => by
    obtain ⟨ih0, ih1, ih2, ih3⟩ := ontimelaw05_AsmDecodes.mono_l k
    refine ⟨?_, ?_, ?_, ?_⟩
    · intro y0 y1 y2 y3 y4
      unfold ontimelaw05_AsmDecodes.l0
      repeat' first
      | (with_reducible exact ih0 _ _ _ _ _)
      | (with_reducible exact ih1 _ _ _)
      | (with_reducible exact ih2 _ _ _)
      | (with_reducible exact ih3 _ _ _)
      | (with_reducible exact asm_Assemble.mono _ _)
      | (with_reducible exact asm_Disassemble.mono _ _)
      | (with_reducible exact LeO.refl _)
      | (with_reducible exact LeO.none _)
      | (with_reducible refine LeO.ite ?_ ?_)
      | (with_reducible refine LeO.bind ?_ (fun _ => ?_))
      | exact ih0 _ _ _ _ _
      | exact ih1 _ _ _
      | exact ih2 _ _ _
      | exact ih3 _ _ _
      | exact asm_Assemble.mono _ _
      | exact asm_Disassemble.mono _ _
      | exact LeO.none _
      | refine LeO.ite ?_ ?_
      | refine LeO.bind ?_ (fun _ => ?_)
    · intro y0 y1 y2
      unfold ontimelaw05_AsmDecodes.j1
      repeat' first
      | (with_reducible exact ih0 _ _ _ _ _)
      | (with_reducible exact ih1 _ _ _)
      | (with_reducible exact ih2 _ _ _)
      | (with_reducible exact ih3 _ _ _)
      | (with_reducible exact asm_Assemble.mono _ _)
      | (with_reducible exact asm_Disassemble.mono _ _)
      | (with_reducible exact LeO.refl _)
      | (with_reducible exact LeO.none _)
      | (with_reducible refine LeO.ite ?_ ?_)
      | (with_reducible refine LeO.bind ?_ (fun _ => ?_))
      | exact ih0 _ _ _ _ _
      | exact ih1 _ _ _
      | exact ih2 _ _ _
      | exact ih3 _ _ _
      | exact asm_Assemble.mono _ _
      | exact asm_Disassemble.mono _ _
      | exact LeO.none _
      | refine LeO.ite ?_ ?_
      | refine LeO.bind ?_ (fun _ => ?_)
    · intro y0 y1 y2
      unfold ontimelaw05_AsmDecodes.j2
      repeat' first
      | (with_reducible exact ih0 _ _ _ _ _)
      | (with_reducible exact ih1 _ _ _)
      | (with_reducible exact ih2 _ _ _)
      | (with_reducible exact ih3 _ _ _)
      | (with_reducible exact asm_Assemble.mono _ _)
      | (with_reducible exact asm_Disassemble.mono _ _)
      | (with_reducible exact LeO.refl _)
      | (with_reducible exact LeO.none _)
      | (with_reducible refine LeO.ite ?_ ?_)
      | (with_reducible refine LeO.bind ?_ (fun _ => ?_))
      | exact ih0 _ _ _ _ _
      | exact ih1 _ _ _
      | exact ih2 _ _ _
      | exact ih3 _ _ _
      | exact asm_Assemble.mono _ _
      | exact asm_Disassemble.mono _ _
      | exact LeO.none _
      | refine LeO.ite ?_ ?_
      | refine LeO.bind ?_ (fun _ => ?_)
    · intro y0 y1 y2
      unfold ontimelaw05_AsmDecodes.l1
      repeat' first
      | (with_reducible exact ih0 _ _ _ _ _)
      | (with_reducible exact ih1 _ _ _)
      | (with_reducible exact ih2 _ _ _)
      | (with_reducible exact ih3 _ _ _)
      | (with_reducible exact asm_Assemble.mono _ _)
      | (with_reducible exact asm_Disassemble.mono _ _)
      | (with_reducible exact LeO.refl _)
      | (with_reducible exact LeO.none _)
      | (with_reducible refine LeO.ite ?_ ?_)
      | (with_reducible refine LeO.bind ?_ (fun _ => ?_))
      | exact ih0 _ _ _ _ _
      | exact ih1 _ _ _
      | exact ih2 _ _ _
      | exact ih3 _ _ _
      | exact asm_Assemble.mono _ _
      | exact asm_Disassemble.mono _ _
      | exact LeO.none _
      | refine LeO.ite ?_ ?_
      | refine LeO.bind ?_ (fun _ => ?_)
theorem ontimelaw05_AsmDecodes.mono : ∀ a0 k, LeO (ontimelaw05_AsmDecodes.f k a0) (ontimelaw05_AsmDecodes.f (k + 1) a0) := by
  intro a0 k
  obtain ⟨ih0, ih1, ih2, ih3⟩ := ontimelaw05_AsmDecodes.mono_l k
  unfold ontimelaw05_AsmDecodes.f
  repeat' first
      | (with_reducible exact ih0 _ _ _ _ _)
      | (with_reducible exact ih1 _ _ _)
      | (with_reducible exact ih2 _ _ _)
      | (with_reducible exact ih3 _ _ _)
      | (with_reducible exact asm_Assemble.mono _ _)
      | (with_reducible exact asm_Disassemble.mono _ _)
      | (with_reducible exact LeO.refl _)
      | (with_reducible exact LeO.none _)
      | (with_reducible refine LeO.ite ?_ ?_)
      | (with_reducible refine LeO.bind ?_ (fun _ => ?_))
      | exact ih0 _ _ _ _ _
      | exact ih1 _ _ _
      | exact ih2 _ _ _
      | exact ih3 _ _ _
      | exact asm_Assemble.mono _ _
      | exact asm_Disassemble.mono _ _
      | exact LeO.none _
      | refine LeO.ite ?_ ?_
      | refine LeO.bind ?_ (fun _ => ?_)
set_option maxHeartbeats 8000000 in
set_option maxRecDepth 100000 in
theorem ontimelaw05_AsmDecodes.calls (k : Nat) (A0 : Option Addr) (c0 : Nat) (l0 : List Int) (r : Bool) (w : World) (hr0 : Kd.C (Kd.int .u32) w A0 l0.length l0) (hc0 : l0.length ≤ c0) (h : ontimelaw05_AsmDecodes.f k l0 = some r) (hE : EnvW w) :
    Calls Tryd.prog 10 #[.slice A0 l0.length c0] w fun e w' => e = .returned (.bool r) ∧ Below w.heap.size w w' := by
  have hu48 := Tryd.underlying48
  have HR0 := Aside0.mk hr0
  have HC0 := Aside0.mk hc0
  clear hr0 hc0
  have HB := Aside0.mk (Below.refl w.heap.size w)
  have H : ((ontimelaw05_awake.f).bind fun t136 => (if t136 = true then (if (l0.length : Int) > 40 then (some true) else ((asm_Disassemble.f k l0).bind fun bt137 => (ontimelaw05_AsmDecodes.l0 k l0 bt137.1 bt137.2.1 bt137.2.2 0))) else (some false))) = some r := h
  clear h
  replace H := Option.bind_eq_some_iff.mp H
  obtain ⟨t136, A20, H⟩ := H
  replace H : (if t136 = true then (if (l0.length : Int) > 40 then (some true) else ((asm_Disassemble.f k l0).bind fun bt137 => (ontimelaw05_AsmDecodes.l0 k l0 bt137.1 bt137.2.1 bt137.2.2 0))) else (some false)) = some r := H
  have A2 := Aside0.mk A20
  clear A20
  by_cases c3 : t136 = true
  · subst c3
    have H1 : (if (l0.length : Int) > 40 then (some true) else ((asm_Disassemble.f k l0).bind fun bt137 => (ontimelaw05_AsmDecodes.l0 k l0 bt137.1 bt137.2.1 bt137.2.2 0))) = some r := by rw [if_pos rfl] at H; exact H
    clear H
    have H := H1
    clear H1
    by_cases c4 : (l0.length : Int) > 40
    · rw [if_pos c4] at H
      have c4b0 : decide (40 < (l0.length : Int)) = true := decide_eq_true c4
      have c4b1 : decide (40 < l0.length) = true := decide_eq_true (by omega)
      clear c4
      obtain rfl := Option.some.inj H
      go_enter Tryd.func10, Tryd.ntmps10
      go_wp2_with (first | (go_at_call 12; (with_reducible refine (ontimelaw05_awake.calls  true _ A2.out (EnvW.below hE (by repeat (first | (with_reducible first | exact HB.out | apply below_alloc | apply pw_below_drewN | apply below_drew1) | exact HB.out)))).mono ?_); rintro e w5 ⟨rfl, hb⟩; have n0_ := Aside0.mk (below_step (by repeat (first | (with_reducible first | exact HB.out | apply below_alloc | apply pw_below_drewN | apply below_drew1) | exact HB.out)) hb); clear HB; have HB := n0_; clear n0_; (try clear hb); (try clear hb2); (try clear hk); (try clear hi)))
      repeat (go_quiet (first | (go_at_call 12; (with_reducible refine (ontimelaw05_awake.calls  true _ A2.out (EnvW.below hE (by repeat (first | (with_reducible first | exact HB.out | apply below_alloc | apply pw_below_drewN | apply below_drew1) | exact HB.out)))).mono ?_); rintro e w5 ⟨rfl, hb⟩; have n0_ := Aside0.mk (below_step (by repeat (first | (with_reducible first | exact HB.out | apply below_alloc | apply pw_below_drewN | apply below_drew1) | exact HB.out)) hb); clear HB; have HB := n0_; clear n0_; (try clear hb); (try clear hb2); (try clear hk); (try clear hi))); try go_wp2_with (first | (go_at_call 12; (with_reducible refine (ontimelaw05_awake.calls  true _ A2.out (EnvW.below hE (by repeat (first | (with_reducible first | exact HB.out | apply below_alloc | apply pw_below_drewN | apply below_drew1) | exact HB.out)))).mono ?_); rintro e w5 ⟨rfl, hb⟩; have n0_ := Aside0.mk (below_step (by repeat (first | (with_reducible first | exact HB.out | apply below_alloc | apply pw_below_drewN | apply below_drew1) | exact HB.out)) hb); clear HB; have HB := n0_; clear n0_; (try clear hb); (try clear hb2); (try clear hk); (try clear hi))))
      go_ret
      exact ⟨by first | rfl | (simp [errW_none, errW_some] <;> rfl) | (simp [*, errW_none, errW_some] <;> rfl), by repeat (first | (with_reducible first | exact HB.out | apply below_alloc | apply pw_below_drewN | apply below_drew1) | exact HB.out)⟩
    · rw [if_neg c4] at H
      have c4b0 : decide (40 < (l0.length : Int)) = false := decide_eq_false c4
      have c4b1 : decide (40 < l0.length) = false := decide_eq_false (by omega)
      clear c4
      replace H := Option.bind_eq_some_iff.mp H
      obtain ⟨⟨t137, t138, t139⟩, A60, H⟩ := H
      replace H : (ontimelaw05_AsmDecodes.l0 k l0 t137 t138 t139 0) = some r := H
      have A6 := Aside0.mk A60
      clear A60
      have H' := Aside0.mk H
      clear H
      go_enter Tryd.func10, Tryd.ntmps10
      go_wp2_with (first | (go_at_call 12; (with_reducible refine (ontimelaw05_awake.calls  true _ A2.out (EnvW.below hE (by repeat (first | (with_reducible first | exact HB.out | apply below_alloc | apply pw_below_drewN | apply below_drew1) | exact HB.out)))).mono ?_); rintro e w7 ⟨rfl, hb⟩; have n0_ := Aside0.mk (below_step (by repeat (first | (with_reducible first | exact HB.out | apply below_alloc | apply pw_below_drewN | apply below_drew1) | exact HB.out)) hb); clear HB; have HB := n0_; clear n0_; (try clear hb); (try clear hb2); (try clear hk); (try clear hi)) | (go_at_call 22; (with_reducible refine (asm_Disassemble.calls k _ _ l0 t137 t138 t139 _ ?side1 ?side2 A6.out).mono ?_); (case side1 => repeat (first | exact (Kd.C_below HR0.out HB.out) | (with_reducible refine Kd.C_alloc ?_ _) | (with_reducible refine Kd.C_drewN ?_ _) | (with_reducible refine Kd.C_drew ?_))); (case side2 => exact HC0.out); rintro e w8 ⟨v140, rfl, ho0, hb⟩; have n0_ := Aside0.mk (Kd.R_lower ho0 (below_size (by repeat (first | (with_reducible first | exact HB.out | apply below_alloc | apply pw_below_drewN | apply below_drew1) | exact HB.out)))); have n1_ := Aside0.mk (below_step (by repeat (first | (with_reducible first | exact HB.out | apply below_alloc | apply pw_below_drewN | apply below_drew1) | exact HB.out)) hb); clear HB; have HO141 := n0_; have HB := n1_; clear n0_ n1_; (try clear hb); (try clear hb2); (try clear hk); (try clear hi); (try clear ho0)))
      repeat (go_quiet (first | (go_at_call 12; (with_reducible refine (ontimelaw05_awake.calls  true _ A2.out (EnvW.below hE (by repeat (first | (with_reducible first | exact HB.out | apply below_alloc | apply pw_below_drewN | apply below_drew1) | exact HB.out)))).mono ?_); rintro e w7 ⟨rfl, hb⟩; have n0_ := Aside0.mk (below_step (by repeat (first | (with_reducible first | exact HB.out | apply below_alloc | apply pw_below_drewN | apply below_drew1) | exact HB.out)) hb); clear HB; have HB := n0_; clear n0_; (try clear hb); (try clear hb2); (try clear hk); (try clear hi)) | (go_at_call 22; (with_reducible refine (asm_Disassemble.calls k _ _ l0 t137 t138 t139 _ ?side1 ?side2 A6.out).mono ?_); (case side1 => repeat (first | exact (Kd.C_below HR0.out HB.out) | (with_reducible refine Kd.C_alloc ?_ _) | (with_reducible refine Kd.C_drewN ?_ _) | (with_reducible refine Kd.C_drew ?_))); (case side2 => exact HC0.out); rintro e w8 ⟨v140, rfl, ho0, hb⟩; have n0_ := Aside0.mk (Kd.R_lower ho0 (below_size (by repeat (first | (with_reducible first | exact HB.out | apply below_alloc | apply pw_below_drewN | apply below_drew1) | exact HB.out)))); have n1_ := Aside0.mk (below_step (by repeat (first | (with_reducible first | exact HB.out | apply below_alloc | apply pw_below_drewN | apply below_drew1) | exact HB.out)) hb); clear HB; have HO141 := n0_; have HB := n1_; clear n0_ n1_; (try clear hb); (try clear hb2); (try clear hk); (try clear hi); (try clear ho0))); try go_wp2_with (first | (go_at_call 12; (with_reducible refine (ontimelaw05_awake.calls  true _ A2.out (EnvW.below hE (by repeat (first | (with_reducible first | exact HB.out | apply below_alloc | apply pw_below_drewN | apply below_drew1) | exact HB.out)))).mono ?_); rintro e w7 ⟨rfl, hb⟩; have n0_ := Aside0.mk (below_step (by repeat (first | (with_reducible first | exact HB.out | apply below_alloc | apply pw_below_drewN | apply below_drew1) | exact HB.out)) hb); clear HB; have HB := n0_; clear n0_; (try clear hb); (try clear hb2); (try clear hk); (try clear hi)) | (go_at_call 22; (with_reducible refine (asm_Disassemble.calls k _ _ l0 t137 t138 t139 _ ?side1 ?side2 A6.out).mono ?_); (case side1 => repeat (first | exact (Kd.C_below HR0.out HB.out) | (with_reducible refine Kd.C_alloc ?_ _) | (with_reducible refine Kd.C_drewN ?_ _) | (with_reducible refine Kd.C_drew ?_))); (case side2 => exact HC0.out); rintro e w8 ⟨v140, rfl, ho0, hb⟩; have n0_ := Aside0.mk (Kd.R_lower ho0 (below_size (by repeat (first | (with_reducible first | exact HB.out | apply below_alloc | apply pw_below_drewN | apply below_drew1) | exact HB.out)))); have n1_ := Aside0.mk (below_step (by repeat (first | (with_reducible first | exact HB.out | apply below_alloc | apply pw_below_drewN | apply below_drew1) | exact HB.out)) hb); clear HB; have HO141 := n0_; have HB := n1_; clear n0_ n1_; (try clear hb); (try clear hb2); (try clear hk); (try clear hi); (try clear ho0))))
      go_loopg [6] k (fun kq v6 w' => ∃ (x6_1 : Int), v6 = .int .i64 x6_1 ∧ Aside0 (ontimelaw05_AsmDecodes.l0 kq l0 t137 t138 t139 x6_1 = some r) ∧ Aside0 (kq ≤ k) ∧ Aside0 (Kd.R k48 48 w' w.heap.size (fun _ => True) v140 t137) ∧ Aside0 (Below w.heap.size w w'))
      case atStart => exact ⟨(0), (by first | rfl | (simp; done) | (simp [*]; done)), H', ⟨Nat.le_refl _⟩, ⟨by (with_reducible repeat (first | apply Kd.R_alloc | apply Kd.R_drewN | apply Kd.R_drew)); exact HO141.out⟩, ⟨by repeat (first | (with_reducible first | exact HB.out | apply below_alloc | apply pw_below_drewN | apply below_drew1) | exact HB.out)⟩⟩
      case round =>
        clear H'
        try clear c1
        try clear p2
        try clear c3
        try clear c4
        try clear c4b0
        try clear c4b1
        obtain ⟨x6_1, rfl, HA, HK1, HO_3, HB⟩ := hrel
        cases gk with
        | zero => exact absurd HA.out (by simp [ontimelaw05_AsmDecodes.l0])
        | succ k1 =>
          have H := HA.out
          clear HA
          simp only [ontimelaw05_AsmDecodes.l0] at H
          by_cases c9 : x6_1 < (l0.length : Int)
          · rw [if_pos c9] at H
            have c9b0 : decide (x6_1 < (l0.length : Int)) = true := decide_eq_true c9
            clear c9
            by_cases c10 : 0 ≤ x6_1
            · rw [if_pos c10] at H
              have c10b0 : decide (0 ≤ x6_1) = true := decide_eq_true c10
              clear c10
              replace H := Option.bind_eq_some_iff.mp H
              obtain ⟨⟨t143, t144, t145, t146, t147, t148⟩, A110, H⟩ := H
              replace H : (if t148 = 0 then (if t139 = 0 then (if x6_1 ≥ (t137.length : Int) then (some false) else (if x6_1 < (t137.length : Int) then (if (!(((rd_T48 t137 x6_1).f0) == t143) || (!(((rd_T48 t137 x6_1).f1) == t144) || (!(((rd_T48 t137 x6_1).f2) == t145) || (!(((rd_T48 t137 x6_1).f3) == t146) || (!(((rd_T48 t137 x6_1).f4) == t147)))))) = true then (some false) else (ontimelaw05_AsmDecodes.l0 k1 l0 t137 t138 t139 (wrap64 (x6_1 + 1)))) else (none))) else (ontimelaw05_AsmDecodes.l0 k1 l0 t137 t138 t139 (wrap64 (x6_1 + 1)))) else (if t139 = 3 then (if t138 = x6_1 then (some ((t137.length : Int) == 0)) else (some false)) else (some false))) = some r := H
              have A11 := Aside0.mk A110
              clear A110
              by_cases c12 : t148 = 0
              · rw [if_pos c12] at H
                have c12b0 : (t148 == 0) = true := beq_iff_eq.mpr c12
                have c12b1 : (t148 != 0) = false := bne_eq_false_iff_eq.mpr c12
                clear c12
                by_cases c13 : t139 = 0
                · rw [if_pos c13] at H
                  have c13b0 : (t139 == 0) = true := beq_iff_eq.mpr c13
                  have c13b1 : (t139 != 0) = false := bne_eq_false_iff_eq.mpr c13
                  clear c13
                  by_cases c14 : x6_1 ≥ (t137.length : Int)
                  · rw [if_pos c14] at H
                    have c14b0 : decide ((t137.length : Int) ≤ x6_1) = true := decide_eq_true c14
                    clear c14
                    obtain rfl := Option.some.inj H
                    have p142 : 0 ≤ (x6_1 : Int) := of_decide_eq_true (by first | (with_reducible assumption) | assumption)
                    have q142 : x6_1 < (l0.length : Int) := of_decide_eq_true (by first | (with_reducible assumption) | assumption)
                    obtain ⟨ad142, e142, hx142_0⟩ := Kd.at_int HR0.out x6_1 p142 q142
                    cases e142
                    replace hx142_0 := (HB.out.cell (World.block_lt_of_cell? w _ hx142_0)).trans hx142_0
                    replace p142 := eq_true p142
                    replace q142 := eq_true q142
                    go_wp2_with (first | (go_at_call 23; (with_reducible refine (isa_Decode.calls (rd l0 x6_1) t143 t144 t145 t146 t147 t148 _ A11.out).mono ?_); rintro e w15 ⟨rfl, hb⟩; have n0_ := Aside0.mk (Kd.R_below (by (with_reducible repeat (first | apply Kd.R_alloc | apply Kd.R_drewN | apply Kd.R_drew)); exact HO_3.out) hb); have n1_ := Aside0.mk (below_step (by repeat (first | (with_reducible first | exact HB.out | apply below_alloc | apply pw_below_drewN | apply below_drew1) | exact HB.out)) hb); clear HO_3; clear HB; have HO_3 := n0_; have HB := n1_; clear n0_ n1_; (try clear hb); (try clear hb2); (try clear hk); (try clear hi)) | ((with_reducible refine gate_dst (N := 7) rfl ?_); (try (refine gate_guard (by rfl) ?_; dsimp only)); refine box_event ?hg (N := 7) ?hd (cs := #[.int .u8 0, .int .i64 0, .int .i64 0, .int .i64 0, .int .i64 0]) (t := 48) ?hr ?_; (case hd => rfl); (case hg => rfl); (case hr => first | (go_simp; done) | (go_simp; rfl)); intro gb149 hg w16 hbox hb; have n0_ := Aside0.mk (Kd.R_below (Kd.R_elderB (by (with_reducible repeat (first | apply Kd.R_alloc | apply Kd.R_drewN | apply Kd.R_drew)); exact HO_3.out) gb149 (Nat.le_of_eq hg.symm)) hb); have n1_ := Aside0.mk (below_step (by repeat (first | (with_reducible first | exact HB.out | apply below_alloc | apply pw_below_drewN | apply below_drew1) | exact HB.out)) hb); have n2_ := Aside0.mk (hbox); have n3_ := Aside0.mk ((by rw [hg]; exact (below_size (by repeat (first | (with_reducible first | exact HB.out | apply below_alloc | apply pw_below_drewN | apply below_drew1) | exact HB.out))) : w.heap.size ≤ gb149)); have n4_ := Aside0.mk ((by rw [hg]; exact (below_size (by repeat (first | (with_reducible first | exact HB.out | apply below_alloc | apply pw_below_drewN | apply below_drew1) | exact HB.out))) : w.heap.size ≤ gb149)); clear HO_3; clear HB; have HO_3 := n0_; have HB := n1_; have BK149 := n2_; have GW149 := n3_; have GE149 := n4_; clear n0_ n1_ n2_ n3_ n4_; clear hb hbox hg; have hcz17_0 : w16.cell? ⟨gb149, 0, none⟩ = some (.int .u8 0) := (blk_cell BK149.out 0).trans rfl; have hcz17_1 : w16.cell? ⟨gb149, 1, none⟩ = some (.int .i64 0) := (blk_cell BK149.out 1).trans rfl; have hcz17_2 : w16.cell? ⟨gb149, 2, none⟩ = some (.int .i64 0) := (blk_cell BK149.out 2).trans rfl; have hcz17_3 : w16.cell? ⟨gb149, 3, none⟩ = some (.int .i64 0) := (blk_cell BK149.out 3).trans rfl; have hcz17_4 : w16.cell? ⟨gb149, 4, none⟩ = some (.int .i64 0) := (blk_cell BK149.out 4).trans rfl; have hfz17_0 := blk_frozen BK149.out 0; have hfz17_1 := blk_frozen BK149.out 1; have hfz17_2 := blk_frozen BK149.out 2; have hfz17_3 := blk_frozen BK149.out 3; have hfz17_4 := blk_frozen BK149.out 4; obtain ⟨Ao18, co18, eo18⟩ := Kd.R_slice HO_3.out; subst eo18))
                    repeat (go_quiet (first | (go_at_call 23; (with_reducible refine (isa_Decode.calls (rd l0 x6_1) t143 t144 t145 t146 t147 t148 _ A11.out).mono ?_); rintro e w15 ⟨rfl, hb⟩; have n0_ := Aside0.mk (Kd.R_below (by (with_reducible repeat (first | apply Kd.R_alloc | apply Kd.R_drewN | apply Kd.R_drew)); exact HO_3.out) hb); have n1_ := Aside0.mk (below_step (by repeat (first | (with_reducible first | exact HB.out | apply below_alloc | apply pw_below_drewN | apply below_drew1) | exact HB.out)) hb); clear HO_3; clear HB; have HO_3 := n0_; have HB := n1_; clear n0_ n1_; (try clear hb); (try clear hb2); (try clear hk); (try clear hi)) | ((with_reducible refine gate_dst (N := 7) rfl ?_); (try (refine gate_guard (by rfl) ?_; dsimp only)); refine box_event ?hg (N := 7) ?hd (cs := #[.int .u8 0, .int .i64 0, .int .i64 0, .int .i64 0, .int .i64 0]) (t := 48) ?hr ?_; (case hd => rfl); (case hg => rfl); (case hr => first | (go_simp; done) | (go_simp; rfl)); intro gb149 hg w16 hbox hb; have n0_ := Aside0.mk (Kd.R_below (Kd.R_elderB (by (with_reducible repeat (first | apply Kd.R_alloc | apply Kd.R_drewN | apply Kd.R_drew)); exact HO_3.out) gb149 (Nat.le_of_eq hg.symm)) hb); have n1_ := Aside0.mk (below_step (by repeat (first | (with_reducible first | exact HB.out | apply below_alloc | apply pw_below_drewN | apply below_drew1) | exact HB.out)) hb); have n2_ := Aside0.mk (hbox); have n3_ := Aside0.mk ((by rw [hg]; exact (below_size (by repeat (first | (with_reducible first | exact HB.out | apply below_alloc | apply pw_below_drewN | apply below_drew1) | exact HB.out))) : w.heap.size ≤ gb149)); have n4_ := Aside0.mk ((by rw [hg]; exact (below_size (by repeat (first | (with_reducible first | exact HB.out | apply below_alloc | apply pw_below_drewN | apply below_drew1) | exact HB.out))) : w.heap.size ≤ gb149)); clear HO_3; clear HB; have HO_3 := n0_; have HB := n1_; have BK149 := n2_; have GW149 := n3_; have GE149 := n4_; clear n0_ n1_ n2_ n3_ n4_; clear hb hbox hg; have hcz17_0 : w16.cell? ⟨gb149, 0, none⟩ = some (.int .u8 0) := (blk_cell BK149.out 0).trans rfl; have hcz17_1 : w16.cell? ⟨gb149, 1, none⟩ = some (.int .i64 0) := (blk_cell BK149.out 1).trans rfl; have hcz17_2 : w16.cell? ⟨gb149, 2, none⟩ = some (.int .i64 0) := (blk_cell BK149.out 2).trans rfl; have hcz17_3 : w16.cell? ⟨gb149, 3, none⟩ = some (.int .i64 0) := (blk_cell BK149.out 3).trans rfl; have hcz17_4 : w16.cell? ⟨gb149, 4, none⟩ = some (.int .i64 0) := (blk_cell BK149.out 4).trans rfl; have hfz17_0 := blk_frozen BK149.out 0; have hfz17_1 := blk_frozen BK149.out 1; have hfz17_2 := blk_frozen BK149.out 2; have hfz17_3 := blk_frozen BK149.out 3; have hfz17_4 := blk_frozen BK149.out 4; obtain ⟨Ao18, co18, eo18⟩ := Kd.R_slice HO_3.out; subst eo18)); try go_wp2_with (first | (go_at_call 23; (with_reducible refine (isa_Decode.calls (rd l0 x6_1) t143 t144 t145 t146 t147 t148 _ A11.out).mono ?_); rintro e w15 ⟨rfl, hb⟩; have n0_ := Aside0.mk (Kd.R_below (by (with_reducible repeat (first | apply Kd.R_alloc | apply Kd.R_drewN | apply Kd.R_drew)); exact HO_3.out) hb); have n1_ := Aside0.mk (below_step (by repeat (first | (with_reducible first | exact HB.out | apply below_alloc | apply pw_below_drewN | apply below_drew1) | exact HB.out)) hb); clear HO_3; clear HB; have HO_3 := n0_; have HB := n1_; clear n0_ n1_; (try clear hb); (try clear hb2); (try clear hk); (try clear hi)) | ((with_reducible refine gate_dst (N := 7) rfl ?_); (try (refine gate_guard (by rfl) ?_; dsimp only)); refine box_event ?hg (N := 7) ?hd (cs := #[.int .u8 0, .int .i64 0, .int .i64 0, .int .i64 0, .int .i64 0]) (t := 48) ?hr ?_; (case hd => rfl); (case hg => rfl); (case hr => first | (go_simp; done) | (go_simp; rfl)); intro gb149 hg w16 hbox hb; have n0_ := Aside0.mk (Kd.R_below (Kd.R_elderB (by (with_reducible repeat (first | apply Kd.R_alloc | apply Kd.R_drewN | apply Kd.R_drew)); exact HO_3.out) gb149 (Nat.le_of_eq hg.symm)) hb); have n1_ := Aside0.mk (below_step (by repeat (first | (with_reducible first | exact HB.out | apply below_alloc | apply pw_below_drewN | apply below_drew1) | exact HB.out)) hb); have n2_ := Aside0.mk (hbox); have n3_ := Aside0.mk ((by rw [hg]; exact (below_size (by repeat (first | (with_reducible first | exact HB.out | apply below_alloc | apply pw_below_drewN | apply below_drew1) | exact HB.out))) : w.heap.size ≤ gb149)); have n4_ := Aside0.mk ((by rw [hg]; exact (below_size (by repeat (first | (with_reducible first | exact HB.out | apply below_alloc | apply pw_below_drewN | apply below_drew1) | exact HB.out))) : w.heap.size ≤ gb149)); clear HO_3; clear HB; have HO_3 := n0_; have HB := n1_; have BK149 := n2_; have GW149 := n3_; have GE149 := n4_; clear n0_ n1_ n2_ n3_ n4_; clear hb hbox hg; have hcz17_0 : w16.cell? ⟨gb149, 0, none⟩ = some (.int .u8 0) := (blk_cell BK149.out 0).trans rfl; have hcz17_1 : w16.cell? ⟨gb149, 1, none⟩ = some (.int .i64 0) := (blk_cell BK149.out 1).trans rfl; have hcz17_2 : w16.cell? ⟨gb149, 2, none⟩ = some (.int .i64 0) := (blk_cell BK149.out 2).trans rfl; have hcz17_3 : w16.cell? ⟨gb149, 3, none⟩ = some (.int .i64 0) := (blk_cell BK149.out 3).trans rfl; have hcz17_4 : w16.cell? ⟨gb149, 4, none⟩ = some (.int .i64 0) := (blk_cell BK149.out 4).trans rfl; have hfz17_0 := blk_frozen BK149.out 0; have hfz17_1 := blk_frozen BK149.out 1; have hfz17_2 := blk_frozen BK149.out 2; have hfz17_3 := blk_frozen BK149.out 3; have hfz17_4 := blk_frozen BK149.out 4; obtain ⟨Ao18, co18, eo18⟩ := Kd.R_slice HO_3.out; subst eo18)))
                    go_ret
                    exact ⟨by first | rfl | (simp [errW_none, errW_some] <;> rfl) | (simp [*, errW_none, errW_some] <;> rfl), by repeat (first | (with_reducible first | exact HB.out | apply below_alloc | apply pw_below_drewN | apply below_drew1 | refine below_set ?_ GE149.out) | exact HB.out)⟩
                  · rw [if_neg c14] at H
                    have c14b0 : decide ((t137.length : Int) ≤ x6_1) = false := decide_eq_false c14
                    clear c14
                    by_cases c19 : x6_1 < (t137.length : Int)
                    · rw [if_pos c19] at H
                      have c19b0 : decide (x6_1 < (t137.length : Int)) = true := decide_eq_true c19
                      clear c19
                      by_cases c20 : (!(((rd_T48 t137 x6_1).f0) == t143) || (!(((rd_T48 t137 x6_1).f1) == t144) || (!(((rd_T48 t137 x6_1).f2) == t145) || (!(((rd_T48 t137 x6_1).f3) == t146) || (!(((rd_T48 t137 x6_1).f4) == t147)))))) = true
                      · rw [if_pos c20] at H
                        have c20b0 : (!(((rd_T48 t137 x6_1).f0) == t143) || (!(((rd_T48 t137 x6_1).f1) == t144) || (!(((rd_T48 t137 x6_1).f2) == t145) || (!(((rd_T48 t137 x6_1).f3) == t146) || (!(((rd_T48 t137 x6_1).f4) == t147)))))) = true := c20
                        clear c20
                        obtain rfl := Option.some.inj H
                        have p142 : 0 ≤ (x6_1 : Int) := of_decide_eq_true (by first | (with_reducible assumption) | assumption)
                        have q142 : x6_1 < (l0.length : Int) := of_decide_eq_true (by first | (with_reducible assumption) | assumption)
                        obtain ⟨ad142, e142, hx142_0⟩ := Kd.at_int HR0.out x6_1 p142 q142
                        cases e142
                        replace hx142_0 := (HB.out.cell (World.block_lt_of_cell? w _ hx142_0)).trans hx142_0
                        replace p142 := eq_true p142
                        replace q142 := eq_true q142
                        go_wp2_with (first | (go_at_call 23; (with_reducible refine (isa_Decode.calls (rd l0 x6_1) t143 t144 t145 t146 t147 t148 _ A11.out).mono ?_); rintro e w21 ⟨rfl, hb⟩; have n0_ := Aside0.mk (Kd.R_below (by (with_reducible repeat (first | apply Kd.R_alloc | apply Kd.R_drewN | apply Kd.R_drew)); exact HO_3.out) hb); have n1_ := Aside0.mk (below_step (by repeat (first | (with_reducible first | exact HB.out | apply below_alloc | apply pw_below_drewN | apply below_drew1) | exact HB.out)) hb); clear HO_3; clear HB; have HO_3 := n0_; have HB := n1_; clear n0_ n1_; (try clear hb); (try clear hb2); (try clear hk); (try clear hi)) | ((with_reducible refine gate_dst (N := 7) rfl ?_); (try (refine gate_guard (by rfl) ?_; dsimp only)); refine box_event ?hg (N := 7) ?hd (cs := #[.int .u8 0, .int .i64 0, .int .i64 0, .int .i64 0, .int .i64 0]) (t := 48) ?hr ?_; (case hd => rfl); (case hg => rfl); (case hr => first | (go_simp; done) | (go_simp; rfl)); intro gb149 hg w22 hbox hb; have n0_ := Aside0.mk (Kd.R_below (Kd.R_elderB (by (with_reducible repeat (first | apply Kd.R_alloc | apply Kd.R_drewN | apply Kd.R_drew)); exact HO_3.out) gb149 (Nat.le_of_eq hg.symm)) hb); have n1_ := Aside0.mk (below_step (by repeat (first | (with_reducible first | exact HB.out | apply below_alloc | apply pw_below_drewN | apply below_drew1) | exact HB.out)) hb); have n2_ := Aside0.mk (hbox); have n3_ := Aside0.mk ((by rw [hg]; exact (below_size (by repeat (first | (with_reducible first | exact HB.out | apply below_alloc | apply pw_below_drewN | apply below_drew1) | exact HB.out))) : w.heap.size ≤ gb149)); have n4_ := Aside0.mk ((by rw [hg]; exact (below_size (by repeat (first | (with_reducible first | exact HB.out | apply below_alloc | apply pw_below_drewN | apply below_drew1) | exact HB.out))) : w.heap.size ≤ gb149)); clear HO_3; clear HB; have HO_3 := n0_; have HB := n1_; have BK149 := n2_; have GW149 := n3_; have GE149 := n4_; clear n0_ n1_ n2_ n3_ n4_; clear hb hbox hg; have hcz23_0 : w22.cell? ⟨gb149, 0, none⟩ = some (.int .u8 0) := (blk_cell BK149.out 0).trans rfl; have hcz23_1 : w22.cell? ⟨gb149, 1, none⟩ = some (.int .i64 0) := (blk_cell BK149.out 1).trans rfl; have hcz23_2 : w22.cell? ⟨gb149, 2, none⟩ = some (.int .i64 0) := (blk_cell BK149.out 2).trans rfl; have hcz23_3 : w22.cell? ⟨gb149, 3, none⟩ = some (.int .i64 0) := (blk_cell BK149.out 3).trans rfl; have hcz23_4 : w22.cell? ⟨gb149, 4, none⟩ = some (.int .i64 0) := (blk_cell BK149.out 4).trans rfl; have hfz23_0 := blk_frozen BK149.out 0; have hfz23_1 := blk_frozen BK149.out 1; have hfz23_2 := blk_frozen BK149.out 2; have hfz23_3 := blk_frozen BK149.out 3; have hfz23_4 := blk_frozen BK149.out 4; obtain ⟨Ao24, co24, eo24⟩ := Kd.R_slice HO_3.out; subst eo24; have p150 : 0 ≤ (x6_1 : Int) := of_decide_eq_true (by first | (with_reducible assumption) | assumption); have q150 : x6_1 < (t137.length : Int) := of_decide_eq_true (by first | (with_reducible assumption) | assumption); obtain ⟨ad150, e150, hx150_0, hx150_1, hx150_2, hx150_3, hx150_4⟩ := at_T48 (Kd.R_reads' HO_3.out).2.2 x6_1 p150 q150; cases e150; have hn150_0 : ad150.block ≠ gb149 := Kd.own_blk (Kd.R_ne HO_3.out BK149.out (by decide)); have hn150_1 : ad150.block ≠ gb149 := Kd.own_blk (Kd.R_ne HO_3.out BK149.out (by decide)); have hn150_2 : ad150.block ≠ gb149 := Kd.own_blk (Kd.R_ne HO_3.out BK149.out (by decide)); have hn150_3 : ad150.block ≠ gb149 := Kd.own_blk (Kd.R_ne HO_3.out BK149.out (by decide)); have hn150_4 : ad150.block ≠ gb149 := Kd.own_blk (Kd.R_ne HO_3.out BK149.out (by decide)); replace hx150_0 := (cell_far (p := ⟨gb149, 0, none⟩) (by first | (rw [add_block]; exact hn150_0) | (show (Addr.add _ _).block ≠ _; rw [add_block]; exact hn150_0) | exact hn150_0) (.int .u8 t143)).trans hx150_0; replace hx150_1 := (cell_far (p := ⟨gb149, 0, none⟩) (by first | (rw [add_block]; exact hn150_0) | (show (Addr.add _ _).block ≠ _; rw [add_block]; exact hn150_0) | exact hn150_0) (.int .u8 t143)).trans hx150_1; replace hx150_2 := (cell_far (p := ⟨gb149, 0, none⟩) (by first | (rw [add_block]; exact hn150_0) | (show (Addr.add _ _).block ≠ _; rw [add_block]; exact hn150_0) | exact hn150_0) (.int .u8 t143)).trans hx150_2; replace hx150_3 := (cell_far (p := ⟨gb149, 0, none⟩) (by first | (rw [add_block]; exact hn150_0) | (show (Addr.add _ _).block ≠ _; rw [add_block]; exact hn150_0) | exact hn150_0) (.int .u8 t143)).trans hx150_3; replace hx150_4 := (cell_far (p := ⟨gb149, 0, none⟩) (by first | (rw [add_block]; exact hn150_0) | (show (Addr.add _ _).block ≠ _; rw [add_block]; exact hn150_0) | exact hn150_0) (.int .u8 t143)).trans hx150_4; replace hx150_0 := (cell_far (p := ⟨gb149, 1, none⟩) (by first | (rw [add_block]; exact hn150_1) | (show (Addr.add _ _).block ≠ _; rw [add_block]; exact hn150_1) | exact hn150_1) (.int .i64 t144)).trans hx150_0; replace hx150_1 := (cell_far (p := ⟨gb149, 1, none⟩) (by first | (rw [add_block]; exact hn150_1) | (show (Addr.add _ _).block ≠ _; rw [add_block]; exact hn150_1) | exact hn150_1) (.int .i64 t144)).trans hx150_1; replace hx150_2 := (cell_far (p := ⟨gb149, 1, none⟩) (by first | (rw [add_block]; exact hn150_1) | (show (Addr.add _ _).block ≠ _; rw [add_block]; exact hn150_1) | exact hn150_1) (.int .i64 t144)).trans hx150_2; replace hx150_3 := (cell_far (p := ⟨gb149, 1, none⟩) (by first | (rw [add_block]; exact hn150_1) | (show (Addr.add _ _).block ≠ _; rw [add_block]; exact hn150_1) | exact hn150_1) (.int .i64 t144)).trans hx150_3; replace hx150_4 := (cell_far (p := ⟨gb149, 1, none⟩) (by first | (rw [add_block]; exact hn150_1) | (show (Addr.add _ _).block ≠ _; rw [add_block]; exact hn150_1) | exact hn150_1) (.int .i64 t144)).trans hx150_4; replace hx150_0 := (cell_far (p := ⟨gb149, 2, none⟩) (by first | (rw [add_block]; exact hn150_2) | (show (Addr.add _ _).block ≠ _; rw [add_block]; exact hn150_2) | exact hn150_2) (.int .i64 t145)).trans hx150_0; replace hx150_1 := (cell_far (p := ⟨gb149, 2, none⟩) (by first | (rw [add_block]; exact hn150_2) | (show (Addr.add _ _).block ≠ _; rw [add_block]; exact hn150_2) | exact hn150_2) (.int .i64 t145)).trans hx150_1; replace hx150_2 := (cell_far (p := ⟨gb149, 2, none⟩) (by first | (rw [add_block]; exact hn150_2) | (show (Addr.add _ _).block ≠ _; rw [add_block]; exact hn150_2) | exact hn150_2) (.int .i64 t145)).trans hx150_2; replace hx150_3 := (cell_far (p := ⟨gb149, 2, none⟩) (by first | (rw [add_block]; exact hn150_2) | (show (Addr.add _ _).block ≠ _; rw [add_block]; exact hn150_2) | exact hn150_2) (.int .i64 t145)).trans hx150_3; replace hx150_4 := (cell_far (p := ⟨gb149, 2, none⟩) (by first | (rw [add_block]; exact hn150_2) | (show (Addr.add _ _).block ≠ _; rw [add_block]; exact hn150_2) | exact hn150_2) (.int .i64 t145)).trans hx150_4; replace hx150_0 := (cell_far (p := ⟨gb149, 3, none⟩) (by first | (rw [add_block]; exact hn150_3) | (show (Addr.add _ _).block ≠ _; rw [add_block]; exact hn150_3) | exact hn150_3) (.int .i64 t146)).trans hx150_0; replace hx150_1 := (cell_far (p := ⟨gb149, 3, none⟩) (by first | (rw [add_block]; exact hn150_3) | (show (Addr.add _ _).block ≠ _; rw [add_block]; exact hn150_3) | exact hn150_3) (.int .i64 t146)).trans hx150_1; replace hx150_2 := (cell_far (p := ⟨gb149, 3, none⟩) (by first | (rw [add_block]; exact hn150_3) | (show (Addr.add _ _).block ≠ _; rw [add_block]; exact hn150_3) | exact hn150_3) (.int .i64 t146)).trans hx150_2; replace hx150_3 := (cell_far (p := ⟨gb149, 3, none⟩) (by first | (rw [add_block]; exact hn150_3) | (show (Addr.add _ _).block ≠ _; rw [add_block]; exact hn150_3) | exact hn150_3) (.int .i64 t146)).trans hx150_3; replace hx150_4 := (cell_far (p := ⟨gb149, 3, none⟩) (by first | (rw [add_block]; exact hn150_3) | (show (Addr.add _ _).block ≠ _; rw [add_block]; exact hn150_3) | exact hn150_3) (.int .i64 t146)).trans hx150_4; replace hx150_0 := (cell_far (p := ⟨gb149, 4, none⟩) (by first | (rw [add_block]; exact hn150_4) | (show (Addr.add _ _).block ≠ _; rw [add_block]; exact hn150_4) | exact hn150_4) (.int .i64 t147)).trans hx150_0; replace hx150_1 := (cell_far (p := ⟨gb149, 4, none⟩) (by first | (rw [add_block]; exact hn150_4) | (show (Addr.add _ _).block ≠ _; rw [add_block]; exact hn150_4) | exact hn150_4) (.int .i64 t147)).trans hx150_1; replace hx150_2 := (cell_far (p := ⟨gb149, 4, none⟩) (by first | (rw [add_block]; exact hn150_4) | (show (Addr.add _ _).block ≠ _; rw [add_block]; exact hn150_4) | exact hn150_4) (.int .i64 t147)).trans hx150_2; replace hx150_3 := (cell_far (p := ⟨gb149, 4, none⟩) (by first | (rw [add_block]; exact hn150_4) | (show (Addr.add _ _).block ≠ _; rw [add_block]; exact hn150_4) | exact hn150_4) (.int .i64 t147)).trans hx150_3; replace hx150_4 := (cell_far (p := ⟨gb149, 4, none⟩) (by first | (rw [add_block]; exact hn150_4) | (show (Addr.add _ _).block ≠ _; rw [add_block]; exact hn150_4) | exact hn150_4) (.int .i64 t147)).trans hx150_4; (try have hy150_0 := fun (n_ : Nat) => (show (((((((w22.drewN n_).setCell ⟨gb149, 0, none⟩ (.int .u8 t143)).setCell ⟨gb149, 1, none⟩ (.int .i64 t144)).setCell ⟨gb149, 2, none⟩ (.int .i64 t145)).setCell ⟨gb149, 3, none⟩ (.int .i64 t146)).setCell ⟨gb149, 4, none⟩ (.int .i64 t147))).cell? _ = some _ from hx150_0)); (try have hy150_1 := fun (n_ : Nat) => (show (((((((w22.drewN n_).setCell ⟨gb149, 0, none⟩ (.int .u8 t143)).setCell ⟨gb149, 1, none⟩ (.int .i64 t144)).setCell ⟨gb149, 2, none⟩ (.int .i64 t145)).setCell ⟨gb149, 3, none⟩ (.int .i64 t146)).setCell ⟨gb149, 4, none⟩ (.int .i64 t147))).cell? _ = some _ from hx150_1)); (try have hy150_2 := fun (n_ : Nat) => (show (((((((w22.drewN n_).setCell ⟨gb149, 0, none⟩ (.int .u8 t143)).setCell ⟨gb149, 1, none⟩ (.int .i64 t144)).setCell ⟨gb149, 2, none⟩ (.int .i64 t145)).setCell ⟨gb149, 3, none⟩ (.int .i64 t146)).setCell ⟨gb149, 4, none⟩ (.int .i64 t147))).cell? _ = some _ from hx150_2)); (try have hy150_3 := fun (n_ : Nat) => (show (((((((w22.drewN n_).setCell ⟨gb149, 0, none⟩ (.int .u8 t143)).setCell ⟨gb149, 1, none⟩ (.int .i64 t144)).setCell ⟨gb149, 2, none⟩ (.int .i64 t145)).setCell ⟨gb149, 3, none⟩ (.int .i64 t146)).setCell ⟨gb149, 4, none⟩ (.int .i64 t147))).cell? _ = some _ from hx150_3)); (try have hy150_4 := fun (n_ : Nat) => (show (((((((w22.drewN n_).setCell ⟨gb149, 0, none⟩ (.int .u8 t143)).setCell ⟨gb149, 1, none⟩ (.int .i64 t144)).setCell ⟨gb149, 2, none⟩ (.int .i64 t145)).setCell ⟨gb149, 3, none⟩ (.int .i64 t146)).setCell ⟨gb149, 4, none⟩ (.int .i64 t147))).cell? _ = some _ from hx150_4)); clear hn150_0; clear hn150_1; clear hn150_2; clear hn150_3; clear hn150_4; replace p150 := eq_true p150; replace q150 := eq_true q150))
                        obtain ⟨Ao24, co24, eo24⟩ := Kd.R_slice HO_3.out
                        subst eo24
                        have p150 : 0 ≤ (x6_1 : Int) := of_decide_eq_true (by first | (with_reducible assumption) | assumption)
                        have q150 : x6_1 < (t137.length : Int) := of_decide_eq_true (by first | (with_reducible assumption) | assumption)
                        obtain ⟨ad150, e150, hx150_0, hx150_1, hx150_2, hx150_3, hx150_4⟩ := at_T48 (Kd.R_reads' HO_3.out).2.2 x6_1 p150 q150
                        cases e150
                        have hy150_0 := fun (X : Obj) (n_ : Nat) => (show ((w21.alloc X).drewN n_).cell? _ = some _ from (World.cell?_alloc_lt _ _ _ (World.block_lt_of_cell? w21 _ hx150_0)).trans hx150_0)
                        have hy150_1 := fun (X : Obj) (n_ : Nat) => (show ((w21.alloc X).drewN n_).cell? _ = some _ from (World.cell?_alloc_lt _ _ _ (World.block_lt_of_cell? w21 _ hx150_1)).trans hx150_1)
                        have hy150_2 := fun (X : Obj) (n_ : Nat) => (show ((w21.alloc X).drewN n_).cell? _ = some _ from (World.cell?_alloc_lt _ _ _ (World.block_lt_of_cell? w21 _ hx150_2)).trans hx150_2)
                        have hy150_3 := fun (X : Obj) (n_ : Nat) => (show ((w21.alloc X).drewN n_).cell? _ = some _ from (World.cell?_alloc_lt _ _ _ (World.block_lt_of_cell? w21 _ hx150_3)).trans hx150_3)
                        have hy150_4 := fun (X : Obj) (n_ : Nat) => (show ((w21.alloc X).drewN n_).cell? _ = some _ from (World.cell?_alloc_lt _ _ _ (World.block_lt_of_cell? w21 _ hx150_4)).trans hx150_4)
                        have hz150_0 := fun (n_ : Nat) => (show ((w21.alloc (.cells #[.int .u8 t143, .int .i64 t144, .int .i64 t145, .int .i64 t146, .int .i64 t147] 48)).drewN n_).cell? ⟨w21.heap.size, 0, none⟩ = some (.int .u8 t143) from World.cell?_alloc_mark _ _ _ _ _)
                        have hz150_1 := fun (n_ : Nat) => (show ((w21.alloc (.cells #[.int .u8 t143, .int .i64 t144, .int .i64 t145, .int .i64 t146, .int .i64 t147] 48)).drewN n_).cell? ⟨w21.heap.size, 1, none⟩ = some (.int .i64 t144) from World.cell?_alloc_mark _ _ _ _ _)
                        have hz150_2 := fun (n_ : Nat) => (show ((w21.alloc (.cells #[.int .u8 t143, .int .i64 t144, .int .i64 t145, .int .i64 t146, .int .i64 t147] 48)).drewN n_).cell? ⟨w21.heap.size, 2, none⟩ = some (.int .i64 t145) from World.cell?_alloc_mark _ _ _ _ _)
                        have hz150_3 := fun (n_ : Nat) => (show ((w21.alloc (.cells #[.int .u8 t143, .int .i64 t144, .int .i64 t145, .int .i64 t146, .int .i64 t147] 48)).drewN n_).cell? ⟨w21.heap.size, 3, none⟩ = some (.int .i64 t146) from World.cell?_alloc_mark _ _ _ _ _)
                        have hz150_4 := fun (n_ : Nat) => (show ((w21.alloc (.cells #[.int .u8 t143, .int .i64 t144, .int .i64 t145, .int .i64 t146, .int .i64 t147] 48)).drewN n_).cell? ⟨w21.heap.size, 4, none⟩ = some (.int .i64 t147) from World.cell?_alloc_mark _ _ _ _ _)
                        replace p150 := eq_true p150
                        replace q150 := eq_true q150
                        repeat (go_quiet (first | (go_at_call 23; (with_reducible refine (isa_Decode.calls (rd l0 x6_1) t143 t144 t145 t146 t147 t148 _ A11.out).mono ?_); rintro e w21 ⟨rfl, hb⟩; have n0_ := Aside0.mk (Kd.R_below (by (with_reducible repeat (first | apply Kd.R_alloc | apply Kd.R_drewN | apply Kd.R_drew)); exact HO_3.out) hb); have n1_ := Aside0.mk (below_step (by repeat (first | (with_reducible first | exact HB.out | apply below_alloc | apply pw_below_drewN | apply below_drew1) | exact HB.out)) hb); clear HO_3; clear HB; have HO_3 := n0_; have HB := n1_; clear n0_ n1_; (try clear hb); (try clear hb2); (try clear hk); (try clear hi)) | ((with_reducible refine gate_dst (N := 7) rfl ?_); (try (refine gate_guard (by rfl) ?_; dsimp only)); refine box_event ?hg (N := 7) ?hd (cs := #[.int .u8 0, .int .i64 0, .int .i64 0, .int .i64 0, .int .i64 0]) (t := 48) ?hr ?_; (case hd => rfl); (case hg => rfl); (case hr => first | (go_simp; done) | (go_simp; rfl)); intro gb149 hg w22 hbox hb; have n0_ := Aside0.mk (Kd.R_below (Kd.R_elderB (by (with_reducible repeat (first | apply Kd.R_alloc | apply Kd.R_drewN | apply Kd.R_drew)); exact HO_3.out) gb149 (Nat.le_of_eq hg.symm)) hb); have n1_ := Aside0.mk (below_step (by repeat (first | (with_reducible first | exact HB.out | apply below_alloc | apply pw_below_drewN | apply below_drew1) | exact HB.out)) hb); have n2_ := Aside0.mk (hbox); have n3_ := Aside0.mk ((by rw [hg]; exact (below_size (by repeat (first | (with_reducible first | exact HB.out | apply below_alloc | apply pw_below_drewN | apply below_drew1) | exact HB.out))) : w.heap.size ≤ gb149)); have n4_ := Aside0.mk ((by rw [hg]; exact (below_size (by repeat (first | (with_reducible first | exact HB.out | apply below_alloc | apply pw_below_drewN | apply below_drew1) | exact HB.out))) : w.heap.size ≤ gb149)); clear HO_3; clear HB; have HO_3 := n0_; have HB := n1_; have BK149 := n2_; have GW149 := n3_; have GE149 := n4_; clear n0_ n1_ n2_ n3_ n4_; clear hb hbox hg; have hcz23_0 : w22.cell? ⟨gb149, 0, none⟩ = some (.int .u8 0) := (blk_cell BK149.out 0).trans rfl; have hcz23_1 : w22.cell? ⟨gb149, 1, none⟩ = some (.int .i64 0) := (blk_cell BK149.out 1).trans rfl; have hcz23_2 : w22.cell? ⟨gb149, 2, none⟩ = some (.int .i64 0) := (blk_cell BK149.out 2).trans rfl; have hcz23_3 : w22.cell? ⟨gb149, 3, none⟩ = some (.int .i64 0) := (blk_cell BK149.out 3).trans rfl; have hcz23_4 : w22.cell? ⟨gb149, 4, none⟩ = some (.int .i64 0) := (blk_cell BK149.out 4).trans rfl; have hfz23_0 := blk_frozen BK149.out 0; have hfz23_1 := blk_frozen BK149.out 1; have hfz23_2 := blk_frozen BK149.out 2; have hfz23_3 := blk_frozen BK149.out 3; have hfz23_4 := blk_frozen BK149.out 4; obtain ⟨Ao24, co24, eo24⟩ := Kd.R_slice HO_3.out; subst eo24; have p150 : 0 ≤ (x6_1 : Int) := of_decide_eq_true (by first | (with_reducible assumption) | assumption); have q150 : x6_1 < (t137.length : Int) := of_decide_eq_true (by first | (with_reducible assumption) | assumption); obtain ⟨ad150, e150, hx150_0, hx150_1, hx150_2, hx150_3, hx150_4⟩ := at_T48 (Kd.R_reads' HO_3.out).2.2 x6_1 p150 q150; cases e150; have hn150_0 : ad150.block ≠ gb149 := Kd.own_blk (Kd.R_ne HO_3.out BK149.out (by decide)); have hn150_1 : ad150.block ≠ gb149 := Kd.own_blk (Kd.R_ne HO_3.out BK149.out (by decide)); have hn150_2 : ad150.block ≠ gb149 := Kd.own_blk (Kd.R_ne HO_3.out BK149.out (by decide)); have hn150_3 : ad150.block ≠ gb149 := Kd.own_blk (Kd.R_ne HO_3.out BK149.out (by decide)); have hn150_4 : ad150.block ≠ gb149 := Kd.own_blk (Kd.R_ne HO_3.out BK149.out (by decide)); replace hx150_0 := (cell_far (p := ⟨gb149, 0, none⟩) (by first | (rw [add_block]; exact hn150_0) | (show (Addr.add _ _).block ≠ _; rw [add_block]; exact hn150_0) | exact hn150_0) (.int .u8 t143)).trans hx150_0; replace hx150_1 := (cell_far (p := ⟨gb149, 0, none⟩) (by first | (rw [add_block]; exact hn150_0) | (show (Addr.add _ _).block ≠ _; rw [add_block]; exact hn150_0) | exact hn150_0) (.int .u8 t143)).trans hx150_1; replace hx150_2 := (cell_far (p := ⟨gb149, 0, none⟩) (by first | (rw [add_block]; exact hn150_0) | (show (Addr.add _ _).block ≠ _; rw [add_block]; exact hn150_0) | exact hn150_0) (.int .u8 t143)).trans hx150_2; replace hx150_3 := (cell_far (p := ⟨gb149, 0, none⟩) (by first | (rw [add_block]; exact hn150_0) | (show (Addr.add _ _).block ≠ _; rw [add_block]; exact hn150_0) | exact hn150_0) (.int .u8 t143)).trans hx150_3; replace hx150_4 := (cell_far (p := ⟨gb149, 0, none⟩) (by first | (rw [add_block]; exact hn150_0) | (show (Addr.add _ _).block ≠ _; rw [add_block]; exact hn150_0) | exact hn150_0) (.int .u8 t143)).trans hx150_4; replace hx150_0 := (cell_far (p := ⟨gb149, 1, none⟩) (by first | (rw [add_block]; exact hn150_1) | (show (Addr.add _ _).block ≠ _; rw [add_block]; exact hn150_1) | exact hn150_1) (.int .i64 t144)).trans hx150_0; replace hx150_1 := (cell_far (p := ⟨gb149, 1, none⟩) (by first | (rw [add_block]; exact hn150_1) | (show (Addr.add _ _).block ≠ _; rw [add_block]; exact hn150_1) | exact hn150_1) (.int .i64 t144)).trans hx150_1; replace hx150_2 := (cell_far (p := ⟨gb149, 1, none⟩) (by first | (rw [add_block]; exact hn150_1) | (show (Addr.add _ _).block ≠ _; rw [add_block]; exact hn150_1) | exact hn150_1) (.int .i64 t144)).trans hx150_2; replace hx150_3 := (cell_far (p := ⟨gb149, 1, none⟩) (by first | (rw [add_block]; exact hn150_1) | (show (Addr.add _ _).block ≠ _; rw [add_block]; exact hn150_1) | exact hn150_1) (.int .i64 t144)).trans hx150_3; replace hx150_4 := (cell_far (p := ⟨gb149, 1, none⟩) (by first | (rw [add_block]; exact hn150_1) | (show (Addr.add _ _).block ≠ _; rw [add_block]; exact hn150_1) | exact hn150_1) (.int .i64 t144)).trans hx150_4; replace hx150_0 := (cell_far (p := ⟨gb149, 2, none⟩) (by first | (rw [add_block]; exact hn150_2) | (show (Addr.add _ _).block ≠ _; rw [add_block]; exact hn150_2) | exact hn150_2) (.int .i64 t145)).trans hx150_0; replace hx150_1 := (cell_far (p := ⟨gb149, 2, none⟩) (by first | (rw [add_block]; exact hn150_2) | (show (Addr.add _ _).block ≠ _; rw [add_block]; exact hn150_2) | exact hn150_2) (.int .i64 t145)).trans hx150_1; replace hx150_2 := (cell_far (p := ⟨gb149, 2, none⟩) (by first | (rw [add_block]; exact hn150_2) | (show (Addr.add _ _).block ≠ _; rw [add_block]; exact hn150_2) | exact hn150_2) (.int .i64 t145)).trans hx150_2; replace hx150_3 := (cell_far (p := ⟨gb149, 2, none⟩) (by first | (rw [add_block]; exact hn150_2) | (show (Addr.add _ _).block ≠ _; rw [add_block]; exact hn150_2) | exact hn150_2) (.int .i64 t145)).trans hx150_3; replace hx150_4 := (cell_far (p := ⟨gb149, 2, none⟩) (by first | (rw [add_block]; exact hn150_2) | (show (Addr.add _ _).block ≠ _; rw [add_block]; exact hn150_2) | exact hn150_2) (.int .i64 t145)).trans hx150_4; replace hx150_0 := (cell_far (p := ⟨gb149, 3, none⟩) (by first | (rw [add_block]; exact hn150_3) | (show (Addr.add _ _).block ≠ _; rw [add_block]; exact hn150_3) | exact hn150_3) (.int .i64 t146)).trans hx150_0; replace hx150_1 := (cell_far (p := ⟨gb149, 3, none⟩) (by first | (rw [add_block]; exact hn150_3) | (show (Addr.add _ _).block ≠ _; rw [add_block]; exact hn150_3) | exact hn150_3) (.int .i64 t146)).trans hx150_1; replace hx150_2 := (cell_far (p := ⟨gb149, 3, none⟩) (by first | (rw [add_block]; exact hn150_3) | (show (Addr.add _ _).block ≠ _; rw [add_block]; exact hn150_3) | exact hn150_3) (.int .i64 t146)).trans hx150_2; replace hx150_3 := (cell_far (p := ⟨gb149, 3, none⟩) (by first | (rw [add_block]; exact hn150_3) | (show (Addr.add _ _).block ≠ _; rw [add_block]; exact hn150_3) | exact hn150_3) (.int .i64 t146)).trans hx150_3; replace hx150_4 := (cell_far (p := ⟨gb149, 3, none⟩) (by first | (rw [add_block]; exact hn150_3) | (show (Addr.add _ _).block ≠ _; rw [add_block]; exact hn150_3) | exact hn150_3) (.int .i64 t146)).trans hx150_4; replace hx150_0 := (cell_far (p := ⟨gb149, 4, none⟩) (by first | (rw [add_block]; exact hn150_4) | (show (Addr.add _ _).block ≠ _; rw [add_block]; exact hn150_4) | exact hn150_4) (.int .i64 t147)).trans hx150_0; replace hx150_1 := (cell_far (p := ⟨gb149, 4, none⟩) (by first | (rw [add_block]; exact hn150_4) | (show (Addr.add _ _).block ≠ _; rw [add_block]; exact hn150_4) | exact hn150_4) (.int .i64 t147)).trans hx150_1; replace hx150_2 := (cell_far (p := ⟨gb149, 4, none⟩) (by first | (rw [add_block]; exact hn150_4) | (show (Addr.add _ _).block ≠ _; rw [add_block]; exact hn150_4) | exact hn150_4) (.int .i64 t147)).trans hx150_2; replace hx150_3 := (cell_far (p := ⟨gb149, 4, none⟩) (by first | (rw [add_block]; exact hn150_4) | (show (Addr.add _ _).block ≠ _; rw [add_block]; exact hn150_4) | exact hn150_4) (.int .i64 t147)).trans hx150_3; replace hx150_4 := (cell_far (p := ⟨gb149, 4, none⟩) (by first | (rw [add_block]; exact hn150_4) | (show (Addr.add _ _).block ≠ _; rw [add_block]; exact hn150_4) | exact hn150_4) (.int .i64 t147)).trans hx150_4; (try have hy150_0 := fun (n_ : Nat) => (show (((((((w22.drewN n_).setCell ⟨gb149, 0, none⟩ (.int .u8 t143)).setCell ⟨gb149, 1, none⟩ (.int .i64 t144)).setCell ⟨gb149, 2, none⟩ (.int .i64 t145)).setCell ⟨gb149, 3, none⟩ (.int .i64 t146)).setCell ⟨gb149, 4, none⟩ (.int .i64 t147))).cell? _ = some _ from hx150_0)); (try have hy150_1 := fun (n_ : Nat) => (show (((((((w22.drewN n_).setCell ⟨gb149, 0, none⟩ (.int .u8 t143)).setCell ⟨gb149, 1, none⟩ (.int .i64 t144)).setCell ⟨gb149, 2, none⟩ (.int .i64 t145)).setCell ⟨gb149, 3, none⟩ (.int .i64 t146)).setCell ⟨gb149, 4, none⟩ (.int .i64 t147))).cell? _ = some _ from hx150_1)); (try have hy150_2 := fun (n_ : Nat) => (show (((((((w22.drewN n_).setCell ⟨gb149, 0, none⟩ (.int .u8 t143)).setCell ⟨gb149, 1, none⟩ (.int .i64 t144)).setCell ⟨gb149, 2, none⟩ (.int .i64 t145)).setCell ⟨gb149, 3, none⟩ (.int .i64 t146)).setCell ⟨gb149, 4, none⟩ (.int .i64 t147))).cell? _ = some _ from hx150_2)); (try have hy150_3 := fun (n_ : Nat) => (show (((((((w22.drewN n_).setCell ⟨gb149, 0, none⟩ (.int .u8 t143)).setCell ⟨gb149, 1, none⟩ (.int .i64 t144)).setCell ⟨gb149, 2, none⟩ (.int .i64 t145)).setCell ⟨gb149, 3, none⟩ (.int .i64 t146)).setCell ⟨gb149, 4, none⟩ (.int .i64 t147))).cell? _ = some _ from hx150_3)); (try have hy150_4 := fun (n_ : Nat) => (show (((((((w22.drewN n_).setCell ⟨gb149, 0, none⟩ (.int .u8 t143)).setCell ⟨gb149, 1, none⟩ (.int .i64 t144)).setCell ⟨gb149, 2, none⟩ (.int .i64 t145)).setCell ⟨gb149, 3, none⟩ (.int .i64 t146)).setCell ⟨gb149, 4, none⟩ (.int .i64 t147))).cell? _ = some _ from hx150_4)); clear hn150_0; clear hn150_1; clear hn150_2; clear hn150_3; clear hn150_4; replace p150 := eq_true p150; replace q150 := eq_true q150)); try go_wp2_with (first | (go_at_call 23; (with_reducible refine (isa_Decode.calls (rd l0 x6_1) t143 t144 t145 t146 t147 t148 _ A11.out).mono ?_); rintro e w21 ⟨rfl, hb⟩; have n0_ := Aside0.mk (Kd.R_below (by (with_reducible repeat (first | apply Kd.R_alloc | apply Kd.R_drewN | apply Kd.R_drew)); exact HO_3.out) hb); have n1_ := Aside0.mk (below_step (by repeat (first | (with_reducible first | exact HB.out | apply below_alloc | apply pw_below_drewN | apply below_drew1) | exact HB.out)) hb); clear HO_3; clear HB; have HO_3 := n0_; have HB := n1_; clear n0_ n1_; (try clear hb); (try clear hb2); (try clear hk); (try clear hi)) | ((with_reducible refine gate_dst (N := 7) rfl ?_); (try (refine gate_guard (by rfl) ?_; dsimp only)); refine box_event ?hg (N := 7) ?hd (cs := #[.int .u8 0, .int .i64 0, .int .i64 0, .int .i64 0, .int .i64 0]) (t := 48) ?hr ?_; (case hd => rfl); (case hg => rfl); (case hr => first | (go_simp; done) | (go_simp; rfl)); intro gb149 hg w22 hbox hb; have n0_ := Aside0.mk (Kd.R_below (Kd.R_elderB (by (with_reducible repeat (first | apply Kd.R_alloc | apply Kd.R_drewN | apply Kd.R_drew)); exact HO_3.out) gb149 (Nat.le_of_eq hg.symm)) hb); have n1_ := Aside0.mk (below_step (by repeat (first | (with_reducible first | exact HB.out | apply below_alloc | apply pw_below_drewN | apply below_drew1) | exact HB.out)) hb); have n2_ := Aside0.mk (hbox); have n3_ := Aside0.mk ((by rw [hg]; exact (below_size (by repeat (first | (with_reducible first | exact HB.out | apply below_alloc | apply pw_below_drewN | apply below_drew1) | exact HB.out))) : w.heap.size ≤ gb149)); have n4_ := Aside0.mk ((by rw [hg]; exact (below_size (by repeat (first | (with_reducible first | exact HB.out | apply below_alloc | apply pw_below_drewN | apply below_drew1) | exact HB.out))) : w.heap.size ≤ gb149)); clear HO_3; clear HB; have HO_3 := n0_; have HB := n1_; have BK149 := n2_; have GW149 := n3_; have GE149 := n4_; clear n0_ n1_ n2_ n3_ n4_; clear hb hbox hg; have hcz23_0 : w22.cell? ⟨gb149, 0, none⟩ = some (.int .u8 0) := (blk_cell BK149.out 0).trans rfl; have hcz23_1 : w22.cell? ⟨gb149, 1, none⟩ = some (.int .i64 0) := (blk_cell BK149.out 1).trans rfl; have hcz23_2 : w22.cell? ⟨gb149, 2, none⟩ = some (.int .i64 0) := (blk_cell BK149.out 2).trans rfl; have hcz23_3 : w22.cell? ⟨gb149, 3, none⟩ = some (.int .i64 0) := (blk_cell BK149.out 3).trans rfl; have hcz23_4 : w22.cell? ⟨gb149, 4, none⟩ = some (.int .i64 0) := (blk_cell BK149.out 4).trans rfl; have hfz23_0 := blk_frozen BK149.out 0; have hfz23_1 := blk_frozen BK149.out 1; have hfz23_2 := blk_frozen BK149.out 2; have hfz23_3 := blk_frozen BK149.out 3; have hfz23_4 := blk_frozen BK149.out 4; obtain ⟨Ao24, co24, eo24⟩ := Kd.R_slice HO_3.out; subst eo24; have p150 : 0 ≤ (x6_1 : Int) := of_decide_eq_true (by first | (with_reducible assumption) | assumption); have q150 : x6_1 < (t137.length : Int) := of_decide_eq_true (by first | (with_reducible assumption) | assumption); obtain ⟨ad150, e150, hx150_0, hx150_1, hx150_2, hx150_3, hx150_4⟩ := at_T48 (Kd.R_reads' HO_3.out).2.2 x6_1 p150 q150; cases e150; have hn150_0 : ad150.block ≠ gb149 := Kd.own_blk (Kd.R_ne HO_3.out BK149.out (by decide)); have hn150_1 : ad150.block ≠ gb149 := Kd.own_blk (Kd.R_ne HO_3.out BK149.out (by decide)); have hn150_2 : ad150.block ≠ gb149 := Kd.own_blk (Kd.R_ne HO_3.out BK149.out (by decide)); have hn150_3 : ad150.block ≠ gb149 := Kd.own_blk (Kd.R_ne HO_3.out BK149.out (by decide)); have hn150_4 : ad150.block ≠ gb149 := Kd.own_blk (Kd.R_ne HO_3.out BK149.out (by decide)); replace hx150_0 := (cell_far (p := ⟨gb149, 0, none⟩) (by first | (rw [add_block]; exact hn150_0) | (show (Addr.add _ _).block ≠ _; rw [add_block]; exact hn150_0) | exact hn150_0) (.int .u8 t143)).trans hx150_0; replace hx150_1 := (cell_far (p := ⟨gb149, 0, none⟩) (by first | (rw [add_block]; exact hn150_0) | (show (Addr.add _ _).block ≠ _; rw [add_block]; exact hn150_0) | exact hn150_0) (.int .u8 t143)).trans hx150_1; replace hx150_2 := (cell_far (p := ⟨gb149, 0, none⟩) (by first | (rw [add_block]; exact hn150_0) | (show (Addr.add _ _).block ≠ _; rw [add_block]; exact hn150_0) | exact hn150_0) (.int .u8 t143)).trans hx150_2; replace hx150_3 := (cell_far (p := ⟨gb149, 0, none⟩) (by first | (rw [add_block]; exact hn150_0) | (show (Addr.add _ _).block ≠ _; rw [add_block]; exact hn150_0) | exact hn150_0) (.int .u8 t143)).trans hx150_3; replace hx150_4 := (cell_far (p := ⟨gb149, 0, none⟩) (by first | (rw [add_block]; exact hn150_0) | (show (Addr.add _ _).block ≠ _; rw [add_block]; exact hn150_0) | exact hn150_0) (.int .u8 t143)).trans hx150_4; replace hx150_0 := (cell_far (p := ⟨gb149, 1, none⟩) (by first | (rw [add_block]; exact hn150_1) | (show (Addr.add _ _).block ≠ _; rw [add_block]; exact hn150_1) | exact hn150_1) (.int .i64 t144)).trans hx150_0; replace hx150_1 := (cell_far (p := ⟨gb149, 1, none⟩) (by first | (rw [add_block]; exact hn150_1) | (show (Addr.add _ _).block ≠ _; rw [add_block]; exact hn150_1) | exact hn150_1) (.int .i64 t144)).trans hx150_1; replace hx150_2 := (cell_far (p := ⟨gb149, 1, none⟩) (by first | (rw [add_block]; exact hn150_1) | (show (Addr.add _ _).block ≠ _; rw [add_block]; exact hn150_1) | exact hn150_1) (.int .i64 t144)).trans hx150_2; replace hx150_3 := (cell_far (p := ⟨gb149, 1, none⟩) (by first | (rw [add_block]; exact hn150_1) | (show (Addr.add _ _).block ≠ _; rw [add_block]; exact hn150_1) | exact hn150_1) (.int .i64 t144)).trans hx150_3; replace hx150_4 := (cell_far (p := ⟨gb149, 1, none⟩) (by first | (rw [add_block]; exact hn150_1) | (show (Addr.add _ _).block ≠ _; rw [add_block]; exact hn150_1) | exact hn150_1) (.int .i64 t144)).trans hx150_4; replace hx150_0 := (cell_far (p := ⟨gb149, 2, none⟩) (by first | (rw [add_block]; exact hn150_2) | (show (Addr.add _ _).block ≠ _; rw [add_block]; exact hn150_2) | exact hn150_2) (.int .i64 t145)).trans hx150_0; replace hx150_1 := (cell_far (p := ⟨gb149, 2, none⟩) (by first | (rw [add_block]; exact hn150_2) | (show (Addr.add _ _).block ≠ _; rw [add_block]; exact hn150_2) | exact hn150_2) (.int .i64 t145)).trans hx150_1; replace hx150_2 := (cell_far (p := ⟨gb149, 2, none⟩) (by first | (rw [add_block]; exact hn150_2) | (show (Addr.add _ _).block ≠ _; rw [add_block]; exact hn150_2) | exact hn150_2) (.int .i64 t145)).trans hx150_2; replace hx150_3 := (cell_far (p := ⟨gb149, 2, none⟩) (by first | (rw [add_block]; exact hn150_2) | (show (Addr.add _ _).block ≠ _; rw [add_block]; exact hn150_2) | exact hn150_2) (.int .i64 t145)).trans hx150_3; replace hx150_4 := (cell_far (p := ⟨gb149, 2, none⟩) (by first | (rw [add_block]; exact hn150_2) | (show (Addr.add _ _).block ≠ _; rw [add_block]; exact hn150_2) | exact hn150_2) (.int .i64 t145)).trans hx150_4; replace hx150_0 := (cell_far (p := ⟨gb149, 3, none⟩) (by first | (rw [add_block]; exact hn150_3) | (show (Addr.add _ _).block ≠ _; rw [add_block]; exact hn150_3) | exact hn150_3) (.int .i64 t146)).trans hx150_0; replace hx150_1 := (cell_far (p := ⟨gb149, 3, none⟩) (by first | (rw [add_block]; exact hn150_3) | (show (Addr.add _ _).block ≠ _; rw [add_block]; exact hn150_3) | exact hn150_3) (.int .i64 t146)).trans hx150_1; replace hx150_2 := (cell_far (p := ⟨gb149, 3, none⟩) (by first | (rw [add_block]; exact hn150_3) | (show (Addr.add _ _).block ≠ _; rw [add_block]; exact hn150_3) | exact hn150_3) (.int .i64 t146)).trans hx150_2; replace hx150_3 := (cell_far (p := ⟨gb149, 3, none⟩) (by first | (rw [add_block]; exact hn150_3) | (show (Addr.add _ _).block ≠ _; rw [add_block]; exact hn150_3) | exact hn150_3) (.int .i64 t146)).trans hx150_3; replace hx150_4 := (cell_far (p := ⟨gb149, 3, none⟩) (by first | (rw [add_block]; exact hn150_3) | (show (Addr.add _ _).block ≠ _; rw [add_block]; exact hn150_3) | exact hn150_3) (.int .i64 t146)).trans hx150_4; replace hx150_0 := (cell_far (p := ⟨gb149, 4, none⟩) (by first | (rw [add_block]; exact hn150_4) | (show (Addr.add _ _).block ≠ _; rw [add_block]; exact hn150_4) | exact hn150_4) (.int .i64 t147)).trans hx150_0; replace hx150_1 := (cell_far (p := ⟨gb149, 4, none⟩) (by first | (rw [add_block]; exact hn150_4) | (show (Addr.add _ _).block ≠ _; rw [add_block]; exact hn150_4) | exact hn150_4) (.int .i64 t147)).trans hx150_1; replace hx150_2 := (cell_far (p := ⟨gb149, 4, none⟩) (by first | (rw [add_block]; exact hn150_4) | (show (Addr.add _ _).block ≠ _; rw [add_block]; exact hn150_4) | exact hn150_4) (.int .i64 t147)).trans hx150_2; replace hx150_3 := (cell_far (p := ⟨gb149, 4, none⟩) (by first | (rw [add_block]; exact hn150_4) | (show (Addr.add _ _).block ≠ _; rw [add_block]; exact hn150_4) | exact hn150_4) (.int .i64 t147)).trans hx150_3; replace hx150_4 := (cell_far (p := ⟨gb149, 4, none⟩) (by first | (rw [add_block]; exact hn150_4) | (show (Addr.add _ _).block ≠ _; rw [add_block]; exact hn150_4) | exact hn150_4) (.int .i64 t147)).trans hx150_4; (try have hy150_0 := fun (n_ : Nat) => (show (((((((w22.drewN n_).setCell ⟨gb149, 0, none⟩ (.int .u8 t143)).setCell ⟨gb149, 1, none⟩ (.int .i64 t144)).setCell ⟨gb149, 2, none⟩ (.int .i64 t145)).setCell ⟨gb149, 3, none⟩ (.int .i64 t146)).setCell ⟨gb149, 4, none⟩ (.int .i64 t147))).cell? _ = some _ from hx150_0)); (try have hy150_1 := fun (n_ : Nat) => (show (((((((w22.drewN n_).setCell ⟨gb149, 0, none⟩ (.int .u8 t143)).setCell ⟨gb149, 1, none⟩ (.int .i64 t144)).setCell ⟨gb149, 2, none⟩ (.int .i64 t145)).setCell ⟨gb149, 3, none⟩ (.int .i64 t146)).setCell ⟨gb149, 4, none⟩ (.int .i64 t147))).cell? _ = some _ from hx150_1)); (try have hy150_2 := fun (n_ : Nat) => (show (((((((w22.drewN n_).setCell ⟨gb149, 0, none⟩ (.int .u8 t143)).setCell ⟨gb149, 1, none⟩ (.int .i64 t144)).setCell ⟨gb149, 2, none⟩ (.int .i64 t145)).setCell ⟨gb149, 3, none⟩ (.int .i64 t146)).setCell ⟨gb149, 4, none⟩ (.int .i64 t147))).cell? _ = some _ from hx150_2)); (try have hy150_3 := fun (n_ : Nat) => (show (((((((w22.drewN n_).setCell ⟨gb149, 0, none⟩ (.int .u8 t143)).setCell ⟨gb149, 1, none⟩ (.int .i64 t144)).setCell ⟨gb149, 2, none⟩ (.int .i64 t145)).setCell ⟨gb149, 3, none⟩ (.int .i64 t146)).setCell ⟨gb149, 4, none⟩ (.int .i64 t147))).cell? _ = some _ from hx150_3)); (try have hy150_4 := fun (n_ : Nat) => (show (((((((w22.drewN n_).setCell ⟨gb149, 0, none⟩ (.int .u8 t143)).setCell ⟨gb149, 1, none⟩ (.int .i64 t144)).setCell ⟨gb149, 2, none⟩ (.int .i64 t145)).setCell ⟨gb149, 3, none⟩ (.int .i64 t146)).setCell ⟨gb149, 4, none⟩ (.int .i64 t147))).cell? _ = some _ from hx150_4)); clear hn150_0; clear hn150_1; clear hn150_2; clear hn150_3; clear hn150_4; replace p150 := eq_true p150; replace q150 := eq_true q150)))
                        go_ret
                        exact ⟨by first | rfl | (simp [errW_none, errW_some] <;> rfl) | (simp [*, errW_none, errW_some] <;> rfl), by repeat (first | (with_reducible first | exact HB.out | apply below_alloc | apply pw_below_drewN | apply below_drew1 | refine below_set ?_ GE149.out) | exact HB.out)⟩
                      · rw [if_neg c20] at H
                        have c20b0 : (!(((rd_T48 t137 x6_1).f0) == t143) || (!(((rd_T48 t137 x6_1).f1) == t144) || (!(((rd_T48 t137 x6_1).f2) == t145) || (!(((rd_T48 t137 x6_1).f3) == t146) || (!(((rd_T48 t137 x6_1).f4) == t147)))))) = false := by simpa using c20
                        clear c20
                        have H' := Aside0.mk H
                        clear H
                        have p142 : 0 ≤ (x6_1 : Int) := of_decide_eq_true (by first | (with_reducible assumption) | assumption)
                        have q142 : x6_1 < (l0.length : Int) := of_decide_eq_true (by first | (with_reducible assumption) | assumption)
                        obtain ⟨ad142, e142, hx142_0⟩ := Kd.at_int HR0.out x6_1 p142 q142
                        cases e142
                        replace hx142_0 := (HB.out.cell (World.block_lt_of_cell? w _ hx142_0)).trans hx142_0
                        replace p142 := eq_true p142
                        replace q142 := eq_true q142
                        go_wp2_with (first | (go_at_call 23; (with_reducible refine (isa_Decode.calls (rd l0 x6_1) t143 t144 t145 t146 t147 t148 _ A11.out).mono ?_); rintro e w25 ⟨rfl, hb⟩; have n0_ := Aside0.mk (Kd.R_below (by (with_reducible repeat (first | apply Kd.R_alloc | apply Kd.R_drewN | apply Kd.R_drew)); exact HO_3.out) hb); have n1_ := Aside0.mk (below_step (by repeat (first | (with_reducible first | exact HB.out | apply below_alloc | apply pw_below_drewN | apply below_drew1) | exact HB.out)) hb); clear HO_3; clear HB; have HO_3 := n0_; have HB := n1_; clear n0_ n1_; (try clear hb); (try clear hb2); (try clear hk); (try clear hi)) | ((with_reducible refine gate_dst (N := 7) rfl ?_); (try (refine gate_guard (by rfl) ?_; dsimp only)); refine box_event ?hg (N := 7) ?hd (cs := #[.int .u8 0, .int .i64 0, .int .i64 0, .int .i64 0, .int .i64 0]) (t := 48) ?hr ?_; (case hd => rfl); (case hg => rfl); (case hr => first | (go_simp; done) | (go_simp; rfl)); intro gb149 hg w26 hbox hb; have n0_ := Aside0.mk (Kd.R_below (Kd.R_elderB (by (with_reducible repeat (first | apply Kd.R_alloc | apply Kd.R_drewN | apply Kd.R_drew)); exact HO_3.out) gb149 (Nat.le_of_eq hg.symm)) hb); have n1_ := Aside0.mk (below_step (by repeat (first | (with_reducible first | exact HB.out | apply below_alloc | apply pw_below_drewN | apply below_drew1) | exact HB.out)) hb); have n2_ := Aside0.mk (hbox); have n3_ := Aside0.mk ((by rw [hg]; exact (below_size (by repeat (first | (with_reducible first | exact HB.out | apply below_alloc | apply pw_below_drewN | apply below_drew1) | exact HB.out))) : w.heap.size ≤ gb149)); have n4_ := Aside0.mk ((by rw [hg]; exact (below_size (by repeat (first | (with_reducible first | exact HB.out | apply below_alloc | apply pw_below_drewN | apply below_drew1) | exact HB.out))) : w.heap.size ≤ gb149)); clear HO_3; clear HB; have HO_3 := n0_; have HB := n1_; have BK149 := n2_; have GW149 := n3_; have GE149 := n4_; clear n0_ n1_ n2_ n3_ n4_; clear hb hbox hg; have hcz27_0 : w26.cell? ⟨gb149, 0, none⟩ = some (.int .u8 0) := (blk_cell BK149.out 0).trans rfl; have hcz27_1 : w26.cell? ⟨gb149, 1, none⟩ = some (.int .i64 0) := (blk_cell BK149.out 1).trans rfl; have hcz27_2 : w26.cell? ⟨gb149, 2, none⟩ = some (.int .i64 0) := (blk_cell BK149.out 2).trans rfl; have hcz27_3 : w26.cell? ⟨gb149, 3, none⟩ = some (.int .i64 0) := (blk_cell BK149.out 3).trans rfl; have hcz27_4 : w26.cell? ⟨gb149, 4, none⟩ = some (.int .i64 0) := (blk_cell BK149.out 4).trans rfl; have hfz27_0 := blk_frozen BK149.out 0; have hfz27_1 := blk_frozen BK149.out 1; have hfz27_2 := blk_frozen BK149.out 2; have hfz27_3 := blk_frozen BK149.out 3; have hfz27_4 := blk_frozen BK149.out 4; obtain ⟨Ao28, co28, eo28⟩ := Kd.R_slice HO_3.out; subst eo28; have p150 : 0 ≤ (x6_1 : Int) := of_decide_eq_true (by first | (with_reducible assumption) | assumption); have q150 : x6_1 < (t137.length : Int) := of_decide_eq_true (by first | (with_reducible assumption) | assumption); obtain ⟨ad150, e150, hx150_0, hx150_1, hx150_2, hx150_3, hx150_4⟩ := at_T48 (Kd.R_reads' HO_3.out).2.2 x6_1 p150 q150; cases e150; have hn150_0 : ad150.block ≠ gb149 := Kd.own_blk (Kd.R_ne HO_3.out BK149.out (by decide)); have hn150_1 : ad150.block ≠ gb149 := Kd.own_blk (Kd.R_ne HO_3.out BK149.out (by decide)); have hn150_2 : ad150.block ≠ gb149 := Kd.own_blk (Kd.R_ne HO_3.out BK149.out (by decide)); have hn150_3 : ad150.block ≠ gb149 := Kd.own_blk (Kd.R_ne HO_3.out BK149.out (by decide)); have hn150_4 : ad150.block ≠ gb149 := Kd.own_blk (Kd.R_ne HO_3.out BK149.out (by decide)); replace hx150_0 := (cell_far (p := ⟨gb149, 0, none⟩) (by first | (rw [add_block]; exact hn150_0) | (show (Addr.add _ _).block ≠ _; rw [add_block]; exact hn150_0) | exact hn150_0) (.int .u8 t143)).trans hx150_0; replace hx150_1 := (cell_far (p := ⟨gb149, 0, none⟩) (by first | (rw [add_block]; exact hn150_0) | (show (Addr.add _ _).block ≠ _; rw [add_block]; exact hn150_0) | exact hn150_0) (.int .u8 t143)).trans hx150_1; replace hx150_2 := (cell_far (p := ⟨gb149, 0, none⟩) (by first | (rw [add_block]; exact hn150_0) | (show (Addr.add _ _).block ≠ _; rw [add_block]; exact hn150_0) | exact hn150_0) (.int .u8 t143)).trans hx150_2; replace hx150_3 := (cell_far (p := ⟨gb149, 0, none⟩) (by first | (rw [add_block]; exact hn150_0) | (show (Addr.add _ _).block ≠ _; rw [add_block]; exact hn150_0) | exact hn150_0) (.int .u8 t143)).trans hx150_3; replace hx150_4 := (cell_far (p := ⟨gb149, 0, none⟩) (by first | (rw [add_block]; exact hn150_0) | (show (Addr.add _ _).block ≠ _; rw [add_block]; exact hn150_0) | exact hn150_0) (.int .u8 t143)).trans hx150_4; replace hx150_0 := (cell_far (p := ⟨gb149, 1, none⟩) (by first | (rw [add_block]; exact hn150_1) | (show (Addr.add _ _).block ≠ _; rw [add_block]; exact hn150_1) | exact hn150_1) (.int .i64 t144)).trans hx150_0; replace hx150_1 := (cell_far (p := ⟨gb149, 1, none⟩) (by first | (rw [add_block]; exact hn150_1) | (show (Addr.add _ _).block ≠ _; rw [add_block]; exact hn150_1) | exact hn150_1) (.int .i64 t144)).trans hx150_1; replace hx150_2 := (cell_far (p := ⟨gb149, 1, none⟩) (by first | (rw [add_block]; exact hn150_1) | (show (Addr.add _ _).block ≠ _; rw [add_block]; exact hn150_1) | exact hn150_1) (.int .i64 t144)).trans hx150_2; replace hx150_3 := (cell_far (p := ⟨gb149, 1, none⟩) (by first | (rw [add_block]; exact hn150_1) | (show (Addr.add _ _).block ≠ _; rw [add_block]; exact hn150_1) | exact hn150_1) (.int .i64 t144)).trans hx150_3; replace hx150_4 := (cell_far (p := ⟨gb149, 1, none⟩) (by first | (rw [add_block]; exact hn150_1) | (show (Addr.add _ _).block ≠ _; rw [add_block]; exact hn150_1) | exact hn150_1) (.int .i64 t144)).trans hx150_4; replace hx150_0 := (cell_far (p := ⟨gb149, 2, none⟩) (by first | (rw [add_block]; exact hn150_2) | (show (Addr.add _ _).block ≠ _; rw [add_block]; exact hn150_2) | exact hn150_2) (.int .i64 t145)).trans hx150_0; replace hx150_1 := (cell_far (p := ⟨gb149, 2, none⟩) (by first | (rw [add_block]; exact hn150_2) | (show (Addr.add _ _).block ≠ _; rw [add_block]; exact hn150_2) | exact hn150_2) (.int .i64 t145)).trans hx150_1; replace hx150_2 := (cell_far (p := ⟨gb149, 2, none⟩) (by first | (rw [add_block]; exact hn150_2) | (show (Addr.add _ _).block ≠ _; rw [add_block]; exact hn150_2) | exact hn150_2) (.int .i64 t145)).trans hx150_2; replace hx150_3 := (cell_far (p := ⟨gb149, 2, none⟩) (by first | (rw [add_block]; exact hn150_2) | (show (Addr.add _ _).block ≠ _; rw [add_block]; exact hn150_2) | exact hn150_2) (.int .i64 t145)).trans hx150_3; replace hx150_4 := (cell_far (p := ⟨gb149, 2, none⟩) (by first | (rw [add_block]; exact hn150_2) | (show (Addr.add _ _).block ≠ _; rw [add_block]; exact hn150_2) | exact hn150_2) (.int .i64 t145)).trans hx150_4; replace hx150_0 := (cell_far (p := ⟨gb149, 3, none⟩) (by first | (rw [add_block]; exact hn150_3) | (show (Addr.add _ _).block ≠ _; rw [add_block]; exact hn150_3) | exact hn150_3) (.int .i64 t146)).trans hx150_0; replace hx150_1 := (cell_far (p := ⟨gb149, 3, none⟩) (by first | (rw [add_block]; exact hn150_3) | (show (Addr.add _ _).block ≠ _; rw [add_block]; exact hn150_3) | exact hn150_3) (.int .i64 t146)).trans hx150_1; replace hx150_2 := (cell_far (p := ⟨gb149, 3, none⟩) (by first | (rw [add_block]; exact hn150_3) | (show (Addr.add _ _).block ≠ _; rw [add_block]; exact hn150_3) | exact hn150_3) (.int .i64 t146)).trans hx150_2; replace hx150_3 := (cell_far (p := ⟨gb149, 3, none⟩) (by first | (rw [add_block]; exact hn150_3) | (show (Addr.add _ _).block ≠ _; rw [add_block]; exact hn150_3) | exact hn150_3) (.int .i64 t146)).trans hx150_3; replace hx150_4 := (cell_far (p := ⟨gb149, 3, none⟩) (by first | (rw [add_block]; exact hn150_3) | (show (Addr.add _ _).block ≠ _; rw [add_block]; exact hn150_3) | exact hn150_3) (.int .i64 t146)).trans hx150_4; replace hx150_0 := (cell_far (p := ⟨gb149, 4, none⟩) (by first | (rw [add_block]; exact hn150_4) | (show (Addr.add _ _).block ≠ _; rw [add_block]; exact hn150_4) | exact hn150_4) (.int .i64 t147)).trans hx150_0; replace hx150_1 := (cell_far (p := ⟨gb149, 4, none⟩) (by first | (rw [add_block]; exact hn150_4) | (show (Addr.add _ _).block ≠ _; rw [add_block]; exact hn150_4) | exact hn150_4) (.int .i64 t147)).trans hx150_1; replace hx150_2 := (cell_far (p := ⟨gb149, 4, none⟩) (by first | (rw [add_block]; exact hn150_4) | (show (Addr.add _ _).block ≠ _; rw [add_block]; exact hn150_4) | exact hn150_4) (.int .i64 t147)).trans hx150_2; replace hx150_3 := (cell_far (p := ⟨gb149, 4, none⟩) (by first | (rw [add_block]; exact hn150_4) | (show (Addr.add _ _).block ≠ _; rw [add_block]; exact hn150_4) | exact hn150_4) (.int .i64 t147)).trans hx150_3; replace hx150_4 := (cell_far (p := ⟨gb149, 4, none⟩) (by first | (rw [add_block]; exact hn150_4) | (show (Addr.add _ _).block ≠ _; rw [add_block]; exact hn150_4) | exact hn150_4) (.int .i64 t147)).trans hx150_4; (try have hy150_0 := fun (n_ : Nat) => (show (((((((w26.drewN n_).setCell ⟨gb149, 0, none⟩ (.int .u8 t143)).setCell ⟨gb149, 1, none⟩ (.int .i64 t144)).setCell ⟨gb149, 2, none⟩ (.int .i64 t145)).setCell ⟨gb149, 3, none⟩ (.int .i64 t146)).setCell ⟨gb149, 4, none⟩ (.int .i64 t147))).cell? _ = some _ from hx150_0)); (try have hy150_1 := fun (n_ : Nat) => (show (((((((w26.drewN n_).setCell ⟨gb149, 0, none⟩ (.int .u8 t143)).setCell ⟨gb149, 1, none⟩ (.int .i64 t144)).setCell ⟨gb149, 2, none⟩ (.int .i64 t145)).setCell ⟨gb149, 3, none⟩ (.int .i64 t146)).setCell ⟨gb149, 4, none⟩ (.int .i64 t147))).cell? _ = some _ from hx150_1)); (try have hy150_2 := fun (n_ : Nat) => (show (((((((w26.drewN n_).setCell ⟨gb149, 0, none⟩ (.int .u8 t143)).setCell ⟨gb149, 1, none⟩ (.int .i64 t144)).setCell ⟨gb149, 2, none⟩ (.int .i64 t145)).setCell ⟨gb149, 3, none⟩ (.int .i64 t146)).setCell ⟨gb149, 4, none⟩ (.int .i64 t147))).cell? _ = some _ from hx150_2)); (try have hy150_3 := fun (n_ : Nat) => (show (((((((w26.drewN n_).setCell ⟨gb149, 0, none⟩ (.int .u8 t143)).setCell ⟨gb149, 1, none⟩ (.int .i64 t144)).setCell ⟨gb149, 2, none⟩ (.int .i64 t145)).setCell ⟨gb149, 3, none⟩ (.int .i64 t146)).setCell ⟨gb149, 4, none⟩ (.int .i64 t147))).cell? _ = some _ from hx150_3)); (try have hy150_4 := fun (n_ : Nat) => (show (((((((w26.drewN n_).setCell ⟨gb149, 0, none⟩ (.int .u8 t143)).setCell ⟨gb149, 1, none⟩ (.int .i64 t144)).setCell ⟨gb149, 2, none⟩ (.int .i64 t145)).setCell ⟨gb149, 3, none⟩ (.int .i64 t146)).setCell ⟨gb149, 4, none⟩ (.int .i64 t147))).cell? _ = some _ from hx150_4)); clear hn150_0; clear hn150_1; clear hn150_2; clear hn150_3; clear hn150_4; replace p150 := eq_true p150; replace q150 := eq_true q150))
                        obtain ⟨Ao24, co24, eo24⟩ := Kd.R_slice HO_3.out
                        subst eo24
                        have p150 : 0 ≤ (x6_1 : Int) := of_decide_eq_true (by first | (with_reducible assumption) | assumption)
                        have q150 : x6_1 < (t137.length : Int) := of_decide_eq_true (by first | (with_reducible assumption) | assumption)
                        obtain ⟨ad150, e150, hx150_0, hx150_1, hx150_2, hx150_3, hx150_4⟩ := at_T48 (Kd.R_reads' HO_3.out).2.2 x6_1 p150 q150
                        cases e150
                        have hy150_0 := fun (X : Obj) (n_ : Nat) => (show ((w25.alloc X).drewN n_).cell? _ = some _ from (World.cell?_alloc_lt _ _ _ (World.block_lt_of_cell? w25 _ hx150_0)).trans hx150_0)
                        have hy150_1 := fun (X : Obj) (n_ : Nat) => (show ((w25.alloc X).drewN n_).cell? _ = some _ from (World.cell?_alloc_lt _ _ _ (World.block_lt_of_cell? w25 _ hx150_1)).trans hx150_1)
                        have hy150_2 := fun (X : Obj) (n_ : Nat) => (show ((w25.alloc X).drewN n_).cell? _ = some _ from (World.cell?_alloc_lt _ _ _ (World.block_lt_of_cell? w25 _ hx150_2)).trans hx150_2)
                        have hy150_3 := fun (X : Obj) (n_ : Nat) => (show ((w25.alloc X).drewN n_).cell? _ = some _ from (World.cell?_alloc_lt _ _ _ (World.block_lt_of_cell? w25 _ hx150_3)).trans hx150_3)
                        have hy150_4 := fun (X : Obj) (n_ : Nat) => (show ((w25.alloc X).drewN n_).cell? _ = some _ from (World.cell?_alloc_lt _ _ _ (World.block_lt_of_cell? w25 _ hx150_4)).trans hx150_4)
                        have hz150_0 := fun (n_ : Nat) => (show ((w25.alloc (.cells #[.int .u8 t143, .int .i64 t144, .int .i64 t145, .int .i64 t146, .int .i64 t147] 48)).drewN n_).cell? ⟨w25.heap.size, 0, none⟩ = some (.int .u8 t143) from World.cell?_alloc_mark _ _ _ _ _)
                        have hz150_1 := fun (n_ : Nat) => (show ((w25.alloc (.cells #[.int .u8 t143, .int .i64 t144, .int .i64 t145, .int .i64 t146, .int .i64 t147] 48)).drewN n_).cell? ⟨w25.heap.size, 1, none⟩ = some (.int .i64 t144) from World.cell?_alloc_mark _ _ _ _ _)
                        have hz150_2 := fun (n_ : Nat) => (show ((w25.alloc (.cells #[.int .u8 t143, .int .i64 t144, .int .i64 t145, .int .i64 t146, .int .i64 t147] 48)).drewN n_).cell? ⟨w25.heap.size, 2, none⟩ = some (.int .i64 t145) from World.cell?_alloc_mark _ _ _ _ _)
                        have hz150_3 := fun (n_ : Nat) => (show ((w25.alloc (.cells #[.int .u8 t143, .int .i64 t144, .int .i64 t145, .int .i64 t146, .int .i64 t147] 48)).drewN n_).cell? ⟨w25.heap.size, 3, none⟩ = some (.int .i64 t146) from World.cell?_alloc_mark _ _ _ _ _)
                        have hz150_4 := fun (n_ : Nat) => (show ((w25.alloc (.cells #[.int .u8 t143, .int .i64 t144, .int .i64 t145, .int .i64 t146, .int .i64 t147] 48)).drewN n_).cell? ⟨w25.heap.size, 4, none⟩ = some (.int .i64 t147) from World.cell?_alloc_mark _ _ _ _ _)
                        replace p150 := eq_true p150
                        replace q150 := eq_true q150
                        repeat (go_quiet (first | (go_at_call 23; (with_reducible refine (isa_Decode.calls (rd l0 x6_1) t143 t144 t145 t146 t147 t148 _ A11.out).mono ?_); rintro e w25 ⟨rfl, hb⟩; have n0_ := Aside0.mk (Kd.R_below (by (with_reducible repeat (first | apply Kd.R_alloc | apply Kd.R_drewN | apply Kd.R_drew)); exact HO_3.out) hb); have n1_ := Aside0.mk (below_step (by repeat (first | (with_reducible first | exact HB.out | apply below_alloc | apply pw_below_drewN | apply below_drew1) | exact HB.out)) hb); clear HO_3; clear HB; have HO_3 := n0_; have HB := n1_; clear n0_ n1_; (try clear hb); (try clear hb2); (try clear hk); (try clear hi)) | ((with_reducible refine gate_dst (N := 7) rfl ?_); (try (refine gate_guard (by rfl) ?_; dsimp only)); refine box_event ?hg (N := 7) ?hd (cs := #[.int .u8 0, .int .i64 0, .int .i64 0, .int .i64 0, .int .i64 0]) (t := 48) ?hr ?_; (case hd => rfl); (case hg => rfl); (case hr => first | (go_simp; done) | (go_simp; rfl)); intro gb149 hg w26 hbox hb; have n0_ := Aside0.mk (Kd.R_below (Kd.R_elderB (by (with_reducible repeat (first | apply Kd.R_alloc | apply Kd.R_drewN | apply Kd.R_drew)); exact HO_3.out) gb149 (Nat.le_of_eq hg.symm)) hb); have n1_ := Aside0.mk (below_step (by repeat (first | (with_reducible first | exact HB.out | apply below_alloc | apply pw_below_drewN | apply below_drew1) | exact HB.out)) hb); have n2_ := Aside0.mk (hbox); have n3_ := Aside0.mk ((by rw [hg]; exact (below_size (by repeat (first | (with_reducible first | exact HB.out | apply below_alloc | apply pw_below_drewN | apply below_drew1) | exact HB.out))) : w.heap.size ≤ gb149)); have n4_ := Aside0.mk ((by rw [hg]; exact (below_size (by repeat (first | (with_reducible first | exact HB.out | apply below_alloc | apply pw_below_drewN | apply below_drew1) | exact HB.out))) : w.heap.size ≤ gb149)); clear HO_3; clear HB; have HO_3 := n0_; have HB := n1_; have BK149 := n2_; have GW149 := n3_; have GE149 := n4_; clear n0_ n1_ n2_ n3_ n4_; clear hb hbox hg; have hcz27_0 : w26.cell? ⟨gb149, 0, none⟩ = some (.int .u8 0) := (blk_cell BK149.out 0).trans rfl; have hcz27_1 : w26.cell? ⟨gb149, 1, none⟩ = some (.int .i64 0) := (blk_cell BK149.out 1).trans rfl; have hcz27_2 : w26.cell? ⟨gb149, 2, none⟩ = some (.int .i64 0) := (blk_cell BK149.out 2).trans rfl; have hcz27_3 : w26.cell? ⟨gb149, 3, none⟩ = some (.int .i64 0) := (blk_cell BK149.out 3).trans rfl; have hcz27_4 : w26.cell? ⟨gb149, 4, none⟩ = some (.int .i64 0) := (blk_cell BK149.out 4).trans rfl; have hfz27_0 := blk_frozen BK149.out 0; have hfz27_1 := blk_frozen BK149.out 1; have hfz27_2 := blk_frozen BK149.out 2; have hfz27_3 := blk_frozen BK149.out 3; have hfz27_4 := blk_frozen BK149.out 4; obtain ⟨Ao28, co28, eo28⟩ := Kd.R_slice HO_3.out; subst eo28; have p150 : 0 ≤ (x6_1 : Int) := of_decide_eq_true (by first | (with_reducible assumption) | assumption); have q150 : x6_1 < (t137.length : Int) := of_decide_eq_true (by first | (with_reducible assumption) | assumption); obtain ⟨ad150, e150, hx150_0, hx150_1, hx150_2, hx150_3, hx150_4⟩ := at_T48 (Kd.R_reads' HO_3.out).2.2 x6_1 p150 q150; cases e150; have hn150_0 : ad150.block ≠ gb149 := Kd.own_blk (Kd.R_ne HO_3.out BK149.out (by decide)); have hn150_1 : ad150.block ≠ gb149 := Kd.own_blk (Kd.R_ne HO_3.out BK149.out (by decide)); have hn150_2 : ad150.block ≠ gb149 := Kd.own_blk (Kd.R_ne HO_3.out BK149.out (by decide)); have hn150_3 : ad150.block ≠ gb149 := Kd.own_blk (Kd.R_ne HO_3.out BK149.out (by decide)); have hn150_4 : ad150.block ≠ gb149 := Kd.own_blk (Kd.R_ne HO_3.out BK149.out (by decide)); replace hx150_0 := (cell_far (p := ⟨gb149, 0, none⟩) (by first | (rw [add_block]; exact hn150_0) | (show (Addr.add _ _).block ≠ _; rw [add_block]; exact hn150_0) | exact hn150_0) (.int .u8 t143)).trans hx150_0; replace hx150_1 := (cell_far (p := ⟨gb149, 0, none⟩) (by first | (rw [add_block]; exact hn150_0) | (show (Addr.add _ _).block ≠ _; rw [add_block]; exact hn150_0) | exact hn150_0) (.int .u8 t143)).trans hx150_1; replace hx150_2 := (cell_far (p := ⟨gb149, 0, none⟩) (by first | (rw [add_block]; exact hn150_0) | (show (Addr.add _ _).block ≠ _; rw [add_block]; exact hn150_0) | exact hn150_0) (.int .u8 t143)).trans hx150_2; replace hx150_3 := (cell_far (p := ⟨gb149, 0, none⟩) (by first | (rw [add_block]; exact hn150_0) | (show (Addr.add _ _).block ≠ _; rw [add_block]; exact hn150_0) | exact hn150_0) (.int .u8 t143)).trans hx150_3; replace hx150_4 := (cell_far (p := ⟨gb149, 0, none⟩) (by first | (rw [add_block]; exact hn150_0) | (show (Addr.add _ _).block ≠ _; rw [add_block]; exact hn150_0) | exact hn150_0) (.int .u8 t143)).trans hx150_4; replace hx150_0 := (cell_far (p := ⟨gb149, 1, none⟩) (by first | (rw [add_block]; exact hn150_1) | (show (Addr.add _ _).block ≠ _; rw [add_block]; exact hn150_1) | exact hn150_1) (.int .i64 t144)).trans hx150_0; replace hx150_1 := (cell_far (p := ⟨gb149, 1, none⟩) (by first | (rw [add_block]; exact hn150_1) | (show (Addr.add _ _).block ≠ _; rw [add_block]; exact hn150_1) | exact hn150_1) (.int .i64 t144)).trans hx150_1; replace hx150_2 := (cell_far (p := ⟨gb149, 1, none⟩) (by first | (rw [add_block]; exact hn150_1) | (show (Addr.add _ _).block ≠ _; rw [add_block]; exact hn150_1) | exact hn150_1) (.int .i64 t144)).trans hx150_2; replace hx150_3 := (cell_far (p := ⟨gb149, 1, none⟩) (by first | (rw [add_block]; exact hn150_1) | (show (Addr.add _ _).block ≠ _; rw [add_block]; exact hn150_1) | exact hn150_1) (.int .i64 t144)).trans hx150_3; replace hx150_4 := (cell_far (p := ⟨gb149, 1, none⟩) (by first | (rw [add_block]; exact hn150_1) | (show (Addr.add _ _).block ≠ _; rw [add_block]; exact hn150_1) | exact hn150_1) (.int .i64 t144)).trans hx150_4; replace hx150_0 := (cell_far (p := ⟨gb149, 2, none⟩) (by first | (rw [add_block]; exact hn150_2) | (show (Addr.add _ _).block ≠ _; rw [add_block]; exact hn150_2) | exact hn150_2) (.int .i64 t145)).trans hx150_0; replace hx150_1 := (cell_far (p := ⟨gb149, 2, none⟩) (by first | (rw [add_block]; exact hn150_2) | (show (Addr.add _ _).block ≠ _; rw [add_block]; exact hn150_2) | exact hn150_2) (.int .i64 t145)).trans hx150_1; replace hx150_2 := (cell_far (p := ⟨gb149, 2, none⟩) (by first | (rw [add_block]; exact hn150_2) | (show (Addr.add _ _).block ≠ _; rw [add_block]; exact hn150_2) | exact hn150_2) (.int .i64 t145)).trans hx150_2; replace hx150_3 := (cell_far (p := ⟨gb149, 2, none⟩) (by first | (rw [add_block]; exact hn150_2) | (show (Addr.add _ _).block ≠ _; rw [add_block]; exact hn150_2) | exact hn150_2) (.int .i64 t145)).trans hx150_3; replace hx150_4 := (cell_far (p := ⟨gb149, 2, none⟩) (by first | (rw [add_block]; exact hn150_2) | (show (Addr.add _ _).block ≠ _; rw [add_block]; exact hn150_2) | exact hn150_2) (.int .i64 t145)).trans hx150_4; replace hx150_0 := (cell_far (p := ⟨gb149, 3, none⟩) (by first | (rw [add_block]; exact hn150_3) | (show (Addr.add _ _).block ≠ _; rw [add_block]; exact hn150_3) | exact hn150_3) (.int .i64 t146)).trans hx150_0; replace hx150_1 := (cell_far (p := ⟨gb149, 3, none⟩) (by first | (rw [add_block]; exact hn150_3) | (show (Addr.add _ _).block ≠ _; rw [add_block]; exact hn150_3) | exact hn150_3) (.int .i64 t146)).trans hx150_1; replace hx150_2 := (cell_far (p := ⟨gb149, 3, none⟩) (by first | (rw [add_block]; exact hn150_3) | (show (Addr.add _ _).block ≠ _; rw [add_block]; exact hn150_3) | exact hn150_3) (.int .i64 t146)).trans hx150_2; replace hx150_3 := (cell_far (p := ⟨gb149, 3, none⟩) (by first | (rw [add_block]; exact hn150_3) | (show (Addr.add _ _).block ≠ _; rw [add_block]; exact hn150_3) | exact hn150_3) (.int .i64 t146)).trans hx150_3; replace hx150_4 := (cell_far (p := ⟨gb149, 3, none⟩) (by first | (rw [add_block]; exact hn150_3) | (show (Addr.add _ _).block ≠ _; rw [add_block]; exact hn150_3) | exact hn150_3) (.int .i64 t146)).trans hx150_4; replace hx150_0 := (cell_far (p := ⟨gb149, 4, none⟩) (by first | (rw [add_block]; exact hn150_4) | (show (Addr.add _ _).block ≠ _; rw [add_block]; exact hn150_4) | exact hn150_4) (.int .i64 t147)).trans hx150_0; replace hx150_1 := (cell_far (p := ⟨gb149, 4, none⟩) (by first | (rw [add_block]; exact hn150_4) | (show (Addr.add _ _).block ≠ _; rw [add_block]; exact hn150_4) | exact hn150_4) (.int .i64 t147)).trans hx150_1; replace hx150_2 := (cell_far (p := ⟨gb149, 4, none⟩) (by first | (rw [add_block]; exact hn150_4) | (show (Addr.add _ _).block ≠ _; rw [add_block]; exact hn150_4) | exact hn150_4) (.int .i64 t147)).trans hx150_2; replace hx150_3 := (cell_far (p := ⟨gb149, 4, none⟩) (by first | (rw [add_block]; exact hn150_4) | (show (Addr.add _ _).block ≠ _; rw [add_block]; exact hn150_4) | exact hn150_4) (.int .i64 t147)).trans hx150_3; replace hx150_4 := (cell_far (p := ⟨gb149, 4, none⟩) (by first | (rw [add_block]; exact hn150_4) | (show (Addr.add _ _).block ≠ _; rw [add_block]; exact hn150_4) | exact hn150_4) (.int .i64 t147)).trans hx150_4; (try have hy150_0 := fun (n_ : Nat) => (show (((((((w26.drewN n_).setCell ⟨gb149, 0, none⟩ (.int .u8 t143)).setCell ⟨gb149, 1, none⟩ (.int .i64 t144)).setCell ⟨gb149, 2, none⟩ (.int .i64 t145)).setCell ⟨gb149, 3, none⟩ (.int .i64 t146)).setCell ⟨gb149, 4, none⟩ (.int .i64 t147))).cell? _ = some _ from hx150_0)); (try have hy150_1 := fun (n_ : Nat) => (show (((((((w26.drewN n_).setCell ⟨gb149, 0, none⟩ (.int .u8 t143)).setCell ⟨gb149, 1, none⟩ (.int .i64 t144)).setCell ⟨gb149, 2, none⟩ (.int .i64 t145)).setCell ⟨gb149, 3, none⟩ (.int .i64 t146)).setCell ⟨gb149, 4, none⟩ (.int .i64 t147))).cell? _ = some _ from hx150_1)); (try have hy150_2 := fun (n_ : Nat) => (show (((((((w26.drewN n_).setCell ⟨gb149, 0, none⟩ (.int .u8 t143)).setCell ⟨gb149, 1, none⟩ (.int .i64 t144)).setCell ⟨gb149, 2, none⟩ (.int .i64 t145)).setCell ⟨gb149, 3, none⟩ (.int .i64 t146)).setCell ⟨gb149, 4, none⟩ (.int .i64 t147))).cell? _ = some _ from hx150_2)); (try have hy150_3 := fun (n_ : Nat) => (show (((((((w26.drewN n_).setCell ⟨gb149, 0, none⟩ (.int .u8 t143)).setCell ⟨gb149, 1, none⟩ (.int .i64 t144)).setCell ⟨gb149, 2, none⟩ (.int .i64 t145)).setCell ⟨gb149, 3, none⟩ (.int .i64 t146)).setCell ⟨gb149, 4, none⟩ (.int .i64 t147))).cell? _ = some _ from hx150_3)); (try have hy150_4 := fun (n_ : Nat) => (show (((((((w26.drewN n_).setCell ⟨gb149, 0, none⟩ (.int .u8 t143)).setCell ⟨gb149, 1, none⟩ (.int .i64 t144)).setCell ⟨gb149, 2, none⟩ (.int .i64 t145)).setCell ⟨gb149, 3, none⟩ (.int .i64 t146)).setCell ⟨gb149, 4, none⟩ (.int .i64 t147))).cell? _ = some _ from hx150_4)); clear hn150_0; clear hn150_1; clear hn150_2; clear hn150_3; clear hn150_4; replace p150 := eq_true p150; replace q150 := eq_true q150)); try go_wp2_with (first | (go_at_call 23; (with_reducible refine (isa_Decode.calls (rd l0 x6_1) t143 t144 t145 t146 t147 t148 _ A11.out).mono ?_); rintro e w25 ⟨rfl, hb⟩; have n0_ := Aside0.mk (Kd.R_below (by (with_reducible repeat (first | apply Kd.R_alloc | apply Kd.R_drewN | apply Kd.R_drew)); exact HO_3.out) hb); have n1_ := Aside0.mk (below_step (by repeat (first | (with_reducible first | exact HB.out | apply below_alloc | apply pw_below_drewN | apply below_drew1) | exact HB.out)) hb); clear HO_3; clear HB; have HO_3 := n0_; have HB := n1_; clear n0_ n1_; (try clear hb); (try clear hb2); (try clear hk); (try clear hi)) | ((with_reducible refine gate_dst (N := 7) rfl ?_); (try (refine gate_guard (by rfl) ?_; dsimp only)); refine box_event ?hg (N := 7) ?hd (cs := #[.int .u8 0, .int .i64 0, .int .i64 0, .int .i64 0, .int .i64 0]) (t := 48) ?hr ?_; (case hd => rfl); (case hg => rfl); (case hr => first | (go_simp; done) | (go_simp; rfl)); intro gb149 hg w26 hbox hb; have n0_ := Aside0.mk (Kd.R_below (Kd.R_elderB (by (with_reducible repeat (first | apply Kd.R_alloc | apply Kd.R_drewN | apply Kd.R_drew)); exact HO_3.out) gb149 (Nat.le_of_eq hg.symm)) hb); have n1_ := Aside0.mk (below_step (by repeat (first | (with_reducible first | exact HB.out | apply below_alloc | apply pw_below_drewN | apply below_drew1) | exact HB.out)) hb); have n2_ := Aside0.mk (hbox); have n3_ := Aside0.mk ((by rw [hg]; exact (below_size (by repeat (first | (with_reducible first | exact HB.out | apply below_alloc | apply pw_below_drewN | apply below_drew1) | exact HB.out))) : w.heap.size ≤ gb149)); have n4_ := Aside0.mk ((by rw [hg]; exact (below_size (by repeat (first | (with_reducible first | exact HB.out | apply below_alloc | apply pw_below_drewN | apply below_drew1) | exact HB.out))) : w.heap.size ≤ gb149)); clear HO_3; clear HB; have HO_3 := n0_; have HB := n1_; have BK149 := n2_; have GW149 := n3_; have GE149 := n4_; clear n0_ n1_ n2_ n3_ n4_; clear hb hbox hg; have hcz27_0 : w26.cell? ⟨gb149, 0, none⟩ = some (.int .u8 0) := (blk_cell BK149.out 0).trans rfl; have hcz27_1 : w26.cell? ⟨gb149, 1, none⟩ = some (.int .i64 0) := (blk_cell BK149.out 1).trans rfl; have hcz27_2 : w26.cell? ⟨gb149, 2, none⟩ = some (.int .i64 0) := (blk_cell BK149.out 2).trans rfl; have hcz27_3 : w26.cell? ⟨gb149, 3, none⟩ = some (.int .i64 0) := (blk_cell BK149.out 3).trans rfl; have hcz27_4 : w26.cell? ⟨gb149, 4, none⟩ = some (.int .i64 0) := (blk_cell BK149.out 4).trans rfl; have hfz27_0 := blk_frozen BK149.out 0; have hfz27_1 := blk_frozen BK149.out 1; have hfz27_2 := blk_frozen BK149.out 2; have hfz27_3 := blk_frozen BK149.out 3; have hfz27_4 := blk_frozen BK149.out 4; obtain ⟨Ao28, co28, eo28⟩ := Kd.R_slice HO_3.out; subst eo28; have p150 : 0 ≤ (x6_1 : Int) := of_decide_eq_true (by first | (with_reducible assumption) | assumption); have q150 : x6_1 < (t137.length : Int) := of_decide_eq_true (by first | (with_reducible assumption) | assumption); obtain ⟨ad150, e150, hx150_0, hx150_1, hx150_2, hx150_3, hx150_4⟩ := at_T48 (Kd.R_reads' HO_3.out).2.2 x6_1 p150 q150; cases e150; have hn150_0 : ad150.block ≠ gb149 := Kd.own_blk (Kd.R_ne HO_3.out BK149.out (by decide)); have hn150_1 : ad150.block ≠ gb149 := Kd.own_blk (Kd.R_ne HO_3.out BK149.out (by decide)); have hn150_2 : ad150.block ≠ gb149 := Kd.own_blk (Kd.R_ne HO_3.out BK149.out (by decide)); have hn150_3 : ad150.block ≠ gb149 := Kd.own_blk (Kd.R_ne HO_3.out BK149.out (by decide)); have hn150_4 : ad150.block ≠ gb149 := Kd.own_blk (Kd.R_ne HO_3.out BK149.out (by decide)); replace hx150_0 := (cell_far (p := ⟨gb149, 0, none⟩) (by first | (rw [add_block]; exact hn150_0) | (show (Addr.add _ _).block ≠ _; rw [add_block]; exact hn150_0) | exact hn150_0) (.int .u8 t143)).trans hx150_0; replace hx150_1 := (cell_far (p := ⟨gb149, 0, none⟩) (by first | (rw [add_block]; exact hn150_0) | (show (Addr.add _ _).block ≠ _; rw [add_block]; exact hn150_0) | exact hn150_0) (.int .u8 t143)).trans hx150_1; replace hx150_2 := (cell_far (p := ⟨gb149, 0, none⟩) (by first | (rw [add_block]; exact hn150_0) | (show (Addr.add _ _).block ≠ _; rw [add_block]; exact hn150_0) | exact hn150_0) (.int .u8 t143)).trans hx150_2; replace hx150_3 := (cell_far (p := ⟨gb149, 0, none⟩) (by first | (rw [add_block]; exact hn150_0) | (show (Addr.add _ _).block ≠ _; rw [add_block]; exact hn150_0) | exact hn150_0) (.int .u8 t143)).trans hx150_3; replace hx150_4 := (cell_far (p := ⟨gb149, 0, none⟩) (by first | (rw [add_block]; exact hn150_0) | (show (Addr.add _ _).block ≠ _; rw [add_block]; exact hn150_0) | exact hn150_0) (.int .u8 t143)).trans hx150_4; replace hx150_0 := (cell_far (p := ⟨gb149, 1, none⟩) (by first | (rw [add_block]; exact hn150_1) | (show (Addr.add _ _).block ≠ _; rw [add_block]; exact hn150_1) | exact hn150_1) (.int .i64 t144)).trans hx150_0; replace hx150_1 := (cell_far (p := ⟨gb149, 1, none⟩) (by first | (rw [add_block]; exact hn150_1) | (show (Addr.add _ _).block ≠ _; rw [add_block]; exact hn150_1) | exact hn150_1) (.int .i64 t144)).trans hx150_1; replace hx150_2 := (cell_far (p := ⟨gb149, 1, none⟩) (by first | (rw [add_block]; exact hn150_1) | (show (Addr.add _ _).block ≠ _; rw [add_block]; exact hn150_1) | exact hn150_1) (.int .i64 t144)).trans hx150_2; replace hx150_3 := (cell_far (p := ⟨gb149, 1, none⟩) (by first | (rw [add_block]; exact hn150_1) | (show (Addr.add _ _).block ≠ _; rw [add_block]; exact hn150_1) | exact hn150_1) (.int .i64 t144)).trans hx150_3; replace hx150_4 := (cell_far (p := ⟨gb149, 1, none⟩) (by first | (rw [add_block]; exact hn150_1) | (show (Addr.add _ _).block ≠ _; rw [add_block]; exact hn150_1) | exact hn150_1) (.int .i64 t144)).trans hx150_4; replace hx150_0 := (cell_far (p := ⟨gb149, 2, none⟩) (by first | (rw [add_block]; exact hn150_2) | (show (Addr.add _ _).block ≠ _; rw [add_block]; exact hn150_2) | exact hn150_2) (.int .i64 t145)).trans hx150_0; replace hx150_1 := (cell_far (p := ⟨gb149, 2, none⟩) (by first | (rw [add_block]; exact hn150_2) | (show (Addr.add _ _).block ≠ _; rw [add_block]; exact hn150_2) | exact hn150_2) (.int .i64 t145)).trans hx150_1; replace hx150_2 := (cell_far (p := ⟨gb149, 2, none⟩) (by first | (rw [add_block]; exact hn150_2) | (show (Addr.add _ _).block ≠ _; rw [add_block]; exact hn150_2) | exact hn150_2) (.int .i64 t145)).trans hx150_2; replace hx150_3 := (cell_far (p := ⟨gb149, 2, none⟩) (by first | (rw [add_block]; exact hn150_2) | (show (Addr.add _ _).block ≠ _; rw [add_block]; exact hn150_2) | exact hn150_2) (.int .i64 t145)).trans hx150_3; replace hx150_4 := (cell_far (p := ⟨gb149, 2, none⟩) (by first | (rw [add_block]; exact hn150_2) | (show (Addr.add _ _).block ≠ _; rw [add_block]; exact hn150_2) | exact hn150_2) (.int .i64 t145)).trans hx150_4; replace hx150_0 := (cell_far (p := ⟨gb149, 3, none⟩) (by first | (rw [add_block]; exact hn150_3) | (show (Addr.add _ _).block ≠ _; rw [add_block]; exact hn150_3) | exact hn150_3) (.int .i64 t146)).trans hx150_0; replace hx150_1 := (cell_far (p := ⟨gb149, 3, none⟩) (by first | (rw [add_block]; exact hn150_3) | (show (Addr.add _ _).block ≠ _; rw [add_block]; exact hn150_3) | exact hn150_3) (.int .i64 t146)).trans hx150_1; replace hx150_2 := (cell_far (p := ⟨gb149, 3, none⟩) (by first | (rw [add_block]; exact hn150_3) | (show (Addr.add _ _).block ≠ _; rw [add_block]; exact hn150_3) | exact hn150_3) (.int .i64 t146)).trans hx150_2; replace hx150_3 := (cell_far (p := ⟨gb149, 3, none⟩) (by first | (rw [add_block]; exact hn150_3) | (show (Addr.add _ _).block ≠ _; rw [add_block]; exact hn150_3) | exact hn150_3) (.int .i64 t146)).trans hx150_3; replace hx150_4 := (cell_far (p := ⟨gb149, 3, none⟩) (by first | (rw [add_block]; exact hn150_3) | (show (Addr.add _ _).block ≠ _; rw [add_block]; exact hn150_3) | exact hn150_3) (.int .i64 t146)).trans hx150_4; replace hx150_0 := (cell_far (p := ⟨gb149, 4, none⟩) (by first | (rw [add_block]; exact hn150_4) | (show (Addr.add _ _).block ≠ _; rw [add_block]; exact hn150_4) | exact hn150_4) (.int .i64 t147)).trans hx150_0; replace hx150_1 := (cell_far (p := ⟨gb149, 4, none⟩) (by first | (rw [add_block]; exact hn150_4) | (show (Addr.add _ _).block ≠ _; rw [add_block]; exact hn150_4) | exact hn150_4) (.int .i64 t147)).trans hx150_1; replace hx150_2 := (cell_far (p := ⟨gb149, 4, none⟩) (by first | (rw [add_block]; exact hn150_4) | (show (Addr.add _ _).block ≠ _; rw [add_block]; exact hn150_4) | exact hn150_4) (.int .i64 t147)).trans hx150_2; replace hx150_3 := (cell_far (p := ⟨gb149, 4, none⟩) (by first | (rw [add_block]; exact hn150_4) | (show (Addr.add _ _).block ≠ _; rw [add_block]; exact hn150_4) | exact hn150_4) (.int .i64 t147)).trans hx150_3; replace hx150_4 := (cell_far (p := ⟨gb149, 4, none⟩) (by first | (rw [add_block]; exact hn150_4) | (show (Addr.add _ _).block ≠ _; rw [add_block]; exact hn150_4) | exact hn150_4) (.int .i64 t147)).trans hx150_4; (try have hy150_0 := fun (n_ : Nat) => (show (((((((w26.drewN n_).setCell ⟨gb149, 0, none⟩ (.int .u8 t143)).setCell ⟨gb149, 1, none⟩ (.int .i64 t144)).setCell ⟨gb149, 2, none⟩ (.int .i64 t145)).setCell ⟨gb149, 3, none⟩ (.int .i64 t146)).setCell ⟨gb149, 4, none⟩ (.int .i64 t147))).cell? _ = some _ from hx150_0)); (try have hy150_1 := fun (n_ : Nat) => (show (((((((w26.drewN n_).setCell ⟨gb149, 0, none⟩ (.int .u8 t143)).setCell ⟨gb149, 1, none⟩ (.int .i64 t144)).setCell ⟨gb149, 2, none⟩ (.int .i64 t145)).setCell ⟨gb149, 3, none⟩ (.int .i64 t146)).setCell ⟨gb149, 4, none⟩ (.int .i64 t147))).cell? _ = some _ from hx150_1)); (try have hy150_2 := fun (n_ : Nat) => (show (((((((w26.drewN n_).setCell ⟨gb149, 0, none⟩ (.int .u8 t143)).setCell ⟨gb149, 1, none⟩ (.int .i64 t144)).setCell ⟨gb149, 2, none⟩ (.int .i64 t145)).setCell ⟨gb149, 3, none⟩ (.int .i64 t146)).setCell ⟨gb149, 4, none⟩ (.int .i64 t147))).cell? _ = some _ from hx150_2)); (try have hy150_3 := fun (n_ : Nat) => (show (((((((w26.drewN n_).setCell ⟨gb149, 0, none⟩ (.int .u8 t143)).setCell ⟨gb149, 1, none⟩ (.int .i64 t144)).setCell ⟨gb149, 2, none⟩ (.int .i64 t145)).setCell ⟨gb149, 3, none⟩ (.int .i64 t146)).setCell ⟨gb149, 4, none⟩ (.int .i64 t147))).cell? _ = some _ from hx150_3)); (try have hy150_4 := fun (n_ : Nat) => (show (((((((w26.drewN n_).setCell ⟨gb149, 0, none⟩ (.int .u8 t143)).setCell ⟨gb149, 1, none⟩ (.int .i64 t144)).setCell ⟨gb149, 2, none⟩ (.int .i64 t145)).setCell ⟨gb149, 3, none⟩ (.int .i64 t146)).setCell ⟨gb149, 4, none⟩ (.int .i64 t147))).cell? _ = some _ from hx150_4)); clear hn150_0; clear hn150_1; clear hn150_2; clear hn150_3; clear hn150_4; replace p150 := eq_true p150; replace q150 := eq_true q150)))
                        go_roundg k1
                        case measure => have := HK1.out; omega
                        case rel => exact ⟨(wrap64 (x6_1 + 1)), (by first | rfl | (simp; done) | (simp [*]; done)), H', ⟨by have := HK1.out; omega⟩, ⟨by (with_reducible repeat (first | apply Kd.R_alloc | apply Kd.R_drewN | apply Kd.R_drew)); exact HO_3.out⟩, ⟨by repeat (first | (with_reducible first | exact HB.out | apply below_alloc | apply pw_below_drewN | apply below_drew1 | refine below_set ?_ GE149.out) | exact HB.out)⟩⟩
                    · rw [if_neg c19] at H
                      exact absurd H (by simp)
                · rw [if_neg c13] at H
                  have c13b0 : (t139 == 0) = false := beq_eq_false_iff_ne.mpr c13
                  have c13b1 : (t139 != 0) = true := bne_iff_ne.mpr c13
                  have H' := Aside0.mk H
                  clear H
                  have p142 : 0 ≤ (x6_1 : Int) := of_decide_eq_true (by first | (with_reducible assumption) | assumption)
                  have q142 : x6_1 < (l0.length : Int) := of_decide_eq_true (by first | (with_reducible assumption) | assumption)
                  obtain ⟨ad142, e142, hx142_0⟩ := Kd.at_int HR0.out x6_1 p142 q142
                  cases e142
                  replace hx142_0 := (HB.out.cell (World.block_lt_of_cell? w _ hx142_0)).trans hx142_0
                  replace p142 := eq_true p142
                  replace q142 := eq_true q142
                  go_wp2_with (first | (go_at_call 23; (with_reducible refine (isa_Decode.calls (rd l0 x6_1) t143 t144 t145 t146 t147 t148 _ A11.out).mono ?_); rintro e w29 ⟨rfl, hb⟩; have n0_ := Aside0.mk (Kd.R_below (by (with_reducible repeat (first | apply Kd.R_alloc | apply Kd.R_drewN | apply Kd.R_drew)); exact HO_3.out) hb); have n1_ := Aside0.mk (below_step (by repeat (first | (with_reducible first | exact HB.out | apply below_alloc | apply pw_below_drewN | apply below_drew1) | exact HB.out)) hb); clear HO_3; clear HB; have HO_3 := n0_; have HB := n1_; clear n0_ n1_; (try clear hb); (try clear hb2); (try clear hk); (try clear hi)) | ((with_reducible refine gate_dst (N := 7) rfl ?_); (try (refine gate_guard (by rfl) ?_; dsimp only)); refine box_event ?hg (N := 7) ?hd (cs := #[.int .u8 0, .int .i64 0, .int .i64 0, .int .i64 0, .int .i64 0]) (t := 48) ?hr ?_; (case hd => rfl); (case hg => rfl); (case hr => first | (go_simp; done) | (go_simp; rfl)); intro gb149 hg w30 hbox hb; have n0_ := Aside0.mk (Kd.R_below (Kd.R_elderB (by (with_reducible repeat (first | apply Kd.R_alloc | apply Kd.R_drewN | apply Kd.R_drew)); exact HO_3.out) gb149 (Nat.le_of_eq hg.symm)) hb); have n1_ := Aside0.mk (below_step (by repeat (first | (with_reducible first | exact HB.out | apply below_alloc | apply pw_below_drewN | apply below_drew1) | exact HB.out)) hb); have n2_ := Aside0.mk (hbox); have n3_ := Aside0.mk ((by rw [hg]; exact (below_size (by repeat (first | (with_reducible first | exact HB.out | apply below_alloc | apply pw_below_drewN | apply below_drew1) | exact HB.out))) : w.heap.size ≤ gb149)); have n4_ := Aside0.mk ((by rw [hg]; exact (below_size (by repeat (first | (with_reducible first | exact HB.out | apply below_alloc | apply pw_below_drewN | apply below_drew1) | exact HB.out))) : w.heap.size ≤ gb149)); clear HO_3; clear HB; have HO_3 := n0_; have HB := n1_; have BK149 := n2_; have GW149 := n3_; have GE149 := n4_; clear n0_ n1_ n2_ n3_ n4_; clear hb hbox hg; have hcz31_0 : w30.cell? ⟨gb149, 0, none⟩ = some (.int .u8 0) := (blk_cell BK149.out 0).trans rfl; have hcz31_1 : w30.cell? ⟨gb149, 1, none⟩ = some (.int .i64 0) := (blk_cell BK149.out 1).trans rfl; have hcz31_2 : w30.cell? ⟨gb149, 2, none⟩ = some (.int .i64 0) := (blk_cell BK149.out 2).trans rfl; have hcz31_3 : w30.cell? ⟨gb149, 3, none⟩ = some (.int .i64 0) := (blk_cell BK149.out 3).trans rfl; have hcz31_4 : w30.cell? ⟨gb149, 4, none⟩ = some (.int .i64 0) := (blk_cell BK149.out 4).trans rfl; have hfz31_0 := blk_frozen BK149.out 0; have hfz31_1 := blk_frozen BK149.out 1; have hfz31_2 := blk_frozen BK149.out 2; have hfz31_3 := blk_frozen BK149.out 3; have hfz31_4 := blk_frozen BK149.out 4))
                  repeat (go_quiet (first | (go_at_call 23; (with_reducible refine (isa_Decode.calls (rd l0 x6_1) t143 t144 t145 t146 t147 t148 _ A11.out).mono ?_); rintro e w29 ⟨rfl, hb⟩; have n0_ := Aside0.mk (Kd.R_below (by (with_reducible repeat (first | apply Kd.R_alloc | apply Kd.R_drewN | apply Kd.R_drew)); exact HO_3.out) hb); have n1_ := Aside0.mk (below_step (by repeat (first | (with_reducible first | exact HB.out | apply below_alloc | apply pw_below_drewN | apply below_drew1) | exact HB.out)) hb); clear HO_3; clear HB; have HO_3 := n0_; have HB := n1_; clear n0_ n1_; (try clear hb); (try clear hb2); (try clear hk); (try clear hi)) | ((with_reducible refine gate_dst (N := 7) rfl ?_); (try (refine gate_guard (by rfl) ?_; dsimp only)); refine box_event ?hg (N := 7) ?hd (cs := #[.int .u8 0, .int .i64 0, .int .i64 0, .int .i64 0, .int .i64 0]) (t := 48) ?hr ?_; (case hd => rfl); (case hg => rfl); (case hr => first | (go_simp; done) | (go_simp; rfl)); intro gb149 hg w30 hbox hb; have n0_ := Aside0.mk (Kd.R_below (Kd.R_elderB (by (with_reducible repeat (first | apply Kd.R_alloc | apply Kd.R_drewN | apply Kd.R_drew)); exact HO_3.out) gb149 (Nat.le_of_eq hg.symm)) hb); have n1_ := Aside0.mk (below_step (by repeat (first | (with_reducible first | exact HB.out | apply below_alloc | apply pw_below_drewN | apply below_drew1) | exact HB.out)) hb); have n2_ := Aside0.mk (hbox); have n3_ := Aside0.mk ((by rw [hg]; exact (below_size (by repeat (first | (with_reducible first | exact HB.out | apply below_alloc | apply pw_below_drewN | apply below_drew1) | exact HB.out))) : w.heap.size ≤ gb149)); have n4_ := Aside0.mk ((by rw [hg]; exact (below_size (by repeat (first | (with_reducible first | exact HB.out | apply below_alloc | apply pw_below_drewN | apply below_drew1) | exact HB.out))) : w.heap.size ≤ gb149)); clear HO_3; clear HB; have HO_3 := n0_; have HB := n1_; have BK149 := n2_; have GW149 := n3_; have GE149 := n4_; clear n0_ n1_ n2_ n3_ n4_; clear hb hbox hg; have hcz31_0 : w30.cell? ⟨gb149, 0, none⟩ = some (.int .u8 0) := (blk_cell BK149.out 0).trans rfl; have hcz31_1 : w30.cell? ⟨gb149, 1, none⟩ = some (.int .i64 0) := (blk_cell BK149.out 1).trans rfl; have hcz31_2 : w30.cell? ⟨gb149, 2, none⟩ = some (.int .i64 0) := (blk_cell BK149.out 2).trans rfl; have hcz31_3 : w30.cell? ⟨gb149, 3, none⟩ = some (.int .i64 0) := (blk_cell BK149.out 3).trans rfl; have hcz31_4 : w30.cell? ⟨gb149, 4, none⟩ = some (.int .i64 0) := (blk_cell BK149.out 4).trans rfl; have hfz31_0 := blk_frozen BK149.out 0; have hfz31_1 := blk_frozen BK149.out 1; have hfz31_2 := blk_frozen BK149.out 2; have hfz31_3 := blk_frozen BK149.out 3; have hfz31_4 := blk_frozen BK149.out 4)); try go_wp2_with (first | (go_at_call 23; (with_reducible refine (isa_Decode.calls (rd l0 x6_1) t143 t144 t145 t146 t147 t148 _ A11.out).mono ?_); rintro e w29 ⟨rfl, hb⟩; have n0_ := Aside0.mk (Kd.R_below (by (with_reducible repeat (first | apply Kd.R_alloc | apply Kd.R_drewN | apply Kd.R_drew)); exact HO_3.out) hb); have n1_ := Aside0.mk (below_step (by repeat (first | (with_reducible first | exact HB.out | apply below_alloc | apply pw_below_drewN | apply below_drew1) | exact HB.out)) hb); clear HO_3; clear HB; have HO_3 := n0_; have HB := n1_; clear n0_ n1_; (try clear hb); (try clear hb2); (try clear hk); (try clear hi)) | ((with_reducible refine gate_dst (N := 7) rfl ?_); (try (refine gate_guard (by rfl) ?_; dsimp only)); refine box_event ?hg (N := 7) ?hd (cs := #[.int .u8 0, .int .i64 0, .int .i64 0, .int .i64 0, .int .i64 0]) (t := 48) ?hr ?_; (case hd => rfl); (case hg => rfl); (case hr => first | (go_simp; done) | (go_simp; rfl)); intro gb149 hg w30 hbox hb; have n0_ := Aside0.mk (Kd.R_below (Kd.R_elderB (by (with_reducible repeat (first | apply Kd.R_alloc | apply Kd.R_drewN | apply Kd.R_drew)); exact HO_3.out) gb149 (Nat.le_of_eq hg.symm)) hb); have n1_ := Aside0.mk (below_step (by repeat (first | (with_reducible first | exact HB.out | apply below_alloc | apply pw_below_drewN | apply below_drew1) | exact HB.out)) hb); have n2_ := Aside0.mk (hbox); have n3_ := Aside0.mk ((by rw [hg]; exact (below_size (by repeat (first | (with_reducible first | exact HB.out | apply below_alloc | apply pw_below_drewN | apply below_drew1) | exact HB.out))) : w.heap.size ≤ gb149)); have n4_ := Aside0.mk ((by rw [hg]; exact (below_size (by repeat (first | (with_reducible first | exact HB.out | apply below_alloc | apply pw_below_drewN | apply below_drew1) | exact HB.out))) : w.heap.size ≤ gb149)); clear HO_3; clear HB; have HO_3 := n0_; have HB := n1_; have BK149 := n2_; have GW149 := n3_; have GE149 := n4_; clear n0_ n1_ n2_ n3_ n4_; clear hb hbox hg; have hcz31_0 : w30.cell? ⟨gb149, 0, none⟩ = some (.int .u8 0) := (blk_cell BK149.out 0).trans rfl; have hcz31_1 : w30.cell? ⟨gb149, 1, none⟩ = some (.int .i64 0) := (blk_cell BK149.out 1).trans rfl; have hcz31_2 : w30.cell? ⟨gb149, 2, none⟩ = some (.int .i64 0) := (blk_cell BK149.out 2).trans rfl; have hcz31_3 : w30.cell? ⟨gb149, 3, none⟩ = some (.int .i64 0) := (blk_cell BK149.out 3).trans rfl; have hcz31_4 : w30.cell? ⟨gb149, 4, none⟩ = some (.int .i64 0) := (blk_cell BK149.out 4).trans rfl; have hfz31_0 := blk_frozen BK149.out 0; have hfz31_1 := blk_frozen BK149.out 1; have hfz31_2 := blk_frozen BK149.out 2; have hfz31_3 := blk_frozen BK149.out 3; have hfz31_4 := blk_frozen BK149.out 4)))
                  go_roundg k1
                  case measure => have := HK1.out; omega
                  case rel => exact ⟨(wrap64 (x6_1 + 1)), (by first | rfl | (simp; done) | (simp [*]; done)), H', ⟨by have := HK1.out; omega⟩, ⟨by (with_reducible repeat (first | apply Kd.R_alloc | apply Kd.R_drewN | apply Kd.R_drew)); exact Kd.R_mono (Kd.R_far (p := ⟨gb149, 4, none⟩) (Kd.R_far (p := ⟨gb149, 3, none⟩) (Kd.R_far (p := ⟨gb149, 2, none⟩) (Kd.R_far (p := ⟨gb149, 1, none⟩) (Kd.R_far (p := ⟨gb149, 0, none⟩) (Kd.R_mono HO_3.out (fun k_ hk => (⟨hk, hk.2⟩ : _ ∧ k_ ≠ gb149))) (fun _ hk => hk.2) (.int .u8 t143)) (fun _ hk => hk.2) (.int .i64 t144)) (fun _ hk => hk.2) (.int .i64 t145)) (fun _ hk => hk.2) (.int .i64 t146)) (fun _ hk => hk.2) (.int .i64 t147)) (fun _ hk => trivial)⟩, ⟨by repeat (first | (with_reducible first | exact HB.out | apply below_alloc | apply pw_below_drewN | apply below_drew1 | refine below_set ?_ GE149.out) | exact HB.out)⟩⟩
              · rw [if_neg c12] at H
                have c12b0 : (t148 == 0) = false := beq_eq_false_iff_ne.mpr c12
                have c12b1 : (t148 != 0) = true := bne_iff_ne.mpr c12
                by_cases c32 : t139 = 3
                · rw [if_pos c32] at H
                  have c32b0 : (t139 == 3) = true := beq_iff_eq.mpr c32
                  have c32b1 : (t139 != 3) = false := bne_eq_false_iff_eq.mpr c32
                  clear c32
                  by_cases c33 : t138 = x6_1
                  · rw [if_pos c33] at H
                    have c33b0 : (t138 == x6_1) = true := beq_iff_eq.mpr c33
                    have c33b1 : (t138 != x6_1) = false := bne_eq_false_iff_eq.mpr c33
                    clear c33
                    obtain rfl := Option.some.inj H
                    have p142 : 0 ≤ (x6_1 : Int) := of_decide_eq_true (by first | (with_reducible assumption) | assumption)
                    have q142 : x6_1 < (l0.length : Int) := of_decide_eq_true (by first | (with_reducible assumption) | assumption)
                    obtain ⟨ad142, e142, hx142_0⟩ := Kd.at_int HR0.out x6_1 p142 q142
                    cases e142
                    replace hx142_0 := (HB.out.cell (World.block_lt_of_cell? w _ hx142_0)).trans hx142_0
                    replace p142 := eq_true p142
                    replace q142 := eq_true q142
                    go_wp2_with (first | (go_at_call 23; (with_reducible refine (isa_Decode.calls (rd l0 x6_1) t143 t144 t145 t146 t147 t148 _ A11.out).mono ?_); rintro e w34 ⟨rfl, hb⟩; have n0_ := Aside0.mk (Kd.R_below (by (with_reducible repeat (first | apply Kd.R_alloc | apply Kd.R_drewN | apply Kd.R_drew)); exact HO_3.out) hb); have n1_ := Aside0.mk (below_step (by repeat (first | (with_reducible first | exact HB.out | apply below_alloc | apply pw_below_drewN | apply below_drew1) | exact HB.out)) hb); clear HO_3; clear HB; have HO_3 := n0_; have HB := n1_; clear n0_ n1_; (try clear hb); (try clear hb2); (try clear hk); (try clear hi)) | ((with_reducible refine gate_dst (N := 7) rfl ?_); (try (refine gate_guard (by rfl) ?_; dsimp only)); refine box_event ?hg (N := 7) ?hd (cs := #[.int .u8 0, .int .i64 0, .int .i64 0, .int .i64 0, .int .i64 0]) (t := 48) ?hr ?_; (case hd => rfl); (case hg => rfl); (case hr => first | (go_simp; done) | (go_simp; rfl)); intro gb149 hg w35 hbox hb; have n0_ := Aside0.mk (Kd.R_below (Kd.R_elderB (by (with_reducible repeat (first | apply Kd.R_alloc | apply Kd.R_drewN | apply Kd.R_drew)); exact HO_3.out) gb149 (Nat.le_of_eq hg.symm)) hb); have n1_ := Aside0.mk (below_step (by repeat (first | (with_reducible first | exact HB.out | apply below_alloc | apply pw_below_drewN | apply below_drew1) | exact HB.out)) hb); have n2_ := Aside0.mk (hbox); have n3_ := Aside0.mk ((by rw [hg]; exact (below_size (by repeat (first | (with_reducible first | exact HB.out | apply below_alloc | apply pw_below_drewN | apply below_drew1) | exact HB.out))) : w.heap.size ≤ gb149)); have n4_ := Aside0.mk ((by rw [hg]; exact (below_size (by repeat (first | (with_reducible first | exact HB.out | apply below_alloc | apply pw_below_drewN | apply below_drew1) | exact HB.out))) : w.heap.size ≤ gb149)); clear HO_3; clear HB; have HO_3 := n0_; have HB := n1_; have BK149 := n2_; have GW149 := n3_; have GE149 := n4_; clear n0_ n1_ n2_ n3_ n4_; clear hb hbox hg; have hcz36_0 : w35.cell? ⟨gb149, 0, none⟩ = some (.int .u8 0) := (blk_cell BK149.out 0).trans rfl; have hcz36_1 : w35.cell? ⟨gb149, 1, none⟩ = some (.int .i64 0) := (blk_cell BK149.out 1).trans rfl; have hcz36_2 : w35.cell? ⟨gb149, 2, none⟩ = some (.int .i64 0) := (blk_cell BK149.out 2).trans rfl; have hcz36_3 : w35.cell? ⟨gb149, 3, none⟩ = some (.int .i64 0) := (blk_cell BK149.out 3).trans rfl; have hcz36_4 : w35.cell? ⟨gb149, 4, none⟩ = some (.int .i64 0) := (blk_cell BK149.out 4).trans rfl; have hfz36_0 := blk_frozen BK149.out 0; have hfz36_1 := blk_frozen BK149.out 1; have hfz36_2 := blk_frozen BK149.out 2; have hfz36_3 := blk_frozen BK149.out 3; have hfz36_4 := blk_frozen BK149.out 4; obtain ⟨Ao37, co37, eo37⟩ := Kd.R_slice HO_3.out; subst eo37))
                    repeat (go_quiet (first | (go_at_call 23; (with_reducible refine (isa_Decode.calls (rd l0 x6_1) t143 t144 t145 t146 t147 t148 _ A11.out).mono ?_); rintro e w34 ⟨rfl, hb⟩; have n0_ := Aside0.mk (Kd.R_below (by (with_reducible repeat (first | apply Kd.R_alloc | apply Kd.R_drewN | apply Kd.R_drew)); exact HO_3.out) hb); have n1_ := Aside0.mk (below_step (by repeat (first | (with_reducible first | exact HB.out | apply below_alloc | apply pw_below_drewN | apply below_drew1) | exact HB.out)) hb); clear HO_3; clear HB; have HO_3 := n0_; have HB := n1_; clear n0_ n1_; (try clear hb); (try clear hb2); (try clear hk); (try clear hi)) | ((with_reducible refine gate_dst (N := 7) rfl ?_); (try (refine gate_guard (by rfl) ?_; dsimp only)); refine box_event ?hg (N := 7) ?hd (cs := #[.int .u8 0, .int .i64 0, .int .i64 0, .int .i64 0, .int .i64 0]) (t := 48) ?hr ?_; (case hd => rfl); (case hg => rfl); (case hr => first | (go_simp; done) | (go_simp; rfl)); intro gb149 hg w35 hbox hb; have n0_ := Aside0.mk (Kd.R_below (Kd.R_elderB (by (with_reducible repeat (first | apply Kd.R_alloc | apply Kd.R_drewN | apply Kd.R_drew)); exact HO_3.out) gb149 (Nat.le_of_eq hg.symm)) hb); have n1_ := Aside0.mk (below_step (by repeat (first | (with_reducible first | exact HB.out | apply below_alloc | apply pw_below_drewN | apply below_drew1) | exact HB.out)) hb); have n2_ := Aside0.mk (hbox); have n3_ := Aside0.mk ((by rw [hg]; exact (below_size (by repeat (first | (with_reducible first | exact HB.out | apply below_alloc | apply pw_below_drewN | apply below_drew1) | exact HB.out))) : w.heap.size ≤ gb149)); have n4_ := Aside0.mk ((by rw [hg]; exact (below_size (by repeat (first | (with_reducible first | exact HB.out | apply below_alloc | apply pw_below_drewN | apply below_drew1) | exact HB.out))) : w.heap.size ≤ gb149)); clear HO_3; clear HB; have HO_3 := n0_; have HB := n1_; have BK149 := n2_; have GW149 := n3_; have GE149 := n4_; clear n0_ n1_ n2_ n3_ n4_; clear hb hbox hg; have hcz36_0 : w35.cell? ⟨gb149, 0, none⟩ = some (.int .u8 0) := (blk_cell BK149.out 0).trans rfl; have hcz36_1 : w35.cell? ⟨gb149, 1, none⟩ = some (.int .i64 0) := (blk_cell BK149.out 1).trans rfl; have hcz36_2 : w35.cell? ⟨gb149, 2, none⟩ = some (.int .i64 0) := (blk_cell BK149.out 2).trans rfl; have hcz36_3 : w35.cell? ⟨gb149, 3, none⟩ = some (.int .i64 0) := (blk_cell BK149.out 3).trans rfl; have hcz36_4 : w35.cell? ⟨gb149, 4, none⟩ = some (.int .i64 0) := (blk_cell BK149.out 4).trans rfl; have hfz36_0 := blk_frozen BK149.out 0; have hfz36_1 := blk_frozen BK149.out 1; have hfz36_2 := blk_frozen BK149.out 2; have hfz36_3 := blk_frozen BK149.out 3; have hfz36_4 := blk_frozen BK149.out 4; obtain ⟨Ao37, co37, eo37⟩ := Kd.R_slice HO_3.out; subst eo37)); try go_wp2_with (first | (go_at_call 23; (with_reducible refine (isa_Decode.calls (rd l0 x6_1) t143 t144 t145 t146 t147 t148 _ A11.out).mono ?_); rintro e w34 ⟨rfl, hb⟩; have n0_ := Aside0.mk (Kd.R_below (by (with_reducible repeat (first | apply Kd.R_alloc | apply Kd.R_drewN | apply Kd.R_drew)); exact HO_3.out) hb); have n1_ := Aside0.mk (below_step (by repeat (first | (with_reducible first | exact HB.out | apply below_alloc | apply pw_below_drewN | apply below_drew1) | exact HB.out)) hb); clear HO_3; clear HB; have HO_3 := n0_; have HB := n1_; clear n0_ n1_; (try clear hb); (try clear hb2); (try clear hk); (try clear hi)) | ((with_reducible refine gate_dst (N := 7) rfl ?_); (try (refine gate_guard (by rfl) ?_; dsimp only)); refine box_event ?hg (N := 7) ?hd (cs := #[.int .u8 0, .int .i64 0, .int .i64 0, .int .i64 0, .int .i64 0]) (t := 48) ?hr ?_; (case hd => rfl); (case hg => rfl); (case hr => first | (go_simp; done) | (go_simp; rfl)); intro gb149 hg w35 hbox hb; have n0_ := Aside0.mk (Kd.R_below (Kd.R_elderB (by (with_reducible repeat (first | apply Kd.R_alloc | apply Kd.R_drewN | apply Kd.R_drew)); exact HO_3.out) gb149 (Nat.le_of_eq hg.symm)) hb); have n1_ := Aside0.mk (below_step (by repeat (first | (with_reducible first | exact HB.out | apply below_alloc | apply pw_below_drewN | apply below_drew1) | exact HB.out)) hb); have n2_ := Aside0.mk (hbox); have n3_ := Aside0.mk ((by rw [hg]; exact (below_size (by repeat (first | (with_reducible first | exact HB.out | apply below_alloc | apply pw_below_drewN | apply below_drew1) | exact HB.out))) : w.heap.size ≤ gb149)); have n4_ := Aside0.mk ((by rw [hg]; exact (below_size (by repeat (first | (with_reducible first | exact HB.out | apply below_alloc | apply pw_below_drewN | apply below_drew1) | exact HB.out))) : w.heap.size ≤ gb149)); clear HO_3; clear HB; have HO_3 := n0_; have HB := n1_; have BK149 := n2_; have GW149 := n3_; have GE149 := n4_; clear n0_ n1_ n2_ n3_ n4_; clear hb hbox hg; have hcz36_0 : w35.cell? ⟨gb149, 0, none⟩ = some (.int .u8 0) := (blk_cell BK149.out 0).trans rfl; have hcz36_1 : w35.cell? ⟨gb149, 1, none⟩ = some (.int .i64 0) := (blk_cell BK149.out 1).trans rfl; have hcz36_2 : w35.cell? ⟨gb149, 2, none⟩ = some (.int .i64 0) := (blk_cell BK149.out 2).trans rfl; have hcz36_3 : w35.cell? ⟨gb149, 3, none⟩ = some (.int .i64 0) := (blk_cell BK149.out 3).trans rfl; have hcz36_4 : w35.cell? ⟨gb149, 4, none⟩ = some (.int .i64 0) := (blk_cell BK149.out 4).trans rfl; have hfz36_0 := blk_frozen BK149.out 0; have hfz36_1 := blk_frozen BK149.out 1; have hfz36_2 := blk_frozen BK149.out 2; have hfz36_3 := blk_frozen BK149.out 3; have hfz36_4 := blk_frozen BK149.out 4; obtain ⟨Ao37, co37, eo37⟩ := Kd.R_slice HO_3.out; subst eo37)))
                    go_ret
                    exact ⟨by first | rfl | (simp [errW_none, errW_some] <;> rfl) | (simp [*, errW_none, errW_some] <;> rfl), by repeat (first | (with_reducible first | exact HB.out | apply below_alloc | apply pw_below_drewN | apply below_drew1 | refine below_set ?_ GE149.out) | exact HB.out)⟩
                  · rw [if_neg c33] at H
                    have c33b0 : (t138 == x6_1) = false := beq_eq_false_iff_ne.mpr c33
                    have c33b1 : (t138 != x6_1) = true := bne_iff_ne.mpr c33
                    obtain rfl := Option.some.inj H
                    have p142 : 0 ≤ (x6_1 : Int) := of_decide_eq_true (by first | (with_reducible assumption) | assumption)
                    have q142 : x6_1 < (l0.length : Int) := of_decide_eq_true (by first | (with_reducible assumption) | assumption)
                    obtain ⟨ad142, e142, hx142_0⟩ := Kd.at_int HR0.out x6_1 p142 q142
                    cases e142
                    replace hx142_0 := (HB.out.cell (World.block_lt_of_cell? w _ hx142_0)).trans hx142_0
                    replace p142 := eq_true p142
                    replace q142 := eq_true q142
                    go_wp2_with (first | (go_at_call 23; (with_reducible refine (isa_Decode.calls (rd l0 x6_1) t143 t144 t145 t146 t147 t148 _ A11.out).mono ?_); rintro e w38 ⟨rfl, hb⟩; have n0_ := Aside0.mk (Kd.R_below (by (with_reducible repeat (first | apply Kd.R_alloc | apply Kd.R_drewN | apply Kd.R_drew)); exact HO_3.out) hb); have n1_ := Aside0.mk (below_step (by repeat (first | (with_reducible first | exact HB.out | apply below_alloc | apply pw_below_drewN | apply below_drew1) | exact HB.out)) hb); clear HO_3; clear HB; have HO_3 := n0_; have HB := n1_; clear n0_ n1_; (try clear hb); (try clear hb2); (try clear hk); (try clear hi)) | ((with_reducible refine gate_dst (N := 7) rfl ?_); (try (refine gate_guard (by rfl) ?_; dsimp only)); refine box_event ?hg (N := 7) ?hd (cs := #[.int .u8 0, .int .i64 0, .int .i64 0, .int .i64 0, .int .i64 0]) (t := 48) ?hr ?_; (case hd => rfl); (case hg => rfl); (case hr => first | (go_simp; done) | (go_simp; rfl)); intro gb149 hg w39 hbox hb; have n0_ := Aside0.mk (Kd.R_below (Kd.R_elderB (by (with_reducible repeat (first | apply Kd.R_alloc | apply Kd.R_drewN | apply Kd.R_drew)); exact HO_3.out) gb149 (Nat.le_of_eq hg.symm)) hb); have n1_ := Aside0.mk (below_step (by repeat (first | (with_reducible first | exact HB.out | apply below_alloc | apply pw_below_drewN | apply below_drew1) | exact HB.out)) hb); have n2_ := Aside0.mk (hbox); have n3_ := Aside0.mk ((by rw [hg]; exact (below_size (by repeat (first | (with_reducible first | exact HB.out | apply below_alloc | apply pw_below_drewN | apply below_drew1) | exact HB.out))) : w.heap.size ≤ gb149)); have n4_ := Aside0.mk ((by rw [hg]; exact (below_size (by repeat (first | (with_reducible first | exact HB.out | apply below_alloc | apply pw_below_drewN | apply below_drew1) | exact HB.out))) : w.heap.size ≤ gb149)); clear HO_3; clear HB; have HO_3 := n0_; have HB := n1_; have BK149 := n2_; have GW149 := n3_; have GE149 := n4_; clear n0_ n1_ n2_ n3_ n4_; clear hb hbox hg; have hcz40_0 : w39.cell? ⟨gb149, 0, none⟩ = some (.int .u8 0) := (blk_cell BK149.out 0).trans rfl; have hcz40_1 : w39.cell? ⟨gb149, 1, none⟩ = some (.int .i64 0) := (blk_cell BK149.out 1).trans rfl; have hcz40_2 : w39.cell? ⟨gb149, 2, none⟩ = some (.int .i64 0) := (blk_cell BK149.out 2).trans rfl; have hcz40_3 : w39.cell? ⟨gb149, 3, none⟩ = some (.int .i64 0) := (blk_cell BK149.out 3).trans rfl; have hcz40_4 : w39.cell? ⟨gb149, 4, none⟩ = some (.int .i64 0) := (blk_cell BK149.out 4).trans rfl; have hfz40_0 := blk_frozen BK149.out 0; have hfz40_1 := blk_frozen BK149.out 1; have hfz40_2 := blk_frozen BK149.out 2; have hfz40_3 := blk_frozen BK149.out 3; have hfz40_4 := blk_frozen BK149.out 4))
                    repeat (go_quiet (first | (go_at_call 23; (with_reducible refine (isa_Decode.calls (rd l0 x6_1) t143 t144 t145 t146 t147 t148 _ A11.out).mono ?_); rintro e w38 ⟨rfl, hb⟩; have n0_ := Aside0.mk (Kd.R_below (by (with_reducible repeat (first | apply Kd.R_alloc | apply Kd.R_drewN | apply Kd.R_drew)); exact HO_3.out) hb); have n1_ := Aside0.mk (below_step (by repeat (first | (with_reducible first | exact HB.out | apply below_alloc | apply pw_below_drewN | apply below_drew1) | exact HB.out)) hb); clear HO_3; clear HB; have HO_3 := n0_; have HB := n1_; clear n0_ n1_; (try clear hb); (try clear hb2); (try clear hk); (try clear hi)) | ((with_reducible refine gate_dst (N := 7) rfl ?_); (try (refine gate_guard (by rfl) ?_; dsimp only)); refine box_event ?hg (N := 7) ?hd (cs := #[.int .u8 0, .int .i64 0, .int .i64 0, .int .i64 0, .int .i64 0]) (t := 48) ?hr ?_; (case hd => rfl); (case hg => rfl); (case hr => first | (go_simp; done) | (go_simp; rfl)); intro gb149 hg w39 hbox hb; have n0_ := Aside0.mk (Kd.R_below (Kd.R_elderB (by (with_reducible repeat (first | apply Kd.R_alloc | apply Kd.R_drewN | apply Kd.R_drew)); exact HO_3.out) gb149 (Nat.le_of_eq hg.symm)) hb); have n1_ := Aside0.mk (below_step (by repeat (first | (with_reducible first | exact HB.out | apply below_alloc | apply pw_below_drewN | apply below_drew1) | exact HB.out)) hb); have n2_ := Aside0.mk (hbox); have n3_ := Aside0.mk ((by rw [hg]; exact (below_size (by repeat (first | (with_reducible first | exact HB.out | apply below_alloc | apply pw_below_drewN | apply below_drew1) | exact HB.out))) : w.heap.size ≤ gb149)); have n4_ := Aside0.mk ((by rw [hg]; exact (below_size (by repeat (first | (with_reducible first | exact HB.out | apply below_alloc | apply pw_below_drewN | apply below_drew1) | exact HB.out))) : w.heap.size ≤ gb149)); clear HO_3; clear HB; have HO_3 := n0_; have HB := n1_; have BK149 := n2_; have GW149 := n3_; have GE149 := n4_; clear n0_ n1_ n2_ n3_ n4_; clear hb hbox hg; have hcz40_0 : w39.cell? ⟨gb149, 0, none⟩ = some (.int .u8 0) := (blk_cell BK149.out 0).trans rfl; have hcz40_1 : w39.cell? ⟨gb149, 1, none⟩ = some (.int .i64 0) := (blk_cell BK149.out 1).trans rfl; have hcz40_2 : w39.cell? ⟨gb149, 2, none⟩ = some (.int .i64 0) := (blk_cell BK149.out 2).trans rfl; have hcz40_3 : w39.cell? ⟨gb149, 3, none⟩ = some (.int .i64 0) := (blk_cell BK149.out 3).trans rfl; have hcz40_4 : w39.cell? ⟨gb149, 4, none⟩ = some (.int .i64 0) := (blk_cell BK149.out 4).trans rfl; have hfz40_0 := blk_frozen BK149.out 0; have hfz40_1 := blk_frozen BK149.out 1; have hfz40_2 := blk_frozen BK149.out 2; have hfz40_3 := blk_frozen BK149.out 3; have hfz40_4 := blk_frozen BK149.out 4)); try go_wp2_with (first | (go_at_call 23; (with_reducible refine (isa_Decode.calls (rd l0 x6_1) t143 t144 t145 t146 t147 t148 _ A11.out).mono ?_); rintro e w38 ⟨rfl, hb⟩; have n0_ := Aside0.mk (Kd.R_below (by (with_reducible repeat (first | apply Kd.R_alloc | apply Kd.R_drewN | apply Kd.R_drew)); exact HO_3.out) hb); have n1_ := Aside0.mk (below_step (by repeat (first | (with_reducible first | exact HB.out | apply below_alloc | apply pw_below_drewN | apply below_drew1) | exact HB.out)) hb); clear HO_3; clear HB; have HO_3 := n0_; have HB := n1_; clear n0_ n1_; (try clear hb); (try clear hb2); (try clear hk); (try clear hi)) | ((with_reducible refine gate_dst (N := 7) rfl ?_); (try (refine gate_guard (by rfl) ?_; dsimp only)); refine box_event ?hg (N := 7) ?hd (cs := #[.int .u8 0, .int .i64 0, .int .i64 0, .int .i64 0, .int .i64 0]) (t := 48) ?hr ?_; (case hd => rfl); (case hg => rfl); (case hr => first | (go_simp; done) | (go_simp; rfl)); intro gb149 hg w39 hbox hb; have n0_ := Aside0.mk (Kd.R_below (Kd.R_elderB (by (with_reducible repeat (first | apply Kd.R_alloc | apply Kd.R_drewN | apply Kd.R_drew)); exact HO_3.out) gb149 (Nat.le_of_eq hg.symm)) hb); have n1_ := Aside0.mk (below_step (by repeat (first | (with_reducible first | exact HB.out | apply below_alloc | apply pw_below_drewN | apply below_drew1) | exact HB.out)) hb); have n2_ := Aside0.mk (hbox); have n3_ := Aside0.mk ((by rw [hg]; exact (below_size (by repeat (first | (with_reducible first | exact HB.out | apply below_alloc | apply pw_below_drewN | apply below_drew1) | exact HB.out))) : w.heap.size ≤ gb149)); have n4_ := Aside0.mk ((by rw [hg]; exact (below_size (by repeat (first | (with_reducible first | exact HB.out | apply below_alloc | apply pw_below_drewN | apply below_drew1) | exact HB.out))) : w.heap.size ≤ gb149)); clear HO_3; clear HB; have HO_3 := n0_; have HB := n1_; have BK149 := n2_; have GW149 := n3_; have GE149 := n4_; clear n0_ n1_ n2_ n3_ n4_; clear hb hbox hg; have hcz40_0 : w39.cell? ⟨gb149, 0, none⟩ = some (.int .u8 0) := (blk_cell BK149.out 0).trans rfl; have hcz40_1 : w39.cell? ⟨gb149, 1, none⟩ = some (.int .i64 0) := (blk_cell BK149.out 1).trans rfl; have hcz40_2 : w39.cell? ⟨gb149, 2, none⟩ = some (.int .i64 0) := (blk_cell BK149.out 2).trans rfl; have hcz40_3 : w39.cell? ⟨gb149, 3, none⟩ = some (.int .i64 0) := (blk_cell BK149.out 3).trans rfl; have hcz40_4 : w39.cell? ⟨gb149, 4, none⟩ = some (.int .i64 0) := (blk_cell BK149.out 4).trans rfl; have hfz40_0 := blk_frozen BK149.out 0; have hfz40_1 := blk_frozen BK149.out 1; have hfz40_2 := blk_frozen BK149.out 2; have hfz40_3 := blk_frozen BK149.out 3; have hfz40_4 := blk_frozen BK149.out 4)))
                    go_ret
                    exact ⟨by first | rfl | (simp [errW_none, errW_some] <;> rfl) | (simp [*, errW_none, errW_some] <;> rfl), by repeat (first | (with_reducible first | exact HB.out | apply below_alloc | apply pw_below_drewN | apply below_drew1 | refine below_set ?_ GE149.out) | exact HB.out)⟩
                · rw [if_neg c32] at H
                  have c32b0 : (t139 == 3) = false := beq_eq_false_iff_ne.mpr c32
                  have c32b1 : (t139 != 3) = true := bne_iff_ne.mpr c32
                  obtain rfl := Option.some.inj H
                  have p142 : 0 ≤ (x6_1 : Int) := of_decide_eq_true (by first | (with_reducible assumption) | assumption)
                  have q142 : x6_1 < (l0.length : Int) := of_decide_eq_true (by first | (with_reducible assumption) | assumption)
                  obtain ⟨ad142, e142, hx142_0⟩ := Kd.at_int HR0.out x6_1 p142 q142
                  cases e142
                  replace hx142_0 := (HB.out.cell (World.block_lt_of_cell? w _ hx142_0)).trans hx142_0
                  replace p142 := eq_true p142
                  replace q142 := eq_true q142
                  go_wp2_with (first | (go_at_call 23; (with_reducible refine (isa_Decode.calls (rd l0 x6_1) t143 t144 t145 t146 t147 t148 _ A11.out).mono ?_); rintro e w41 ⟨rfl, hb⟩; have n0_ := Aside0.mk (Kd.R_below (by (with_reducible repeat (first | apply Kd.R_alloc | apply Kd.R_drewN | apply Kd.R_drew)); exact HO_3.out) hb); have n1_ := Aside0.mk (below_step (by repeat (first | (with_reducible first | exact HB.out | apply below_alloc | apply pw_below_drewN | apply below_drew1) | exact HB.out)) hb); clear HO_3; clear HB; have HO_3 := n0_; have HB := n1_; clear n0_ n1_; (try clear hb); (try clear hb2); (try clear hk); (try clear hi)) | ((with_reducible refine gate_dst (N := 7) rfl ?_); (try (refine gate_guard (by rfl) ?_; dsimp only)); refine box_event ?hg (N := 7) ?hd (cs := #[.int .u8 0, .int .i64 0, .int .i64 0, .int .i64 0, .int .i64 0]) (t := 48) ?hr ?_; (case hd => rfl); (case hg => rfl); (case hr => first | (go_simp; done) | (go_simp; rfl)); intro gb149 hg w42 hbox hb; have n0_ := Aside0.mk (Kd.R_below (Kd.R_elderB (by (with_reducible repeat (first | apply Kd.R_alloc | apply Kd.R_drewN | apply Kd.R_drew)); exact HO_3.out) gb149 (Nat.le_of_eq hg.symm)) hb); have n1_ := Aside0.mk (below_step (by repeat (first | (with_reducible first | exact HB.out | apply below_alloc | apply pw_below_drewN | apply below_drew1) | exact HB.out)) hb); have n2_ := Aside0.mk (hbox); have n3_ := Aside0.mk ((by rw [hg]; exact (below_size (by repeat (first | (with_reducible first | exact HB.out | apply below_alloc | apply pw_below_drewN | apply below_drew1) | exact HB.out))) : w.heap.size ≤ gb149)); have n4_ := Aside0.mk ((by rw [hg]; exact (below_size (by repeat (first | (with_reducible first | exact HB.out | apply below_alloc | apply pw_below_drewN | apply below_drew1) | exact HB.out))) : w.heap.size ≤ gb149)); clear HO_3; clear HB; have HO_3 := n0_; have HB := n1_; have BK149 := n2_; have GW149 := n3_; have GE149 := n4_; clear n0_ n1_ n2_ n3_ n4_; clear hb hbox hg; have hcz43_0 : w42.cell? ⟨gb149, 0, none⟩ = some (.int .u8 0) := (blk_cell BK149.out 0).trans rfl; have hcz43_1 : w42.cell? ⟨gb149, 1, none⟩ = some (.int .i64 0) := (blk_cell BK149.out 1).trans rfl; have hcz43_2 : w42.cell? ⟨gb149, 2, none⟩ = some (.int .i64 0) := (blk_cell BK149.out 2).trans rfl; have hcz43_3 : w42.cell? ⟨gb149, 3, none⟩ = some (.int .i64 0) := (blk_cell BK149.out 3).trans rfl; have hcz43_4 : w42.cell? ⟨gb149, 4, none⟩ = some (.int .i64 0) := (blk_cell BK149.out 4).trans rfl; have hfz43_0 := blk_frozen BK149.out 0; have hfz43_1 := blk_frozen BK149.out 1; have hfz43_2 := blk_frozen BK149.out 2; have hfz43_3 := blk_frozen BK149.out 3; have hfz43_4 := blk_frozen BK149.out 4))
                  repeat (go_quiet (first | (go_at_call 23; (with_reducible refine (isa_Decode.calls (rd l0 x6_1) t143 t144 t145 t146 t147 t148 _ A11.out).mono ?_); rintro e w41 ⟨rfl, hb⟩; have n0_ := Aside0.mk (Kd.R_below (by (with_reducible repeat (first | apply Kd.R_alloc | apply Kd.R_drewN | apply Kd.R_drew)); exact HO_3.out) hb); have n1_ := Aside0.mk (below_step (by repeat (first | (with_reducible first | exact HB.out | apply below_alloc | apply pw_below_drewN | apply below_drew1) | exact HB.out)) hb); clear HO_3; clear HB; have HO_3 := n0_; have HB := n1_; clear n0_ n1_; (try clear hb); (try clear hb2); (try clear hk); (try clear hi)) | ((with_reducible refine gate_dst (N := 7) rfl ?_); (try (refine gate_guard (by rfl) ?_; dsimp only)); refine box_event ?hg (N := 7) ?hd (cs := #[.int .u8 0, .int .i64 0, .int .i64 0, .int .i64 0, .int .i64 0]) (t := 48) ?hr ?_; (case hd => rfl); (case hg => rfl); (case hr => first | (go_simp; done) | (go_simp; rfl)); intro gb149 hg w42 hbox hb; have n0_ := Aside0.mk (Kd.R_below (Kd.R_elderB (by (with_reducible repeat (first | apply Kd.R_alloc | apply Kd.R_drewN | apply Kd.R_drew)); exact HO_3.out) gb149 (Nat.le_of_eq hg.symm)) hb); have n1_ := Aside0.mk (below_step (by repeat (first | (with_reducible first | exact HB.out | apply below_alloc | apply pw_below_drewN | apply below_drew1) | exact HB.out)) hb); have n2_ := Aside0.mk (hbox); have n3_ := Aside0.mk ((by rw [hg]; exact (below_size (by repeat (first | (with_reducible first | exact HB.out | apply below_alloc | apply pw_below_drewN | apply below_drew1) | exact HB.out))) : w.heap.size ≤ gb149)); have n4_ := Aside0.mk ((by rw [hg]; exact (below_size (by repeat (first | (with_reducible first | exact HB.out | apply below_alloc | apply pw_below_drewN | apply below_drew1) | exact HB.out))) : w.heap.size ≤ gb149)); clear HO_3; clear HB; have HO_3 := n0_; have HB := n1_; have BK149 := n2_; have GW149 := n3_; have GE149 := n4_; clear n0_ n1_ n2_ n3_ n4_; clear hb hbox hg; have hcz43_0 : w42.cell? ⟨gb149, 0, none⟩ = some (.int .u8 0) := (blk_cell BK149.out 0).trans rfl; have hcz43_1 : w42.cell? ⟨gb149, 1, none⟩ = some (.int .i64 0) := (blk_cell BK149.out 1).trans rfl; have hcz43_2 : w42.cell? ⟨gb149, 2, none⟩ = some (.int .i64 0) := (blk_cell BK149.out 2).trans rfl; have hcz43_3 : w42.cell? ⟨gb149, 3, none⟩ = some (.int .i64 0) := (blk_cell BK149.out 3).trans rfl; have hcz43_4 : w42.cell? ⟨gb149, 4, none⟩ = some (.int .i64 0) := (blk_cell BK149.out 4).trans rfl; have hfz43_0 := blk_frozen BK149.out 0; have hfz43_1 := blk_frozen BK149.out 1; have hfz43_2 := blk_frozen BK149.out 2; have hfz43_3 := blk_frozen BK149.out 3; have hfz43_4 := blk_frozen BK149.out 4)); try go_wp2_with (first | (go_at_call 23; (with_reducible refine (isa_Decode.calls (rd l0 x6_1) t143 t144 t145 t146 t147 t148 _ A11.out).mono ?_); rintro e w41 ⟨rfl, hb⟩; have n0_ := Aside0.mk (Kd.R_below (by (with_reducible repeat (first | apply Kd.R_alloc | apply Kd.R_drewN | apply Kd.R_drew)); exact HO_3.out) hb); have n1_ := Aside0.mk (below_step (by repeat (first | (with_reducible first | exact HB.out | apply below_alloc | apply pw_below_drewN | apply below_drew1) | exact HB.out)) hb); clear HO_3; clear HB; have HO_3 := n0_; have HB := n1_; clear n0_ n1_; (try clear hb); (try clear hb2); (try clear hk); (try clear hi)) | ((with_reducible refine gate_dst (N := 7) rfl ?_); (try (refine gate_guard (by rfl) ?_; dsimp only)); refine box_event ?hg (N := 7) ?hd (cs := #[.int .u8 0, .int .i64 0, .int .i64 0, .int .i64 0, .int .i64 0]) (t := 48) ?hr ?_; (case hd => rfl); (case hg => rfl); (case hr => first | (go_simp; done) | (go_simp; rfl)); intro gb149 hg w42 hbox hb; have n0_ := Aside0.mk (Kd.R_below (Kd.R_elderB (by (with_reducible repeat (first | apply Kd.R_alloc | apply Kd.R_drewN | apply Kd.R_drew)); exact HO_3.out) gb149 (Nat.le_of_eq hg.symm)) hb); have n1_ := Aside0.mk (below_step (by repeat (first | (with_reducible first | exact HB.out | apply below_alloc | apply pw_below_drewN | apply below_drew1) | exact HB.out)) hb); have n2_ := Aside0.mk (hbox); have n3_ := Aside0.mk ((by rw [hg]; exact (below_size (by repeat (first | (with_reducible first | exact HB.out | apply below_alloc | apply pw_below_drewN | apply below_drew1) | exact HB.out))) : w.heap.size ≤ gb149)); have n4_ := Aside0.mk ((by rw [hg]; exact (below_size (by repeat (first | (with_reducible first | exact HB.out | apply below_alloc | apply pw_below_drewN | apply below_drew1) | exact HB.out))) : w.heap.size ≤ gb149)); clear HO_3; clear HB; have HO_3 := n0_; have HB := n1_; have BK149 := n2_; have GW149 := n3_; have GE149 := n4_; clear n0_ n1_ n2_ n3_ n4_; clear hb hbox hg; have hcz43_0 : w42.cell? ⟨gb149, 0, none⟩ = some (.int .u8 0) := (blk_cell BK149.out 0).trans rfl; have hcz43_1 : w42.cell? ⟨gb149, 1, none⟩ = some (.int .i64 0) := (blk_cell BK149.out 1).trans rfl; have hcz43_2 : w42.cell? ⟨gb149, 2, none⟩ = some (.int .i64 0) := (blk_cell BK149.out 2).trans rfl; have hcz43_3 : w42.cell? ⟨gb149, 3, none⟩ = some (.int .i64 0) := (blk_cell BK149.out 3).trans rfl; have hcz43_4 : w42.cell? ⟨gb149, 4, none⟩ = some (.int .i64 0) := (blk_cell BK149.out 4).trans rfl; have hfz43_0 := blk_frozen BK149.out 0; have hfz43_1 := blk_frozen BK149.out 1; have hfz43_2 := blk_frozen BK149.out 2; have hfz43_3 := blk_frozen BK149.out 3; have hfz43_4 := blk_frozen BK149.out 4)))
                  go_ret
                  exact ⟨by first | rfl | (simp [errW_none, errW_some] <;> rfl) | (simp [*, errW_none, errW_some] <;> rfl), by repeat (first | (with_reducible first | exact HB.out | apply below_alloc | apply pw_below_drewN | apply below_drew1 | refine below_set ?_ GE149.out) | exact HB.out)⟩
            · rw [if_neg c10] at H
              exact absurd H (by simp)
          · rw [if_neg c9] at H
            have c9b0 : decide (x6_1 < (l0.length : Int)) = false := decide_eq_false c9
            clear c9
            have HC44 := Aside0.mk H
            clear H
            go_upto_region 14 with (fail)
            repeat (go_quiet (fail); go_upto_region 14 with (fail))
            go_cut [79] (fun v79 wc => ∃ (kq : Nat) (x79_43 : Bool), v79 = .bool x79_43 ∧ Aside0 (ontimelaw05_AsmDecodes.j1 kq l0 t137 x79_43 = some r) ∧ Aside0 (kq ≤ k1) ∧ Aside0 (Kd.R k48 48 wc w.heap.size (fun _ => True) v140 t137) ∧ Aside0 (Below w.heap.size w wc))
            case first =>
              have H := HC44.out
              clear HC44
              by_cases c45 : t139 = 0
              · rw [if_pos c45] at H
                have c45b0 : (t139 == 0) = true := beq_iff_eq.mpr c45
                have c45b1 : (t139 != 0) = false := bne_eq_false_iff_eq.mpr c45
                clear c45
                (first | rw [c45b0] | (simp only [i64_w, i32_w]; rw [c45b0]) | skip)
                by_cases c46 : t138 = 0
                · rw [if_pos c46] at H
                  have c46b0 : (t138 == 0) = true := beq_iff_eq.mpr c46
                  have c46b1 : (t138 != 0) = false := bne_eq_false_iff_eq.mpr c46
                  clear c46
                  have H' := Aside0.mk H
                  clear H
                  obtain ⟨Ao47, co47, eo47⟩ := Kd.R_slice HO_3.out
                  subst eo47
                  go_wp2
                  repeat (go_quiet (fail); try go_wp2)
                  go_meet
                  case rel => exact ⟨_, (((t137.length : Int) != (l0.length : Int))), (by first | rfl | (simp; done) | (simp [*]; done)), H', ⟨by have := HK1.out; first | omega | exact Nat.le_refl _⟩, ⟨by (with_reducible repeat (first | apply Kd.R_alloc | apply Kd.R_drewN | apply Kd.R_drew)); exact HO_3.out⟩, ⟨by repeat (first | (with_reducible first | exact HB.out | apply below_alloc | apply pw_below_drewN | apply below_drew1) | exact HB.out)⟩⟩
                · rw [if_neg c46] at H
                  have c46b0 : (t138 == 0) = false := beq_eq_false_iff_ne.mpr c46
                  have c46b1 : (t138 != 0) = true := bne_iff_ne.mpr c46
                  have H' := Aside0.mk H
                  clear H
                  go_wp2
                  repeat (go_quiet (fail); try go_wp2)
                  go_meet
                  case rel => exact ⟨_, (true), (by first | rfl | (simp; done) | (simp [*]; done)), H', ⟨by have := HK1.out; first | omega | exact Nat.le_refl _⟩, ⟨by (with_reducible repeat (first | apply Kd.R_alloc | apply Kd.R_drewN | apply Kd.R_drew)); exact HO_3.out⟩, ⟨by repeat (first | (with_reducible first | exact HB.out | apply below_alloc | apply pw_below_drewN | apply below_drew1) | exact HB.out)⟩⟩
              · rw [if_neg c45] at H
                have c45b0 : (t139 == 0) = false := beq_eq_false_iff_ne.mpr c45
                have c45b1 : (t139 != 0) = true := bne_iff_ne.mpr c45
                (first | rw [c45b0] | (simp only [i64_w, i32_w]; rw [c45b0]) | skip)
                have H' := Aside0.mk H
                clear H
                go_wp2
                repeat (go_quiet (fail); try go_wp2)
                go_meet
                case rel => exact ⟨_, (true), (by first | rfl | (simp; done) | (simp [*]; done)), H', ⟨by have := HK1.out; first | omega | exact Nat.le_refl _⟩, ⟨by (with_reducible repeat (first | apply Kd.R_alloc | apply Kd.R_drewN | apply Kd.R_drew)); exact HO_3.out⟩, ⟨by repeat (first | (with_reducible first | exact HB.out | apply below_alloc | apply pw_below_drewN | apply below_drew1) | exact HB.out)⟩⟩
            case rest =>
              clear HC44
              try clear c1
              try clear p1
              try clear q1
              try clear hx1
              try clear c2
              try clear p2
              try clear c3
              try clear c4
              try clear c4b0
              try clear c4b1
              try clear p6
              try clear c9
              try clear c9b0
              try clear c10
              try clear c10b0
              try clear c12
              try clear c12b0
              try clear c12b1
              try clear c13
              try clear c13b0
              try clear c13b1
              try clear c14
              try clear c14b0
              try clear p14
              try clear q14
              try clear hx14
              try clear p15
              try clear q15
              try clear hx15
              try clear c19
              try clear c19b0
              try clear c20
              try clear c20b0
              try clear c32
              try clear c32b0
              try clear c32b1
              try clear c33
              try clear c33b0
              try clear c33b1
              try clear c45
              try clear c45b0
              try clear c45b1
              try clear c46
              try clear c46b0
              try clear c46b1
              try clear hcz17_0
              try clear hcz17_1
              try clear hcz17_2
              try clear hcz17_3
              try clear hcz17_4
              try clear hcz23_0
              try clear hcz23_1
              try clear hcz23_2
              try clear hcz23_3
              try clear hcz23_4
              try clear hcz27_0
              try clear hcz27_1
              try clear hcz27_2
              try clear hcz27_3
              try clear hcz27_4
              try clear hcz31_0
              try clear hcz31_1
              try clear hcz31_2
              try clear hcz31_3
              try clear hcz31_4
              try clear hcz36_0
              try clear hcz36_1
              try clear hcz36_2
              try clear hcz36_3
              try clear hcz36_4
              try clear hcz40_0
              try clear hcz40_1
              try clear hcz40_2
              try clear hcz40_3
              try clear hcz40_4
              try clear hcz43_0
              try clear hcz43_1
              try clear hcz43_2
              try clear hcz43_3
              try clear hcz43_4
              try clear hfz17_0
              try clear hfz17_1
              try clear hfz17_2
              try clear hfz17_3
              try clear hfz17_4
              try clear hfz23_0
              try clear hfz23_1
              try clear hfz23_2
              try clear hfz23_3
              try clear hfz23_4
              try clear hfz27_0
              try clear hfz27_1
              try clear hfz27_2
              try clear hfz27_3
              try clear hfz27_4
              try clear hfz31_0
              try clear hfz31_1
              try clear hfz31_2
              try clear hfz31_3
              try clear hfz31_4
              try clear hfz36_0
              try clear hfz36_1
              try clear hfz36_2
              try clear hfz36_3
              try clear hfz36_4
              try clear hfz40_0
              try clear hfz40_1
              try clear hfz40_2
              try clear hfz40_3
              try clear hfz40_4
              try clear hfz43_0
              try clear hfz43_1
              try clear hfz43_2
              try clear hfz43_3
              try clear hfz43_4
              try clear hx142_0
              try clear hx150_0
              try clear hx150_1
              try clear hx150_2
              try clear hx150_3
              try clear hx150_4
              try clear p142
              try clear p150
              try clear p2
              try clear q142
              try clear q150
              obtain ⟨kq, x79_43, rfl, HA, HJ43, HO_3, HB⟩ := hcut
              cases kq with
              | zero => exact absurd HA.out (by simp [ontimelaw05_AsmDecodes.j1])
              | succ kj43 =>
                have H := HA.out
                clear HA
                simp only [ontimelaw05_AsmDecodes.j1] at H
                by_cases c48 : x79_43 = true
                · subst c48
                  have H1 : (some false) = some r := by rw [if_pos rfl] at H; exact H
                  clear H
                  have H := H1
                  clear H1
                  obtain rfl := Option.some.inj H
                  go_wp2
                  repeat (go_quiet (fail); try go_wp2)
                  go_ret
                  exact ⟨by first | rfl | (simp [errW_none, errW_some] <;> rfl) | (simp [*, errW_none, errW_some] <;> rfl), by repeat (first | (with_reducible first | exact HB.out | apply below_alloc | apply pw_below_drewN | apply below_drew1) | exact HB.out)⟩
                · replace c48 := Bool.eq_false_iff.mpr c48
                  subst c48
                  have H1 : ((asm_Assemble.f kj43 t137).bind fun bt151 => (if bt151.2 = 0 then (ontimelaw05_AsmDecodes.j2 kj43 l0 bt151.1 ((bt151.1.length : Int) != (l0.length : Int))) else (ontimelaw05_AsmDecodes.j2 kj43 l0 bt151.1 true))) = some r := by rw [if_neg (show ¬ (false = true) by decide)] at H; exact H
                  clear H
                  have H := H1
                  clear H1
                  replace H := Option.bind_eq_some_iff.mp H
                  obtain ⟨⟨t151, t152⟩, A490, H⟩ := H
                  replace H : (if t152 = 0 then (ontimelaw05_AsmDecodes.j2 kj43 l0 t151 ((t151.length : Int) != (l0.length : Int))) else (ontimelaw05_AsmDecodes.j2 kj43 l0 t151 true)) = some r := H
                  have A49 := Aside0.mk A490
                  clear A490
                  have HC50 := Aside0.mk H
                  clear H
                  obtain ⟨Ao51, co51, eo51⟩ := Kd.R_slice HO_3.out
                  subst eo51
                  go_upto_region 17 with (first | (go_at_call 20; (with_reducible refine (asm_Assemble.calls kj43 _ _ t137 t151 t152 _ ?side1 ?side2 A49.out).mono ?_); (case side1 => repeat (first | exact (Kd.R_reads' HO_3.out).2.2 | (with_reducible refine Kd.C_alloc ?_ _) | (with_reducible refine Kd.C_drewN ?_ _) | (with_reducible refine Kd.C_drew ?_))); (case side2 => exact (Kd.R_reads' HO_3.out).2.1); rintro e w52 ⟨v153, rfl, ho0, hb⟩; have n0_ := Aside0.mk (Kd.R_below (by (with_reducible repeat (first | apply Kd.R_alloc | apply Kd.R_drewN | apply Kd.R_drew)); exact HO_3.out) hb); have n1_ := Aside0.mk (Kd.R_lower ho0 (below_size (by repeat (first | (with_reducible first | exact HB.out | apply below_alloc | apply pw_below_drewN | apply below_drew1) | exact HB.out)))); have n2_ := Aside0.mk (below_step (by repeat (first | (with_reducible first | exact HB.out | apply below_alloc | apply pw_below_drewN | apply below_drew1) | exact HB.out)) hb); clear HO_3; clear HB; have HO_3 := n0_; have HO154 := n1_; have HB := n2_; clear n0_ n1_ n2_; (try clear hb); (try clear hb2); (try clear hk); (try clear hi); (try clear ho0)))
                  repeat (go_quiet (first | (go_at_call 20; (with_reducible refine (asm_Assemble.calls kj43 _ _ t137 t151 t152 _ ?side1 ?side2 A49.out).mono ?_); (case side1 => repeat (first | exact (Kd.R_reads' HO_3.out).2.2 | (with_reducible refine Kd.C_alloc ?_ _) | (with_reducible refine Kd.C_drewN ?_ _) | (with_reducible refine Kd.C_drew ?_))); (case side2 => exact (Kd.R_reads' HO_3.out).2.1); rintro e w52 ⟨v153, rfl, ho0, hb⟩; have n0_ := Aside0.mk (Kd.R_below (by (with_reducible repeat (first | apply Kd.R_alloc | apply Kd.R_drewN | apply Kd.R_drew)); exact HO_3.out) hb); have n1_ := Aside0.mk (Kd.R_lower ho0 (below_size (by repeat (first | (with_reducible first | exact HB.out | apply below_alloc | apply pw_below_drewN | apply below_drew1) | exact HB.out)))); have n2_ := Aside0.mk (below_step (by repeat (first | (with_reducible first | exact HB.out | apply below_alloc | apply pw_below_drewN | apply below_drew1) | exact HB.out)) hb); clear HO_3; clear HB; have HO_3 := n0_; have HO154 := n1_; have HB := n2_; clear n0_ n1_ n2_; (try clear hb); (try clear hb2); (try clear hk); (try clear hi); (try clear ho0))); go_upto_region 17 with (first | (go_at_call 20; (with_reducible refine (asm_Assemble.calls kj43 _ _ t137 t151 t152 _ ?side1 ?side2 A49.out).mono ?_); (case side1 => repeat (first | exact (Kd.R_reads' HO_3.out).2.2 | (with_reducible refine Kd.C_alloc ?_ _) | (with_reducible refine Kd.C_drewN ?_ _) | (with_reducible refine Kd.C_drew ?_))); (case side2 => exact (Kd.R_reads' HO_3.out).2.1); rintro e w52 ⟨v153, rfl, ho0, hb⟩; have n0_ := Aside0.mk (Kd.R_below (by (with_reducible repeat (first | apply Kd.R_alloc | apply Kd.R_drewN | apply Kd.R_drew)); exact HO_3.out) hb); have n1_ := Aside0.mk (Kd.R_lower ho0 (below_size (by repeat (first | (with_reducible first | exact HB.out | apply below_alloc | apply pw_below_drewN | apply below_drew1) | exact HB.out)))); have n2_ := Aside0.mk (below_step (by repeat (first | (with_reducible first | exact HB.out | apply below_alloc | apply pw_below_drewN | apply below_drew1) | exact HB.out)) hb); clear HO_3; clear HB; have HO_3 := n0_; have HO154 := n1_; have HB := n2_; clear n0_ n1_ n2_; (try clear hb); (try clear hb2); (try clear hk); (try clear hi); (try clear ho0))))
                  (try simp only [Act.put, List.setIfInBounds_toArray, List.set_cons_zero, List.set_cons_succ])
                  go_cut [93] (fun v93 wc => ∃ (kq : Nat) (x93_49 : Bool), v93 = .bool x93_49 ∧ Aside0 (ontimelaw05_AsmDecodes.j2 kq l0 t151 x93_49 = some r) ∧ Aside0 (kq ≤ kj43) ∧ Aside0 (Kd.R (Kd.int .u32) 44 wc w.heap.size (fun _ => True) v153 t151) ∧ Aside0 (Below w.heap.size w wc))
                  case first =>
                    have H := HC50.out
                    clear HC50
                    by_cases c53 : t152 = 0
                    · rw [if_pos c53] at H
                      have c53b0 : (t152 == 0) = true := beq_iff_eq.mpr c53
                      have c53b1 : (t152 != 0) = false := bne_eq_false_iff_eq.mpr c53
                      clear c53
                      (first | rw [c53b0] | (simp only [i64_w, i32_w]; rw [c53b0]) | skip)
                      have H' := Aside0.mk H
                      clear H
                      obtain ⟨Ao54, co54, eo54⟩ := Kd.R_slice HO154.out
                      subst eo54
                      go_wp2
                      repeat (go_quiet (fail); try go_wp2)
                      go_meet
                      case rel => exact ⟨_, (((t151.length : Int) != (l0.length : Int))), (by first | rfl | (simp; done) | (simp [*]; done)), H', ⟨by have := HK1.out; have := HJ43.out; first | omega | exact Nat.le_refl _⟩, ⟨by (with_reducible repeat (first | apply Kd.R_alloc | apply Kd.R_drewN | apply Kd.R_drew)); exact HO154.out⟩, ⟨by repeat (first | (with_reducible first | exact HB.out | apply below_alloc | apply pw_below_drewN | apply below_drew1) | exact HB.out)⟩⟩
                    · rw [if_neg c53] at H
                      have c53b0 : (t152 == 0) = false := beq_eq_false_iff_ne.mpr c53
                      have c53b1 : (t152 != 0) = true := bne_iff_ne.mpr c53
                      (first | rw [c53b0] | (simp only [i64_w, i32_w]; rw [c53b0]) | skip)
                      have H' := Aside0.mk H
                      clear H
                      go_wp2
                      repeat (go_quiet (fail); try go_wp2)
                      go_meet
                      case rel => exact ⟨_, (true), (by first | rfl | (simp; done) | (simp [*]; done)), H', ⟨by have := HK1.out; have := HJ43.out; first | omega | exact Nat.le_refl _⟩, ⟨by (with_reducible repeat (first | apply Kd.R_alloc | apply Kd.R_drewN | apply Kd.R_drew)); exact HO154.out⟩, ⟨by repeat (first | (with_reducible first | exact HB.out | apply below_alloc | apply pw_below_drewN | apply below_drew1) | exact HB.out)⟩⟩
                  case rest =>
                    clear HC50
                    try clear c1
                    try clear p1
                    try clear q1
                    try clear hx1
                    try clear c2
                    try clear p2
                    try clear c3
                    try clear c4
                    try clear c4b0
                    try clear c4b1
                    try clear c5
                    try clear p6
                    try clear c9
                    try clear c9b0
                    try clear c10
                    try clear c10b0
                    try clear c12
                    try clear c12b0
                    try clear c12b1
                    try clear c13
                    try clear c13b0
                    try clear c13b1
                    try clear c14
                    try clear c14b0
                    try clear p14
                    try clear q14
                    try clear hx14
                    try clear p15
                    try clear q15
                    try clear hx15
                    try clear c19
                    try clear c19b0
                    try clear c20
                    try clear c20b0
                    try clear c32
                    try clear c32b0
                    try clear c32b1
                    try clear c33
                    try clear c33b0
                    try clear c33b1
                    try clear c45
                    try clear c45b0
                    try clear c45b1
                    try clear c46
                    try clear c46b0
                    try clear c46b1
                    try clear c48
                    try clear c53
                    try clear c53b0
                    try clear c53b1
                    try clear hcz17_0
                    try clear hcz17_1
                    try clear hcz17_2
                    try clear hcz17_3
                    try clear hcz17_4
                    try clear hcz23_0
                    try clear hcz23_1
                    try clear hcz23_2
                    try clear hcz23_3
                    try clear hcz23_4
                    try clear hcz27_0
                    try clear hcz27_1
                    try clear hcz27_2
                    try clear hcz27_3
                    try clear hcz27_4
                    try clear hcz31_0
                    try clear hcz31_1
                    try clear hcz31_2
                    try clear hcz31_3
                    try clear hcz31_4
                    try clear hcz36_0
                    try clear hcz36_1
                    try clear hcz36_2
                    try clear hcz36_3
                    try clear hcz36_4
                    try clear hcz40_0
                    try clear hcz40_1
                    try clear hcz40_2
                    try clear hcz40_3
                    try clear hcz40_4
                    try clear hcz43_0
                    try clear hcz43_1
                    try clear hcz43_2
                    try clear hcz43_3
                    try clear hcz43_4
                    try clear hfz17_0
                    try clear hfz17_1
                    try clear hfz17_2
                    try clear hfz17_3
                    try clear hfz17_4
                    try clear hfz23_0
                    try clear hfz23_1
                    try clear hfz23_2
                    try clear hfz23_3
                    try clear hfz23_4
                    try clear hfz27_0
                    try clear hfz27_1
                    try clear hfz27_2
                    try clear hfz27_3
                    try clear hfz27_4
                    try clear hfz31_0
                    try clear hfz31_1
                    try clear hfz31_2
                    try clear hfz31_3
                    try clear hfz31_4
                    try clear hfz36_0
                    try clear hfz36_1
                    try clear hfz36_2
                    try clear hfz36_3
                    try clear hfz36_4
                    try clear hfz40_0
                    try clear hfz40_1
                    try clear hfz40_2
                    try clear hfz40_3
                    try clear hfz40_4
                    try clear hfz43_0
                    try clear hfz43_1
                    try clear hfz43_2
                    try clear hfz43_3
                    try clear hfz43_4
                    try clear hx142_0
                    try clear hx150_0
                    try clear hx150_1
                    try clear hx150_2
                    try clear hx150_3
                    try clear hx150_4
                    try clear p1
                    try clear p14
                    try clear p142
                    try clear p15
                    try clear p150
                    try clear p2
                    try clear p6
                    try clear q1
                    try clear q14
                    try clear q142
                    try clear q15
                    try clear q150
                    obtain ⟨kq, x93_49, rfl, HA, HJ49, HO_9, HB⟩ := hcut
                    cases kq with
                    | zero => exact absurd HA.out (by simp [ontimelaw05_AsmDecodes.j2])
                    | succ kj49 =>
                      have H := HA.out
                      clear HA
                      simp only [ontimelaw05_AsmDecodes.j2] at H
                      by_cases c55 : x93_49 = true
                      · subst c55
                        have H1 : (some false) = some r := by rw [if_pos rfl] at H; exact H
                        clear H
                        have H := H1
                        clear H1
                        obtain rfl := Option.some.inj H
                        go_wp2
                        repeat (go_quiet (fail); try go_wp2)
                        go_ret
                        exact ⟨by first | rfl | (simp [errW_none, errW_some] <;> rfl) | (simp [*, errW_none, errW_some] <;> rfl), by repeat (first | (with_reducible first | exact HB.out | apply below_alloc | apply pw_below_drewN | apply below_drew1) | exact HB.out)⟩
                      · replace c55 := Bool.eq_false_iff.mpr c55
                        subst c55
                        have H1 : (ontimelaw05_AsmDecodes.l1 kj49 l0 t151 0) = some r := by rw [if_neg (show ¬ (false = true) by decide)] at H; exact H
                        clear H
                        have H := H1
                        clear H1
                        have H' := Aside0.mk H
                        clear H
                        go_wp2
                        repeat (go_quiet (fail); try go_wp2)
                        go_loopg [11] kj49 (fun kq v11 w' => ∃ (x11_4 : Int), v11 = .int .i64 x11_4 ∧ Aside0 (ontimelaw05_AsmDecodes.l1 kq l0 t151 x11_4 = some r) ∧ Aside0 (kq ≤ kj49) ∧ Aside0 (Kd.R (Kd.int .u32) 44 w' w.heap.size (fun _ => True) v153 t151) ∧ Aside0 (Below w.heap.size w w'))
                        case atStart => exact ⟨(0), (by first | rfl | (simp; done) | (simp [*]; done)), H', ⟨Nat.le_refl _⟩, ⟨by (with_reducible repeat (first | apply Kd.R_alloc | apply Kd.R_drewN | apply Kd.R_drew)); exact HO_9.out⟩, ⟨by repeat (first | (with_reducible first | exact HB.out | apply below_alloc | apply pw_below_drewN | apply below_drew1) | exact HB.out)⟩⟩
                        case round =>
                          clear H'
                          try clear c1
                          try clear p1
                          try clear q1
                          try clear hx1
                          try clear c2
                          try clear p2
                          try clear c3
                          try clear c4
                          try clear c4b0
                          try clear c4b1
                          try clear c5
                          try clear p6
                          try clear c9
                          try clear c9b0
                          try clear c10
                          try clear c10b0
                          try clear c12
                          try clear c12b0
                          try clear c12b1
                          try clear c13
                          try clear c13b0
                          try clear c13b1
                          try clear c14
                          try clear c14b0
                          try clear p14
                          try clear q14
                          try clear hx14
                          try clear p15
                          try clear q15
                          try clear hx15
                          try clear c19
                          try clear c19b0
                          try clear c20
                          try clear c20b0
                          try clear c32
                          try clear c32b0
                          try clear c32b1
                          try clear c33
                          try clear c33b0
                          try clear c33b1
                          try clear c45
                          try clear c45b0
                          try clear c45b1
                          try clear c46
                          try clear c46b0
                          try clear c46b1
                          try clear c48
                          try clear c53
                          try clear c53b0
                          try clear c53b1
                          try clear c55
                          try clear hcz17_0
                          try clear hcz17_1
                          try clear hcz17_2
                          try clear hcz17_3
                          try clear hcz17_4
                          try clear hcz23_0
                          try clear hcz23_1
                          try clear hcz23_2
                          try clear hcz23_3
                          try clear hcz23_4
                          try clear hcz27_0
                          try clear hcz27_1
                          try clear hcz27_2
                          try clear hcz27_3
                          try clear hcz27_4
                          try clear hcz31_0
                          try clear hcz31_1
                          try clear hcz31_2
                          try clear hcz31_3
                          try clear hcz31_4
                          try clear hcz36_0
                          try clear hcz36_1
                          try clear hcz36_2
                          try clear hcz36_3
                          try clear hcz36_4
                          try clear hcz40_0
                          try clear hcz40_1
                          try clear hcz40_2
                          try clear hcz40_3
                          try clear hcz40_4
                          try clear hcz43_0
                          try clear hcz43_1
                          try clear hcz43_2
                          try clear hcz43_3
                          try clear hcz43_4
                          try clear hfz17_0
                          try clear hfz17_1
                          try clear hfz17_2
                          try clear hfz17_3
                          try clear hfz17_4
                          try clear hfz23_0
                          try clear hfz23_1
                          try clear hfz23_2
                          try clear hfz23_3
                          try clear hfz23_4
                          try clear hfz27_0
                          try clear hfz27_1
                          try clear hfz27_2
                          try clear hfz27_3
                          try clear hfz27_4
                          try clear hfz31_0
                          try clear hfz31_1
                          try clear hfz31_2
                          try clear hfz31_3
                          try clear hfz31_4
                          try clear hfz36_0
                          try clear hfz36_1
                          try clear hfz36_2
                          try clear hfz36_3
                          try clear hfz36_4
                          try clear hfz40_0
                          try clear hfz40_1
                          try clear hfz40_2
                          try clear hfz40_3
                          try clear hfz40_4
                          try clear hfz43_0
                          try clear hfz43_1
                          try clear hfz43_2
                          try clear hfz43_3
                          try clear hfz43_4
                          try clear hx142_0
                          try clear hx150_0
                          try clear hx150_1
                          try clear hx150_2
                          try clear hx150_3
                          try clear hx150_4
                          try clear p1
                          try clear p14
                          try clear p142
                          try clear p15
                          try clear p150
                          try clear p2
                          try clear p6
                          try clear q1
                          try clear q14
                          try clear q142
                          try clear q15
                          try clear q150
                          obtain ⟨x11_4, rfl, HA, HK4, HO_9, HB⟩ := hrel
                          cases gk with
                          | zero => exact absurd HA.out (by simp [ontimelaw05_AsmDecodes.l1])
                          | succ k4 =>
                            have H := HA.out
                            clear HA
                            simp only [ontimelaw05_AsmDecodes.l1] at H
                            by_cases c56 : x11_4 < (l0.length : Int)
                            · rw [if_pos c56] at H
                              have c56b0 : decide (x11_4 < (l0.length : Int)) = true := decide_eq_true c56
                              clear c56
                              by_cases c57 : 0 ≤ x11_4
                              · rw [if_pos c57] at H
                                have c57b0 : decide (0 ≤ x11_4) = true := decide_eq_true c57
                                clear c57
                                by_cases c58 : x11_4 < (t151.length : Int)
                                · rw [if_pos c58] at H
                                  have c58b0 : decide (x11_4 < (t151.length : Int)) = true := decide_eq_true c58
                                  clear c58
                                  by_cases c59 : (rd t151 x11_4) = (rd l0 x11_4)
                                  · rw [if_pos c59] at H
                                    have c59b0 : ((rd t151 x11_4) == (rd l0 x11_4)) = true := beq_iff_eq.mpr c59
                                    have c59b1 : ((rd t151 x11_4) != (rd l0 x11_4)) = false := bne_eq_false_iff_eq.mpr c59
                                    clear c59
                                    have H' := Aside0.mk H
                                    clear H
                                    obtain ⟨Ao60, co60, eo60⟩ := Kd.R_slice HO_9.out
                                    subst eo60
                                    have p155 : 0 ≤ (x11_4 : Int) := of_decide_eq_true (by first | (with_reducible assumption) | assumption)
                                    have q155 : x11_4 < (t151.length : Int) := of_decide_eq_true (by first | (with_reducible assumption) | assumption)
                                    obtain ⟨ad155, e155, hx155_0⟩ := Kd.at_int (Kd.R_reads' HO_9.out).2.2 x11_4 p155 q155
                                    cases e155
                                    replace p155 := eq_true p155
                                    replace q155 := eq_true q155
                                    have p156 : 0 ≤ (x11_4 : Int) := of_decide_eq_true (by first | (with_reducible assumption) | assumption)
                                    have q156 : x11_4 < (l0.length : Int) := of_decide_eq_true (by first | (with_reducible assumption) | assumption)
                                    obtain ⟨ad156, e156, hx156_0⟩ := Kd.at_int HR0.out x11_4 p156 q156
                                    cases e156
                                    replace hx156_0 := (HB.out.cell (World.block_lt_of_cell? w _ hx156_0)).trans hx156_0
                                    replace p156 := eq_true p156
                                    replace q156 := eq_true q156
                                    go_wp2
                                    repeat (go_quiet (fail); try go_wp2)
                                    go_roundg k4
                                    case measure => have := HK1.out; have := HJ43.out; have := HJ49.out; have := HK4.out; omega
                                    case rel => exact ⟨(wrap64 (x11_4 + 1)), (by first | rfl | (simp; done) | (simp [*]; done)), H', ⟨by have := HK1.out; have := HJ43.out; have := HJ49.out; have := HK4.out; omega⟩, ⟨by (with_reducible repeat (first | apply Kd.R_alloc | apply Kd.R_drewN | apply Kd.R_drew)); exact HO_9.out⟩, ⟨by repeat (first | (with_reducible first | exact HB.out | apply below_alloc | apply pw_below_drewN | apply below_drew1) | exact HB.out)⟩⟩
                                  · rw [if_neg c59] at H
                                    have c59b0 : ((rd t151 x11_4) == (rd l0 x11_4)) = false := beq_eq_false_iff_ne.mpr c59
                                    have c59b1 : ((rd t151 x11_4) != (rd l0 x11_4)) = true := bne_iff_ne.mpr c59
                                    obtain rfl := Option.some.inj H
                                    obtain ⟨Ao61, co61, eo61⟩ := Kd.R_slice HO_9.out
                                    subst eo61
                                    have p155 : 0 ≤ (x11_4 : Int) := of_decide_eq_true (by first | (with_reducible assumption) | assumption)
                                    have q155 : x11_4 < (t151.length : Int) := of_decide_eq_true (by first | (with_reducible assumption) | assumption)
                                    obtain ⟨ad155, e155, hx155_0⟩ := Kd.at_int (Kd.R_reads' HO_9.out).2.2 x11_4 p155 q155
                                    cases e155
                                    replace p155 := eq_true p155
                                    replace q155 := eq_true q155
                                    have p156 : 0 ≤ (x11_4 : Int) := of_decide_eq_true (by first | (with_reducible assumption) | assumption)
                                    have q156 : x11_4 < (l0.length : Int) := of_decide_eq_true (by first | (with_reducible assumption) | assumption)
                                    obtain ⟨ad156, e156, hx156_0⟩ := Kd.at_int HR0.out x11_4 p156 q156
                                    cases e156
                                    replace hx156_0 := (HB.out.cell (World.block_lt_of_cell? w _ hx156_0)).trans hx156_0
                                    replace p156 := eq_true p156
                                    replace q156 := eq_true q156
                                    go_wp2
                                    repeat (go_quiet (fail); try go_wp2)
                                    go_ret
                                    exact ⟨by first | rfl | (simp [errW_none, errW_some] <;> rfl) | (simp [*, errW_none, errW_some] <;> rfl), by repeat (first | (with_reducible first | exact HB.out | apply below_alloc | apply pw_below_drewN | apply below_drew1) | exact HB.out)⟩
                                · rw [if_neg c58] at H
                                  exact absurd H (by simp)
                              · rw [if_neg c57] at H
                                exact absurd H (by simp)
                            · rw [if_neg c56] at H
                              have c56b0 : decide (x11_4 < (l0.length : Int)) = false := decide_eq_false c56
                              clear c56
                              obtain rfl := Option.some.inj H
                              go_wp2
                              repeat (go_quiet (fail); try go_wp2)
                              go_ret
                              exact ⟨by first | rfl | (simp [errW_none, errW_some] <;> rfl) | (simp [*, errW_none, errW_some] <;> rfl), by repeat (first | (with_reducible first | exact HB.out | apply below_alloc | apply pw_below_drewN | apply below_drew1) | exact HB.out)⟩
  · replace c3 := Bool.eq_false_iff.mpr c3
    subst c3
    have H1 : (some false) = some r := by rw [if_neg (show ¬ (false = true) by decide)] at H; exact H
    clear H
    have H := H1
    clear H1
    obtain rfl := Option.some.inj H
    go_enter Tryd.func10, Tryd.ntmps10
    go_wp2_with (first | (go_at_call 12; (with_reducible refine (ontimelaw05_awake.calls  false _ A2.out (EnvW.below hE (by repeat (first | (with_reducible first | exact HB.out | apply below_alloc | apply pw_below_drewN | apply below_drew1) | exact HB.out)))).mono ?_); rintro e w62 ⟨rfl, hb⟩; have n0_ := Aside0.mk (below_step (by repeat (first | (with_reducible first | exact HB.out | apply below_alloc | apply pw_below_drewN | apply below_drew1) | exact HB.out)) hb); clear HB; have HB := n0_; clear n0_; (try clear hb); (try clear hb2); (try clear hk); (try clear hi)))
    repeat (go_quiet (first | (go_at_call 12; (with_reducible refine (ontimelaw05_awake.calls  false _ A2.out (EnvW.below hE (by repeat (first | (with_reducible first | exact HB.out | apply below_alloc | apply pw_below_drewN | apply below_drew1) | exact HB.out)))).mono ?_); rintro e w62 ⟨rfl, hb⟩; have n0_ := Aside0.mk (below_step (by repeat (first | (with_reducible first | exact HB.out | apply below_alloc | apply pw_below_drewN | apply below_drew1) | exact HB.out)) hb); clear HB; have HB := n0_; clear n0_; (try clear hb); (try clear hb2); (try clear hk); (try clear hi))); try go_wp2_with (first | (go_at_call 12; (with_reducible refine (ontimelaw05_awake.calls  false _ A2.out (EnvW.below hE (by repeat (first | (with_reducible first | exact HB.out | apply below_alloc | apply pw_below_drewN | apply below_drew1) | exact HB.out)))).mono ?_); rintro e w62 ⟨rfl, hb⟩; have n0_ := Aside0.mk (below_step (by repeat (first | (with_reducible first | exact HB.out | apply below_alloc | apply pw_below_drewN | apply below_drew1) | exact HB.out)) hb); clear HB; have HB := n0_; clear n0_; (try clear hb); (try clear hb2); (try clear hk); (try clear hi))))
    go_ret
    exact ⟨by first | rfl | (simp [errW_none, errW_some] <;> rfl) | (simp [*, errW_none, errW_some] <;> rfl), by repeat (first | (with_reducible first | exact HB.out | apply below_alloc | apply pw_below_drewN | apply below_drew1) | exact HB.out)⟩

end Go.Proofs.YtmgafakahbanaaaDoor.Pa
