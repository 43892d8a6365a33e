-- Lines by a program of this session's (wip/gprint.py over the kit's printing program): the walks of plain functions. Not trusted: Lean checks it.
import Derived.Test.YtmgafakahbanaaaDoorPbx0
import Derived.Test.YtmgafakahbanaaaDoorPbx2
namespace Go.Proofs.YtmgafakahbanaaaDoor.Pa
open Go.RowKit Go.Proofs.YtmgafakahbanaaaDoorW.PrintWords Go.Proofs.YtmgafakahbanaaaDoorW.PrintLast Go.Proofs.YtmgafakahbanaaaDoorW.PrintMore
attribute [local go_sem] max2_int min2_int max_two min_two max_three min_three max_four min_four   -- for this text's walks alone
set_option linter.unusedVariables false
set_option linter.unusedSimpArgs false

/-! ### ontimeref05_Parse: function 17 -/
mutual
def ontimeref05_Parse.l0 : Nat → ByteArray → List (S48) → Int → Option ((List (S48)) × Int × Int)
  | 0, _, _, _ => none
  | k + 1, x0, x5, x6 => if (x0.size : Int) > 0 then (ontimeref05_Parse.l1 k x0 x5 x6 0) else (some (x5, 0, 0))
def ontimeref05_Parse.j2 : Nat → ByteArray → List (S48) → Int → Int → Option ((List (S48)) × Int × Int)
  | 0, _, _, _, _ => none
  | k + 1, x0, x5, x6, x7 => if 0 ≤ x7 then (if x7 ≤ (x0.size : Int) then ((ontimeref05_Read.f k (x0.extract 0 (x7 : Int).toNat)).bind fun bt124 => (if bt124.2.2.2.2.2 < 0 then (some (([] : List (S48)), x6, 3)) else (if bt124.2.2.2.2.2 = 1 then (if (x5.length : Int) ≥ 4096 then (some (([] : List (S48)), x6, 5)) else (if x5.length < 3518437208883 then (if 0 ≤ (mn (wrap64 (x7 + 1)) (x0.size : Int)) then (if (mn (wrap64 (x7 + 1)) (x0.size : Int)) ≤ (x0.size : Int) then (ontimeref05_Parse.l0 k (x0.extract ((mn (wrap64 (x7 + 1)) (x0.size : Int)) : Int).toNat x0.size) (x5 ++ [(⟨bt124.1, bt124.2.1, bt124.2.2.1, bt124.2.2.2.1, bt124.2.2.2.2.1⟩ : S48)]) (wrap64 (x6 + 1))) else (none)) else (none)) else (none))) else (if 0 ≤ (mn (wrap64 (x7 + 1)) (x0.size : Int)) then (if (mn (wrap64 (x7 + 1)) (x0.size : Int)) ≤ (x0.size : Int) then (ontimeref05_Parse.l0 k (x0.extract ((mn (wrap64 (x7 + 1)) (x0.size : Int)) : Int).toNat x0.size) x5 (wrap64 (x6 + 1))) else (none)) else (none))))) else (none)) else (none)
def ontimeref05_Parse.l1 : Nat → ByteArray → List (S48) → Int → Int → Option ((List (S48)) × Int × Int)
  | 0, _, _, _, _ => none
  | k + 1, x0, x5, x6, x7 => if x7 < (x0.size : Int) then (if 0 ≤ x7 then (if (bt x0 x7) = 10 then (ontimeref05_Parse.j2 k x0 x5 x6 x7) else (ontimeref05_Parse.l1 k x0 x5 x6 (wrap64 (x7 + 1)))) else (none)) else (ontimeref05_Parse.j2 k x0 x5 x6 x7)
end
def ontimeref05_Parse.f (k : Nat) (a0 : ByteArray) : Option ((List (S48)) × Int × Int) := if (a0.size : Int) > 65536 then (some (([] : List (S48)), 0, 5)) else (ontimeref05_Parse.l0 k a0 ([] : List (S48)) 1)
theorem ontimeref05_Parse.mono_l : ∀ k, (∀ y0 y1 y2, LeO (ontimeref05_Parse.l0 k y0 y1 y2) (ontimeref05_Parse.l0 (k + 1) y0 y1 y2)) ∧ (∀ y0 y1 y2 y3, LeO (ontimeref05_Parse.j2 k y0 y1 y2 y3) (ontimeref05_Parse.j2 (k + 1) y0 y1 y2 y3)) ∧ (∀ y0 y1 y2 y3, LeO (ontimeref05_Parse.l1 k y0 y1 y2 y3) (ontimeref05_Parse.l1 (k + 1) y0 y1 y2 y3))
  | 0 => ⟨fun _ _ _ r h => by simp [ontimeref05_Parse.l0] at h, fun _ _ _ _ r h => by simp [ontimeref05_Parse.j2] at h, fun _ _ _ _ r h => by simp [ontimeref05_Parse.l1] at h⟩
  | k + 1 => by
    obtain ⟨ih0, ih1, ih2⟩ := ontimeref05_Parse.mono_l k
    refine ⟨?_, ?_, ?_⟩
    · intro y0 y1 y2
      unfold ontimeref05_Parse.l0
      repeat' first
      | (with_reducible exact ih0 _ _ _)
      | (with_reducible exact ih1 _ _ _ _)
      | (with_reducible exact ih2 _ _ _ _)
      | (with_reducible exact ontimeref05_Read.mono _ _)
      | (with_reducible exact LeO.refl _)
      | (with_reducible exact LeO.none _)
      | (with_reducible refine LeO.ite ?_ ?_)
      | (with_reducible refine LeO.bind ?_ (fun _ => ?_))
      | exact ih0 _ _ _
      | exact ih1 _ _ _ _
      | exact ih2 _ _ _ _
      | exact ontimeref05_Read.mono _ _
      | exact LeO.none _
      | refine LeO.ite ?_ ?_
      | refine LeO.bind ?_ (fun _ => ?_)
    · intro y0 y1 y2 y3
      unfold ontimeref05_Parse.j2
      repeat' first
      | (with_reducible exact ih0 _ _ _)
      | (with_reducible exact ih1 _ _ _ _)
      | (with_reducible exact ih2 _ _ _ _)
      | (with_reducible exact ontimeref05_Read.mono _ _)
      | (with_reducible exact LeO.refl _)
      | (with_reducible exact LeO.none _)
      | (with_reducible refine LeO.ite ?_ ?_)
      | (with_reducible refine LeO.bind ?_ (fun _ => ?_))
      | exact ih0 _ _ _
      | exact ih1 _ _ _ _
      | exact ih2 _ _ _ _
      | exact ontimeref05_Read.mono _ _
      | exact LeO.none _
      | refine LeO.ite ?_ ?_
      | refine LeO.bind ?_ (fun _ => ?_)
    · intro y0 y1 y2 y3
      unfold ontimeref05_Parse.l1
      repeat' first
      | (with_reducible exact ih0 _ _ _)
      | (with_reducible exact ih1 _ _ _ _)
      | (with_reducible exact ih2 _ _ _ _)
      | (with_reducible exact ontimeref05_Read.mono _ _)
      | (with_reducible exact LeO.refl _)
      | (with_reducible exact LeO.none _)
      | (with_reducible refine LeO.ite ?_ ?_)
      | (with_reducible refine LeO.bind ?_ (fun _ => ?_))
      | exact ih0 _ _ _
      | exact ih1 _ _ _ _
      | exact ih2 _ _ _ _
      | exact ontimeref05_Read.mono _ _
      | exact LeO.none _
      | refine LeO.ite ?_ ?_
      | refine LeO.bind ?_ (fun _ => ?_)
theorem ontimeref05_Parse.mono : ∀ a0 k, LeO (ontimeref05_Parse.f k a0) (ontimeref05_Parse.f (k + 1) a0) := by
  intro a0 k
  obtain ⟨ih0, ih1, ih2⟩ := ontimeref05_Parse.mono_l k
  unfold ontimeref05_Parse.f
  repeat' first
      | (with_reducible exact ih0 _ _ _)
      | (with_reducible exact ih1 _ _ _ _)
      | (with_reducible exact ih2 _ _ _ _)
      | (with_reducible exact ontimeref05_Read.mono _ _)
      | (with_reducible exact LeO.refl _)
      | (with_reducible exact LeO.none _)
      | (with_reducible refine LeO.ite ?_ ?_)
      | (with_reducible refine LeO.bind ?_ (fun _ => ?_))
      | exact ih0 _ _ _
      | exact ih1 _ _ _ _
      | exact ih2 _ _ _ _
      | exact ontimeref05_Read.mono _ _
      | exact LeO.none _
      | refine LeO.ite ?_ ?_
      | refine LeO.bind ?_ (fun _ => ?_)
set_option maxHeartbeats 8000000 in
set_option maxRecDepth 100000 in
theorem ontimeref05_Parse.calls (k : Nat) (a0 : ByteArray) (r1 : List (S48)) (r2 : Int) (r3 : Int) (w : World) (h : ontimeref05_Parse.f k a0 = some (r1, r2, r3)) :
    Calls Tryd.prog 17 #[.string a0] w fun e w' => ∃ v0_ : Value, e = .returned (.tuple #[v0_, .int .i64 r2, .int .i64 r3]) ∧ Kd.R k48 48 w' w.heap.size (fun _ => True) v0_ r1 ∧ Below w.heap.size w w' := by
  have hu48 := Tryd.underlying48
  have HB := Aside0.mk (Below.refl w.heap.size w)
  have H : (if (a0.size : Int) > 65536 then (some (([] : List (S48)), 0, 5)) else (ontimeref05_Parse.l0 k a0 ([] : List (S48)) 1)) = some (r1, r2, r3) := h
  clear h
  by_cases c2 : (a0.size : Int) > 65536
  · rw [if_pos c2] at H
    have c2b0 : decide (65536 < (a0.size : Int)) = true := decide_eq_true c2
    have c2b1 : decide (65536 < a0.size) = true := decide_eq_true (by omega)
    clear c2
    simp only [Option.some.injEq, Prod.mk.injEq] at H
    obtain ⟨rfl, rfl, rfl⟩ := H
    go_enter Tryd.func17, Tryd.ntmps17
    go_wp2
    go_ret3
    exact ⟨_, by first | rfl | (simp [errW_none, errW_some] <;> rfl) | (simp [*, errW_none, errW_some] <;> rfl), by first | exact Kd.R_nil _ _ _ _ _ | exact Kd.N_nil _ _ _ _ _ | exact Kd.V_nil _ _ _ _ _ | exact Kd.Q_nil _ _ _ _ _ | exact Kd.S_nil _ _ _ _ _, by repeat (first | (with_reducible first | exact HB.out | apply below_alloc | apply pw_below_drewN | apply below_drew1) | exact HB.out)⟩
  · rw [if_neg c2] at H
    have c2b0 : decide (65536 < (a0.size : Int)) = false := decide_eq_false c2
    have c2b1 : decide (65536 < a0.size) = false := decide_eq_false (by omega)
    clear c2
    have H' := Aside0.mk H
    clear H
    go_enter Tryd.func17, Tryd.ntmps17
    go_wp2
    go_loopg [0, 5, 6] k (fun kq v0 v5 v6 w' => ∃ (x0_1 : ByteArray) (x5_1 : List (S48)) (x6_1 : Int), v0 = .string x0_1 ∧ v6 = .int .i64 x6_1 ∧ Aside0 (ontimeref05_Parse.l0 kq x0_1 x5_1 x6_1 = some (r1, r2, r3)) ∧ Aside0 (kq ≤ k) ∧ Aside0 (Kd.R k48 48 w' w.heap.size (fun _ => True) v5 x5_1) ∧ Aside0 (Below w.heap.size w w'))
    case atStart => exact ⟨(a0), (([] : List (S48))), (1), (by first | rfl | (simp; done) | (simp [*]; done)), (by first | rfl | (simp; done) | (simp [*]; done)), H', ⟨Nat.le_refl _⟩, ⟨by first | exact Kd.R_nil _ _ _ _ _ | exact Kd.N_nil _ _ _ _ _ | exact Kd.V_nil _ _ _ _ _ | exact Kd.Q_nil _ _ _ _ _ | exact Kd.S_nil _ _ _ _ _⟩, ⟨by repeat (first | (with_reducible first | exact HB.out | apply below_alloc | apply pw_below_drewN | apply below_drew1) | exact HB.out)⟩⟩
    case round =>
      clear H'
      try clear c1
      try clear c2
      try clear c2b0
      try clear c2b1
      try clear p2
      obtain ⟨x0_1, x5_1, x6_1, rfl, rfl, HA, HK1, HO_5, HB⟩ := hrel
      cases gk with
      | zero => exact absurd HA.out (by simp [ontimeref05_Parse.l0])
      | succ k1 =>
        have H := HA.out
        clear HA
        simp only [ontimeref05_Parse.l0] at H
        by_cases c3 : (x0_1.size : Int) > 0
        · rw [if_pos c3] at H
          have c3b0 : decide (0 < (x0_1.size : Int)) = true := decide_eq_true c3
          have c3b1 : decide (0 < x0_1.size) = true := decide_eq_true (by omega)
          clear c3
          have HC4 := Aside0.mk H
          clear H
          go_upto_block 2 with (fail)
          go_cut [7] (fun v7 wc => ∃ (kq : Nat) (x7_3 : Int), v7 = .int .i64 x7_3 ∧ Aside0 (ontimeref05_Parse.j2 kq x0_1 x5_1 x6_1 x7_3 = some (r1, r2, r3)) ∧ Aside0 (kq ≤ k1) ∧ Aside0 (Kd.R k48 48 wc w.heap.size (fun _ => True) u5 x5_1) ∧ Aside0 (Below w.heap.size w wc))
          case first =>
            have H := HC4.out
            clear HC4
            have H' := Aside0.mk H
            clear H
            go_wp2
            go_loopg [7] k1 (fun kq v7 w' => ∃ (x7_2 : Int), v7 = .int .i64 x7_2 ∧ Aside0 (ontimeref05_Parse.l1 kq x0_1 x5_1 x6_1 x7_2 = some (r1, r2, r3)) ∧ Aside0 (kq ≤ k1) ∧ Aside0 (Kd.R k48 48 w' w.heap.size (fun _ => True) u5 x5_1) ∧ Aside0 (Below w.heap.size w w'))
            case atStart => exact ⟨(0), (by first | rfl | (simp; done) | (simp [*]; done)), H', ⟨Nat.le_refl _⟩, ⟨by (with_reducible repeat (first | apply Kd.R_alloc | apply Kd.R_drewN | apply Kd.R_drew)); exact HO_5.out⟩, ⟨by repeat (first | (with_reducible first | exact HB.out | apply below_alloc | apply pw_below_drewN | apply below_drew1) | exact HB.out)⟩⟩
            case round =>
              clear H'
              try clear c1
              try clear c2
              try clear c2b0
              try clear c2b1
              try clear p2
              try clear c3
              try clear c3b0
              try clear c3b1
              try clear p2
              obtain ⟨x7_2, rfl, HA, HK2, HO_5, HB⟩ := hrel
              cases gk with
              | zero => exact absurd HA.out (by simp [ontimeref05_Parse.l1])
              | succ k2 =>
                have H := HA.out
                clear HA
                simp only [ontimeref05_Parse.l1] at H
                by_cases c5 : x7_2 < (x0_1.size : Int)
                · rw [if_pos c5] at H
                  have c5b0 : decide (x7_2 < (x0_1.size : Int)) = true := decide_eq_true c5
                  clear c5
                  (first | rw [c5b0] | (simp only [i64_w, i32_w]; rw [c5b0]) | skip)
                  by_cases c6 : 0 ≤ x7_2
                  · rw [if_pos c6] at H
                    have c6b0 : decide (0 ≤ x7_2) = true := decide_eq_true c6
                    clear c6
                    by_cases c8 : (bt x0_1 x7_2) = 10
                    · rw [if_pos c8] at H
                      have c8b0 : ((bt x0_1 x7_2) == 10) = true := beq_iff_eq.mpr c8
                      have c8b1 : ((bt x0_1 x7_2) != 10) = false := bne_eq_false_iff_eq.mpr c8
                      clear c8
                      have H' := Aside0.mk H
                      clear H
                      have p7 : 0 ≤ (x7_2 : Int) := of_decide_eq_true (by first | (with_reducible assumption) | assumption)
                      have q7 : x7_2 < (x0_1.size : Int) := of_decide_eq_true (by first | (with_reducible assumption) | assumption)
                      have hx7 := bt_at x0_1 x7_2
                      replace p7 := eq_true p7
                      replace q7 := eq_true q7
                      go_wp2
                      go_meet
                      case rel => exact ⟨_, (x7_2), (by first | rfl | (simp; done) | (simp [*]; done)), H', ⟨by have := HK1.out; have := HK2.out; first | omega | exact Nat.le_refl _⟩, ⟨by (with_reducible repeat (first | apply Kd.R_alloc | apply Kd.R_drewN | apply Kd.R_drew)); exact HO_5.out⟩, ⟨by repeat (first | (with_reducible first | exact HB.out | apply below_alloc | apply pw_below_drewN | apply below_drew1) | exact HB.out)⟩⟩
                    · rw [if_neg c8] at H
                      have c8b0 : ((bt x0_1 x7_2) == 10) = false := beq_eq_false_iff_ne.mpr c8
                      have c8b1 : ((bt x0_1 x7_2) != 10) = true := bne_iff_ne.mpr c8
                      have H' := Aside0.mk H
                      clear H
                      have p7 : 0 ≤ (x7_2 : Int) := of_decide_eq_true (by first | (with_reducible assumption) | assumption)
                      have q7 : x7_2 < (x0_1.size : Int) := of_decide_eq_true (by first | (with_reducible assumption) | assumption)
                      have hx7 := bt_at x0_1 x7_2
                      replace p7 := eq_true p7
                      replace q7 := eq_true q7
                      go_wp2
                      go_roundg k2
                      case measure => have := HK1.out; have := HK2.out; omega
                      case rel => exact ⟨(wrap64 (x7_2 + 1)), (by first | rfl | (simp; done) | (simp [*]; done)), H', ⟨by have := HK1.out; have := HK2.out; omega⟩, ⟨by (with_reducible repeat (first | apply Kd.R_alloc | apply Kd.R_drewN | apply Kd.R_drew)); exact HO_5.out⟩, ⟨by repeat (first | (with_reducible first | exact HB.out | apply below_alloc | apply pw_below_drewN | apply below_drew1) | exact HB.out)⟩⟩
                  · rw [if_neg c6] at H
                    exact absurd H (by simp)
                · rw [if_neg c5] at H
                  have c5b0 : decide (x7_2 < (x0_1.size : Int)) = false := decide_eq_false c5
                  clear c5
                  (first | rw [c5b0] | (simp only [i64_w, i32_w]; rw [c5b0]) | skip)
                  have H' := Aside0.mk H
                  clear H
                  go_wp2
                  go_meet
                  case rel => exact ⟨_, (x7_2), (by first | rfl | (simp; done) | (simp [*]; done)), H', ⟨by have := HK1.out; have := HK2.out; first | omega | exact Nat.le_refl _⟩, ⟨by (with_reducible repeat (first | apply Kd.R_alloc | apply Kd.R_drewN | apply Kd.R_drew)); exact HO_5.out⟩, ⟨by repeat (first | (with_reducible first | exact HB.out | apply below_alloc | apply pw_below_drewN | apply below_drew1) | exact HB.out)⟩⟩
          case rest =>
            clear HC4
            try clear c1
            try clear c2
            try clear c2b0
            try clear c2b1
            try clear p2
            try clear c3
            try clear c3b0
            try clear c3b1
            try clear c5
            try clear c5b0
            try clear c6
            try clear c6b0
            try clear p6
            try clear p7
            try clear q7
            try clear hx7
            try clear c8
            try clear c8b0
            try clear c8b1
            try clear p2
            try clear p7
            try clear q7
            obtain ⟨kq, x7_3, rfl, HA, HJ3, HO_5, HB⟩ := hcut
            cases kq with
            | zero => exact absurd HA.out (by simp [ontimeref05_Parse.j2])
            | succ kj3 =>
              have H := HA.out
              clear HA
              simp only [ontimeref05_Parse.j2] at H
              by_cases c9 : 0 ≤ x7_3
              · rw [if_pos c9] at H
                have c9b0 := eq_true c9
                have c9b1 : decide (0 ≤ x7_3) = true := decide_eq_true c9
                clear c9
                by_cases c10 : x7_3 ≤ (x0_1.size : Int)
                · rw [if_pos c10] at H
                  have c10b0 := eq_true c10
                  have c10b1 : decide (x7_3 ≤ (x0_1.size : Int)) = true := decide_eq_true c10
                  clear c10
                  replace H := Option.bind_eq_some_iff.mp H
                  obtain ⟨⟨t124, t125, t126, t127, t128, t129⟩, A110, H⟩ := H
                  replace H : (if t129 < 0 then (some (([] : List (S48)), x6_1, 3)) else (if t129 = 1 then (if (x5_1.length : Int) ≥ 4096 then (some (([] : List (S48)), x6_1, 5)) else (if x5_1.length < 3518437208883 then (if 0 ≤ (mn (wrap64 (x7_3 + 1)) (x0_1.size : Int)) then (if (mn (wrap64 (x7_3 + 1)) (x0_1.size : Int)) ≤ (x0_1.size : Int) then (ontimeref05_Parse.l0 kj3 (x0_1.extract ((mn (wrap64 (x7_3 + 1)) (x0_1.size : Int)) : Int).toNat x0_1.size) (x5_1 ++ [(⟨t124, t125, t126, t127, t128⟩ : S48)]) (wrap64 (x6_1 + 1))) else (none)) else (none)) else (none))) else (if 0 ≤ (mn (wrap64 (x7_3 + 1)) (x0_1.size : Int)) then (if (mn (wrap64 (x7_3 + 1)) (x0_1.size : Int)) ≤ (x0_1.size : Int) then (ontimeref05_Parse.l0 kj3 (x0_1.extract ((mn (wrap64 (x7_3 + 1)) (x0_1.size : Int)) : Int).toNat x0_1.size) x5_1 (wrap64 (x6_1 + 1))) else (none)) else (none)))) = some (r1, r2, r3) := H
                  have A11 := Aside0.mk A110
                  clear A110
                  by_cases c12 : t129 < 0
                  · rw [if_pos c12] at H
                    have c12b0 : decide (t129 < 0) = true := decide_eq_true c12
                    clear c12
                    simp only [Option.some.injEq, Prod.mk.injEq] at H
                    obtain ⟨rfl, rfl, rfl⟩ := H
                    go_wp2_with (first | ((with_reducible refine gate_callee (f := 36) rfl ?_); refine goesL_ (some 34) rfl rfl Tryd.func36 (by kernel_rfl) rfl #[.string (x0_1.extract 0 (x7_3 : Int).toNat)] rfl (by (try simp only [List.map_toArray, List.map_cons, List.map_nil]); first | done | rfl | (simp only [List.length_drop, List.length_take]; rfl)) ?_; (with_reducible refine (ontimeref05_Read.calls kj3 (x0_1.extract 0 (x7_3 : Int).toNat) t124 t125 t126 t127 t128 t129 _ A11.out).mono ?_); rintro e w13 ⟨rfl, hb⟩; refine ⟨_, rfl, ?_⟩; have n0_ := Aside0.mk (Kd.R_below (by (with_reducible repeat (first | apply Kd.R_alloc | apply Kd.R_drewN | apply Kd.R_drew)); exact HO_5.out) hb); have n1_ := Aside0.mk (below_step (by repeat (first | (with_reducible first | exact HB.out | apply below_alloc | apply pw_below_drewN | apply below_drew1) | exact HB.out)) hb); clear HO_5; clear HB; have HO_5 := n0_; have HB := n1_; clear n0_ n1_; (try clear hb); (try clear hb2); (try clear hk); (try clear hi)) | ((with_reducible refine gate_dst (N := 8) rfl ?_); refine box_event ?hg (N := 8) ?hd (cs := #[.int .u8 0, .int .i64 0, .int .i64 0, .int .i64 0, .int .i64 0]) (t := 48) ?hr ?_; (case hd => rfl); (case hg => rfl); (case hr => first | (go_simp; done) | (go_simp; rfl)); intro gb130 hg w14 hbox hb; have n0_ := Aside0.mk (Kd.R_below (Kd.R_elderB (by (with_reducible repeat (first | apply Kd.R_alloc | apply Kd.R_drewN | apply Kd.R_drew)); exact HO_5.out) gb130 (Nat.le_of_eq hg.symm)) hb); have n1_ := Aside0.mk (below_step (by repeat (first | (with_reducible first | exact HB.out | apply below_alloc | apply pw_below_drewN | apply below_drew1) | exact HB.out)) hb); have n2_ := Aside0.mk (hbox); have n3_ := Aside0.mk ((by rw [hg]; exact (below_size (by repeat (first | (with_reducible first | exact HB.out | apply below_alloc | apply pw_below_drewN | apply below_drew1) | exact HB.out))) : w.heap.size ≤ gb130)); have n4_ := Aside0.mk ((by rw [hg]; exact (below_size (by repeat (first | (with_reducible first | exact HB.out | apply below_alloc | apply pw_below_drewN | apply below_drew1) | exact HB.out))) : w.heap.size ≤ gb130)); clear HO_5; clear HB; have HO_5 := n0_; have HB := n1_; have BK130 := n2_; have GW130 := n3_; have GE130 := n4_; clear n0_ n1_ n2_ n3_ n4_; clear hb hbox hg; have hcz15_0 : w14.cell? ⟨gb130, 0, none⟩ = some (.int .u8 0) := (blk_cell BK130.out 0).trans rfl; have hcz15_1 : w14.cell? ⟨gb130, 1, none⟩ = some (.int .i64 0) := (blk_cell BK130.out 1).trans rfl; have hcz15_2 : w14.cell? ⟨gb130, 2, none⟩ = some (.int .i64 0) := (blk_cell BK130.out 2).trans rfl; have hcz15_3 : w14.cell? ⟨gb130, 3, none⟩ = some (.int .i64 0) := (blk_cell BK130.out 3).trans rfl; have hcz15_4 : w14.cell? ⟨gb130, 4, none⟩ = some (.int .i64 0) := (blk_cell BK130.out 4).trans rfl; have hfz15_0 := blk_frozen BK130.out 0; have hfz15_1 := blk_frozen BK130.out 1; have hfz15_2 := blk_frozen BK130.out 2; have hfz15_3 := blk_frozen BK130.out 3; have hfz15_4 := blk_frozen BK130.out 4))
                    go_ret3
                    exact ⟨_, by first | rfl | (simp [errW_none, errW_some] <;> rfl) | (simp [*, errW_none, errW_some] <;> rfl), by first | exact Kd.R_nil _ _ _ _ _ | exact Kd.N_nil _ _ _ _ _ | exact Kd.V_nil _ _ _ _ _ | exact Kd.Q_nil _ _ _ _ _ | exact Kd.S_nil _ _ _ _ _, by repeat (first | (with_reducible first | exact HB.out | apply below_alloc | apply pw_below_drewN | apply below_drew1 | refine below_set ?_ GE130.out) | exact HB.out)⟩
                  · rw [if_neg c12] at H
                    have c12b0 : decide (t129 < 0) = false := decide_eq_false c12
                    clear c12
                    by_cases c16 : t129 = 1
                    · rw [if_pos c16] at H
                      have c16b0 : (t129 == 1) = true := beq_iff_eq.mpr c16
                      have c16b1 : (t129 != 1) = false := bne_eq_false_iff_eq.mpr c16
                      clear c16
                      by_cases c17 : (x5_1.length : Int) ≥ 4096
                      · rw [if_pos c17] at H
                        have c17b0 : decide (4096 ≤ (x5_1.length : Int)) = true := decide_eq_true c17
                        have c17b1 : decide (4096 ≤ x5_1.length) = true := decide_eq_true (by omega)
                        clear c17
                        simp only [Option.some.injEq, Prod.mk.injEq] at H
                        obtain ⟨rfl, rfl, rfl⟩ := H
                        go_wp2_with (first | ((with_reducible refine gate_callee (f := 36) rfl ?_); refine goesL_ (some 34) rfl rfl Tryd.func36 (by kernel_rfl) rfl #[.string (x0_1.extract 0 (x7_3 : Int).toNat)] rfl (by (try simp only [List.map_toArray, List.map_cons, List.map_nil]); first | done | rfl | (simp only [List.length_drop, List.length_take]; rfl)) ?_; (with_reducible refine (ontimeref05_Read.calls kj3 (x0_1.extract 0 (x7_3 : Int).toNat) t124 t125 t126 t127 t128 t129 _ A11.out).mono ?_); rintro e w18 ⟨rfl, hb⟩; refine ⟨_, rfl, ?_⟩; have n0_ := Aside0.mk (Kd.R_below (by (with_reducible repeat (first | apply Kd.R_alloc | apply Kd.R_drewN | apply Kd.R_drew)); exact HO_5.out) hb); have n1_ := Aside0.mk (below_step (by repeat (first | (with_reducible first | exact HB.out | apply below_alloc | apply pw_below_drewN | apply below_drew1) | exact HB.out)) hb); clear HO_5; clear HB; have HO_5 := n0_; have HB := n1_; clear n0_ n1_; (try clear hb); (try clear hb2); (try clear hk); (try clear hi)) | ((with_reducible refine gate_dst (N := 8) rfl ?_); refine box_event ?hg (N := 8) ?hd (cs := #[.int .u8 0, .int .i64 0, .int .i64 0, .int .i64 0, .int .i64 0]) (t := 48) ?hr ?_; (case hd => rfl); (case hg => rfl); (case hr => first | (go_simp; done) | (go_simp; rfl)); intro gb130 hg w19 hbox hb; have n0_ := Aside0.mk (Kd.R_below (Kd.R_elderB (by (with_reducible repeat (first | apply Kd.R_alloc | apply Kd.R_drewN | apply Kd.R_drew)); exact HO_5.out) gb130 (Nat.le_of_eq hg.symm)) hb); have n1_ := Aside0.mk (below_step (by repeat (first | (with_reducible first | exact HB.out | apply below_alloc | apply pw_below_drewN | apply below_drew1) | exact HB.out)) hb); have n2_ := Aside0.mk (hbox); have n3_ := Aside0.mk ((by rw [hg]; exact (below_size (by repeat (first | (with_reducible first | exact HB.out | apply below_alloc | apply pw_below_drewN | apply below_drew1) | exact HB.out))) : w.heap.size ≤ gb130)); have n4_ := Aside0.mk ((by rw [hg]; exact (below_size (by repeat (first | (with_reducible first | exact HB.out | apply below_alloc | apply pw_below_drewN | apply below_drew1) | exact HB.out))) : w.heap.size ≤ gb130)); clear HO_5; clear HB; have HO_5 := n0_; have HB := n1_; have BK130 := n2_; have GW130 := n3_; have GE130 := n4_; clear n0_ n1_ n2_ n3_ n4_; clear hb hbox hg; have hcz20_0 : w19.cell? ⟨gb130, 0, none⟩ = some (.int .u8 0) := (blk_cell BK130.out 0).trans rfl; have hcz20_1 : w19.cell? ⟨gb130, 1, none⟩ = some (.int .i64 0) := (blk_cell BK130.out 1).trans rfl; have hcz20_2 : w19.cell? ⟨gb130, 2, none⟩ = some (.int .i64 0) := (blk_cell BK130.out 2).trans rfl; have hcz20_3 : w19.cell? ⟨gb130, 3, none⟩ = some (.int .i64 0) := (blk_cell BK130.out 3).trans rfl; have hcz20_4 : w19.cell? ⟨gb130, 4, none⟩ = some (.int .i64 0) := (blk_cell BK130.out 4).trans rfl; have hfz20_0 := blk_frozen BK130.out 0; have hfz20_1 := blk_frozen BK130.out 1; have hfz20_2 := blk_frozen BK130.out 2; have hfz20_3 := blk_frozen BK130.out 3; have hfz20_4 := blk_frozen BK130.out 4; obtain ⟨Ao21, co21, eo21⟩ := Kd.R_slice HO_5.out; subst eo21))
                        go_ret3
                        exact ⟨_, by first | rfl | (simp [errW_none, errW_some] <;> rfl) | (simp [*, errW_none, errW_some] <;> rfl), by first | exact Kd.R_nil _ _ _ _ _ | exact Kd.N_nil _ _ _ _ _ | exact Kd.V_nil _ _ _ _ _ | exact Kd.Q_nil _ _ _ _ _ | exact Kd.S_nil _ _ _ _ _, by repeat (first | (with_reducible first | exact HB.out | apply below_alloc | apply pw_below_drewN | apply below_drew1 | refine below_set ?_ GE130.out) | exact HB.out)⟩
                      · rw [if_neg c17] at H
                        have c17b0 : decide (4096 ≤ (x5_1.length : Int)) = false := decide_eq_false c17
                        have c17b1 : decide (4096 ≤ x5_1.length) = false := decide_eq_false (by omega)
                        clear c17
                        by_cases c22 : x5_1.length < 3518437208883
                        · rw [if_pos c22] at H
                          have LMc22 := Aside0.mk c22
                          clear c22
                          obtain ⟨y131, hy131⟩ : ∃ y_ : List (S48), y_ = (x5_1 ++ [(⟨t124, t125, t126, t127, t128⟩ : S48)]) := ⟨_, rfl⟩
                          replace H : (if 0 ≤ (mn (wrap64 (x7_3 + 1)) (x0_1.size : Int)) then (if (mn (wrap64 (x7_3 + 1)) (x0_1.size : Int)) ≤ (x0_1.size : Int) then (ontimeref05_Parse.l0 kj3 (x0_1.extract ((mn (wrap64 (x7_3 + 1)) (x0_1.size : Int)) : Int).toNat x0_1.size) y131 (wrap64 (x6_1 + 1))) else (none)) else (none)) = some (r1, r2, r3) := by first | (rw [hy131]; with_reducible exact H) | (have H2_ := (Option.bind_some _ _).symm.trans H; rw [hy131]; with_reducible exact H2_) | (have H2_ := (Option.bind_some _ _).symm.trans H; with_reducible exact H2_) | with_reducible exact H | (rw [hy131]; exact H) | exact H
                          have Ny131 := Aside0.mk hy131
                          clear hy131
                          obtain ⟨ji23, hji23⟩ : ∃ j_ : Int, (mn (wrap64 (x7_3 + 1)) (x0_1.size : Int)) = j_ := ⟨_, rfl⟩
                          replace H : (if 0 ≤ (ji23) then (if (ji23) ≤ (x0_1.size : Int) then (ontimeref05_Parse.l0 kj3 (x0_1.extract ((ji23) : Int).toNat x0_1.size) y131 (wrap64 (x6_1 + 1))) else (none)) else (none)) = some (r1, r2, r3) := by first | (rw [hji23] at H; exact H) | (simp only [hji23] at H ⊢; exact H)
                          (try rw [hji23] at A11)
                          have hji23_ : (if (x0_1.size : Int) < (wrap64 (x7_3 + 1)) then (x0_1.size : Int) else (wrap64 (x7_3 + 1))) = ji23 := hji23
                          by_cases c24 : 0 ≤ (ji23)
                          · rw [if_pos c24] at H
                            have c24b0 := eq_true c24
                            have c24b1 : decide (0 ≤ (ji23)) = true := decide_eq_true c24
                            clear c24
                            by_cases c25 : (ji23) ≤ (x0_1.size : Int)
                            · rw [if_pos c25] at H
                              have c25b0 := eq_true c25
                              have c25b1 : decide ((ji23) ≤ (x0_1.size : Int)) = true := decide_eq_true c25
                              clear c25
                              have H' := Aside0.mk H
                              clear H
                              go_wp2_with (first | ((with_reducible refine gate_callee (f := 36) rfl ?_); refine goesL_ (some 34) rfl rfl Tryd.func36 (by kernel_rfl) rfl #[.string (x0_1.extract 0 (x7_3 : Int).toNat)] rfl (by (try simp only [List.map_toArray, List.map_cons, List.map_nil]); first | done | rfl | (simp only [List.length_drop, List.length_take]; rfl)) ?_; (with_reducible refine (ontimeref05_Read.calls kj3 (x0_1.extract 0 (x7_3 : Int).toNat) t124 t125 t126 t127 t128 t129 _ A11.out).mono ?_); rintro e w26 ⟨rfl, hb⟩; refine ⟨_, rfl, ?_⟩; have n0_ := Aside0.mk (Kd.R_below (by (with_reducible repeat (first | apply Kd.R_alloc | apply Kd.R_drewN | apply Kd.R_drew)); exact HO_5.out) hb); have n1_ := Aside0.mk (below_step (by repeat (first | (with_reducible first | exact HB.out | apply below_alloc | apply pw_below_drewN | apply below_drew1) | exact HB.out)) hb); clear HO_5; clear HB; have HO_5 := n0_; have HB := n1_; clear n0_ n1_; (try clear hb); (try clear hb2); (try clear hk); (try clear hi)) | ((with_reducible refine gate_dst (N := 8) rfl ?_); refine box_event ?hg (N := 8) ?hd (cs := #[.int .u8 0, .int .i64 0, .int .i64 0, .int .i64 0, .int .i64 0]) (t := 48) ?hr ?_; (case hd => rfl); (case hg => rfl); (case hr => first | (go_simp; done) | (go_simp; rfl)); intro gb130 hg w27 hbox hb; have n0_ := Aside0.mk (Kd.R_below (Kd.R_elderB (by (with_reducible repeat (first | apply Kd.R_alloc | apply Kd.R_drewN | apply Kd.R_drew)); exact HO_5.out) gb130 (Nat.le_of_eq hg.symm)) hb); have n1_ := Aside0.mk (below_step (by repeat (first | (with_reducible first | exact HB.out | apply below_alloc | apply pw_below_drewN | apply below_drew1) | exact HB.out)) hb); have n2_ := Aside0.mk (hbox); have n3_ := Aside0.mk ((by rw [hg]; exact (below_size (by repeat (first | (with_reducible first | exact HB.out | apply below_alloc | apply pw_below_drewN | apply below_drew1) | exact HB.out))) : w.heap.size ≤ gb130)); have n4_ := Aside0.mk ((by rw [hg]; exact (below_size (by repeat (first | (with_reducible first | exact HB.out | apply below_alloc | apply pw_below_drewN | apply below_drew1) | exact HB.out))) : w.heap.size ≤ gb130)); clear HO_5; clear HB; have HO_5 := n0_; have HB := n1_; have BK130 := n2_; have GW130 := n3_; have GE130 := n4_; clear n0_ n1_ n2_ n3_ n4_; clear hb hbox hg; have hcz28_0 : w27.cell? ⟨gb130, 0, none⟩ = some (.int .u8 0) := (blk_cell BK130.out 0).trans rfl; have hcz28_1 : w27.cell? ⟨gb130, 1, none⟩ = some (.int .i64 0) := (blk_cell BK130.out 1).trans rfl; have hcz28_2 : w27.cell? ⟨gb130, 2, none⟩ = some (.int .i64 0) := (blk_cell BK130.out 2).trans rfl; have hcz28_3 : w27.cell? ⟨gb130, 3, none⟩ = some (.int .i64 0) := (blk_cell BK130.out 3).trans rfl; have hcz28_4 : w27.cell? ⟨gb130, 4, none⟩ = some (.int .i64 0) := (blk_cell BK130.out 4).trans rfl; have hfz28_0 := blk_frozen BK130.out 0; have hfz28_1 := blk_frozen BK130.out 1; have hfz28_2 := blk_frozen BK130.out 2; have hfz28_3 := blk_frozen BK130.out 3; have hfz28_4 := blk_frozen BK130.out 4; obtain ⟨Ao29, co29, eo29⟩ := Kd.R_slice HO_5.out; subst eo29) | ((with_reducible refine gate_builtin (b := .append) (xs := #[.tmp 46, .tmp 48]) rfl ?_); at_builtin; refine Kd.R_append k48 (w0 := w) w.heap.size rfl (.tmp 46) (.tmp 48) 22 48 (.agg #[(.int .u8 0), (.int .i64 0), (.int .i64 0), (.int .i64 0), (.int .i64 0)]) 40 rfl Tryd.underlying22 info48 rfl (by decide) (by omega) (.slice Ao29 x5_1.length co29) x5_1 (⟨t124, t125, t126, t127, t128⟩ : S48) [.int .u8 t124, .int .i64 t125, .int .i64 t126, .int .i64 t127, .int .i64 t128] (fun k_ => k_ ≠ gb130) (fun _ => False) rfl (by first | (go_simp; done) | (go_simp; rfl)) ?aP (fun _ hk => hk.elim) ?aF ?aO ?aB ?aS ?aL ?_; (case aP => exact k48_mkM _ _ _ (⟨t124, t125, t126, t127, t128⟩ : S48)); (case aB => exact (by repeat (first | (with_reducible first | exact HB.out | apply below_alloc | apply pw_below_drewN | apply below_drew1 | refine below_set ?_ GE130.out) | exact HB.out))); (case aF => exact (fun k_ hk => Kd.freshB (g := gb130) (o := .cells #[.int .u8 t124, .int .i64 t125, .int .i64 t126, .int .i64 t127, .int .i64 t128] 48 (0, 0)) (by (with_reducible repeat (first | refine blk_drewN ?_ _ | refine blk_drew ?_ | refine blk_alloc ?_ _)); refine blk_put (cs := #[.int .u8 t124, .int .i64 t125, .int .i64 t126, .int .i64 t127, .int .i64 0]) ?_ 4 _ rfl; (with_reducible repeat (first | refine blk_drewN ?_ _ | refine blk_drew ?_ | refine blk_alloc ?_ _)); refine blk_put (cs := #[.int .u8 t124, .int .i64 t125, .int .i64 t126, .int .i64 0, .int .i64 0]) ?_ 3 _ rfl; (with_reducible repeat (first | refine blk_drewN ?_ _ | refine blk_drew ?_ | refine blk_alloc ?_ _)); refine blk_put (cs := #[.int .u8 t124, .int .i64 t125, .int .i64 0, .int .i64 0, .int .i64 0]) ?_ 2 _ rfl; (with_reducible repeat (first | refine blk_drewN ?_ _ | refine blk_drew ?_ | refine blk_alloc ?_ _)); refine blk_put (cs := #[.int .u8 t124, .int .i64 0, .int .i64 0, .int .i64 0, .int .i64 0]) ?_ 1 _ rfl; (with_reducible repeat (first | refine blk_drewN ?_ _ | refine blk_drew ?_ | refine blk_alloc ?_ _)); refine blk_put (cs := #[.int .u8 0, .int .i64 0, .int .i64 0, .int .i64 0, .int .i64 0]) ?_ 0 _ rfl; (with_reducible repeat (first | refine blk_drewN ?_ _ | refine blk_drew ?_ | refine blk_alloc ?_ _)); exact BK130.out) k_ hk)); (case aO => exact (by (with_reducible repeat (first | apply Kd.R_alloc | apply Kd.R_drewN | apply Kd.R_drew)); exact Kd.R_mono (Kd.R_far (p := ⟨gb130, 4, none⟩) (Kd.R_far (p := ⟨gb130, 3, none⟩) (Kd.R_far (p := ⟨gb130, 2, none⟩) (Kd.R_far (p := ⟨gb130, 1, none⟩) (Kd.R_far (p := ⟨gb130, 0, none⟩) (Kd.R_mono HO_5.out (fun k_ hk => (⟨hk, hk.2⟩ : _ ∧ k_ ≠ gb130))) (fun _ hk => hk.2) (.int .u8 t124)) (fun _ hk => hk.2) (.int .i64 t125)) (fun _ hk => hk.2) (.int .i64 t126)) (fun _ hk => hk.2) (.int .i64 t127)) (fun _ hk => hk.2) (.int .i64 t128)) (fun _ hk => hk.1.2))); (case aS => exact (below_size (by repeat (first | (with_reducible first | exact HB.out | apply below_alloc | apply pw_below_drewN | apply below_drew1 | refine below_set ?_ GE130.out) | exact HB.out)))); (case aL => have := LMc22.out; omega); intro v132 w30 ho hb hg hat; rw [← Ny131.out] at ho; have n0_ := Aside0.mk (blk_grown (g := gb130) (o := .cells #[.int .u8 t124, .int .i64 t125, .int .i64 t126, .int .i64 t127, .int .i64 t128] 48 (0, 0)) (by (with_reducible repeat (first | refine blk_drewN ?_ _ | refine blk_drew ?_ | refine blk_alloc ?_ _)); refine blk_put (cs := #[.int .u8 t124, .int .i64 t125, .int .i64 t126, .int .i64 t127, .int .i64 0]) ?_ 4 _ rfl; (with_reducible repeat (first | refine blk_drewN ?_ _ | refine blk_drew ?_ | refine blk_alloc ?_ _)); refine blk_put (cs := #[.int .u8 t124, .int .i64 t125, .int .i64 t126, .int .i64 0, .int .i64 0]) ?_ 3 _ rfl; (with_reducible repeat (first | refine blk_drewN ?_ _ | refine blk_drew ?_ | refine blk_alloc ?_ _)); refine blk_put (cs := #[.int .u8 t124, .int .i64 t125, .int .i64 0, .int .i64 0, .int .i64 0]) ?_ 2 _ rfl; (with_reducible repeat (first | refine blk_drewN ?_ _ | refine blk_drew ?_ | refine blk_alloc ?_ _)); refine blk_put (cs := #[.int .u8 t124, .int .i64 0, .int .i64 0, .int .i64 0, .int .i64 0]) ?_ 1 _ rfl; (with_reducible repeat (first | refine blk_drewN ?_ _ | refine blk_drew ?_ | refine blk_alloc ?_ _)); refine blk_put (cs := #[.int .u8 0, .int .i64 0, .int .i64 0, .int .i64 0, .int .i64 0]) ?_ 0 _ rfl; (with_reducible repeat (first | refine blk_drewN ?_ _ | refine blk_drew ?_ | refine blk_alloc ?_ _)); exact BK130.out) hg (Kd.R_away HO_5.out (fun _ hk => hk.2))); have n1_ := Aside0.mk (hb); have n2_ := Aside0.mk (ho); clear BK130; clear HB; clear HO_5; have BK130 := n0_; have HB := n1_; have HO133 := n2_; clear n0_ n1_ n2_; clear ho hb hg hat))
                              go_roundg kj3
                              case measure => have := HK1.out; have := HJ3.out; omega
                              case rel => exact ⟨(x0_1.extract ((ji23) : Int).toNat x0_1.size), (y131), (wrap64 (x6_1 + 1)), (by first | rfl | (simp; done) | (simp only [← hji23] <;> (first | rfl | simp)) | (simp [*]; done)), (by first | rfl | (simp; done) | (simp [*]; done)), H', ⟨by have := HK1.out; have := HJ3.out; omega⟩, ⟨by (with_reducible repeat (first | apply Kd.R_alloc | apply Kd.R_drewN | apply Kd.R_drew)); exact Kd.R_mono HO133.out (fun _ hk => trivial)⟩, ⟨by repeat (first | (with_reducible first | exact HB.out | apply below_alloc | apply pw_below_drewN | apply below_drew1 | refine below_set ?_ GE130.out) | exact HB.out)⟩⟩
                            · rw [if_neg c25] at H
                              exact absurd H (by simp)
                          · rw [if_neg c24] at H
                            exact absurd H (by simp)
                        · rw [if_neg c22] at H
                          exact absurd H (by simp)
                    · rw [if_neg c16] at H
                      have c16b0 : (t129 == 1) = false := beq_eq_false_iff_ne.mpr c16
                      have c16b1 : (t129 != 1) = true := bne_iff_ne.mpr c16
                      obtain ⟨ji31, hji31⟩ : ∃ j_ : Int, (mn (wrap64 (x7_3 + 1)) (x0_1.size : Int)) = j_ := ⟨_, rfl⟩
                      replace H : (if 0 ≤ (ji31) then (if (ji31) ≤ (x0_1.size : Int) then (ontimeref05_Parse.l0 kj3 (x0_1.extract ((ji31) : Int).toNat x0_1.size) x5_1 (wrap64 (x6_1 + 1))) else (none)) else (none)) = some (r1, r2, r3) := by first | (rw [hji31] at H; exact H) | (simp only [hji31] at H ⊢; exact H)
                      (try rw [hji31] at A11)
                      have hji31_ : (if (x0_1.size : Int) < (wrap64 (x7_3 + 1)) then (x0_1.size : Int) else (wrap64 (x7_3 + 1))) = ji31 := hji31
                      by_cases c32 : 0 ≤ (ji31)
                      · rw [if_pos c32] at H
                        have c32b0 := eq_true c32
                        have c32b1 : decide (0 ≤ (ji31)) = true := decide_eq_true c32
                        clear c32
                        by_cases c33 : (ji31) ≤ (x0_1.size : Int)
                        · rw [if_pos c33] at H
                          have c33b0 := eq_true c33
                          have c33b1 : decide ((ji31) ≤ (x0_1.size : Int)) = true := decide_eq_true c33
                          clear c33
                          have H' := Aside0.mk H
                          clear H
                          go_wp2_with (first | ((with_reducible refine gate_callee (f := 36) rfl ?_); refine goesL_ (some 34) rfl rfl Tryd.func36 (by kernel_rfl) rfl #[.string (x0_1.extract 0 (x7_3 : Int).toNat)] rfl (by (try simp only [List.map_toArray, List.map_cons, List.map_nil]); first | done | rfl | (simp only [List.length_drop, List.length_take]; rfl)) ?_; (with_reducible refine (ontimeref05_Read.calls kj3 (x0_1.extract 0 (x7_3 : Int).toNat) t124 t125 t126 t127 t128 t129 _ A11.out).mono ?_); rintro e w34 ⟨rfl, hb⟩; refine ⟨_, rfl, ?_⟩; have n0_ := Aside0.mk (Kd.R_below (by (with_reducible repeat (first | apply Kd.R_alloc | apply Kd.R_drewN | apply Kd.R_drew)); exact HO_5.out) hb); have n1_ := Aside0.mk (below_step (by repeat (first | (with_reducible first | exact HB.out | apply below_alloc | apply pw_below_drewN | apply below_drew1) | exact HB.out)) hb); clear HO_5; clear HB; have HO_5 := n0_; have HB := n1_; clear n0_ n1_; (try clear hb); (try clear hb2); (try clear hk); (try clear hi)) | ((with_reducible refine gate_dst (N := 8) rfl ?_); refine box_event ?hg (N := 8) ?hd (cs := #[.int .u8 0, .int .i64 0, .int .i64 0, .int .i64 0, .int .i64 0]) (t := 48) ?hr ?_; (case hd => rfl); (case hg => rfl); (case hr => first | (go_simp; done) | (go_simp; rfl)); intro gb130 hg w35 hbox hb; have n0_ := Aside0.mk (Kd.R_below (Kd.R_elderB (by (with_reducible repeat (first | apply Kd.R_alloc | apply Kd.R_drewN | apply Kd.R_drew)); exact HO_5.out) gb130 (Nat.le_of_eq hg.symm)) hb); have n1_ := Aside0.mk (below_step (by repeat (first | (with_reducible first | exact HB.out | apply below_alloc | apply pw_below_drewN | apply below_drew1) | exact HB.out)) hb); have n2_ := Aside0.mk (hbox); have n3_ := Aside0.mk ((by rw [hg]; exact (below_size (by repeat (first | (with_reducible first | exact HB.out | apply below_alloc | apply pw_below_drewN | apply below_drew1) | exact HB.out))) : w.heap.size ≤ gb130)); have n4_ := Aside0.mk ((by rw [hg]; exact (below_size (by repeat (first | (with_reducible first | exact HB.out | apply below_alloc | apply pw_below_drewN | apply below_drew1) | exact HB.out))) : w.heap.size ≤ gb130)); clear HO_5; clear HB; have HO_5 := n0_; have HB := n1_; have BK130 := n2_; have GW130 := n3_; have GE130 := n4_; clear n0_ n1_ n2_ n3_ n4_; clear hb hbox hg; have hcz36_0 : w35.cell? ⟨gb130, 0, none⟩ = some (.int .u8 0) := (blk_cell BK130.out 0).trans rfl; have hcz36_1 : w35.cell? ⟨gb130, 1, none⟩ = some (.int .i64 0) := (blk_cell BK130.out 1).trans rfl; have hcz36_2 : w35.cell? ⟨gb130, 2, none⟩ = some (.int .i64 0) := (blk_cell BK130.out 2).trans rfl; have hcz36_3 : w35.cell? ⟨gb130, 3, none⟩ = some (.int .i64 0) := (blk_cell BK130.out 3).trans rfl; have hcz36_4 : w35.cell? ⟨gb130, 4, none⟩ = some (.int .i64 0) := (blk_cell BK130.out 4).trans rfl; have hfz36_0 := blk_frozen BK130.out 0; have hfz36_1 := blk_frozen BK130.out 1; have hfz36_2 := blk_frozen BK130.out 2; have hfz36_3 := blk_frozen BK130.out 3; have hfz36_4 := blk_frozen BK130.out 4))
                          go_roundg kj3
                          case measure => have := HK1.out; have := HJ3.out; omega
                          case rel => exact ⟨(x0_1.extract ((ji31) : Int).toNat x0_1.size), (x5_1), (wrap64 (x6_1 + 1)), (by first | rfl | (simp; done) | (simp only [← hji31] <;> (first | rfl | simp)) | (simp [*]; done)), (by first | rfl | (simp; done) | (simp [*]; done)), H', ⟨by have := HK1.out; have := HJ3.out; omega⟩, ⟨by (with_reducible repeat (first | apply Kd.R_alloc | apply Kd.R_drewN | apply Kd.R_drew)); exact Kd.R_mono (Kd.R_far (p := ⟨gb130, 4, none⟩) (Kd.R_far (p := ⟨gb130, 3, none⟩) (Kd.R_far (p := ⟨gb130, 2, none⟩) (Kd.R_far (p := ⟨gb130, 1, none⟩) (Kd.R_far (p := ⟨gb130, 0, none⟩) (Kd.R_mono HO_5.out (fun k_ hk => (⟨hk, hk.2⟩ : _ ∧ k_ ≠ gb130))) (fun _ hk => hk.2) (.int .u8 t124)) (fun _ hk => hk.2) (.int .i64 t125)) (fun _ hk => hk.2) (.int .i64 t126)) (fun _ hk => hk.2) (.int .i64 t127)) (fun _ hk => hk.2) (.int .i64 t128)) (fun _ hk => trivial)⟩, ⟨by repeat (first | (with_reducible first | exact HB.out | apply below_alloc | apply pw_below_drewN | apply below_drew1 | refine below_set ?_ GE130.out) | exact HB.out)⟩⟩
                        · rw [if_neg c33] at H
                          exact absurd H (by simp)
                      · rw [if_neg c32] at H
                        exact absurd H (by simp)
                · rw [if_neg c10] at H
                  exact absurd H (by simp)
              · rw [if_neg c9] at H
                exact absurd H (by simp)
        · rw [if_neg c3] at H
          have c3b0 : decide (0 < (x0_1.size : Int)) = false := decide_eq_false c3
          have c3b1 : decide (0 < x0_1.size) = false := decide_eq_false (by omega)
          clear c3
          simp only [Option.some.injEq, Prod.mk.injEq] at H
          obtain ⟨rfl, rfl, rfl⟩ := H
          go_wp2
          go_ret3
          exact ⟨_, by first | rfl | (simp [errW_none, errW_some] <;> rfl) | (simp [*, errW_none, errW_some] <;> rfl), by (with_reducible repeat (first | apply Kd.R_alloc | apply Kd.R_drewN | apply Kd.R_drew)); exact HO_5.out, by repeat (first | (with_reducible first | exact HB.out | apply below_alloc | apply pw_below_drewN | apply below_drew1) | exact HB.out)⟩

end Go.Proofs.YtmgafakahbanaaaDoor.Pa
