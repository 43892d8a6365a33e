-- Lines by a program of this session's (wip/gprint.py over the kit's printing program): the walks of plain functions. Not trusted: Lean checks it.
import Derived.Test.YtmgafakahbanaaaDoorPbx0
namespace Go.Proofs.YtmgafakahbanaaaDoor.Pa
open Go.RowKit Go.Proofs.YtmgafakahbanaaaDoorW.PrintWords Go.Proofs.YtmgafakahbanaaaDoorW.PrintLast Go.Proofs.YtmgafakahbanaaaDoorW.PrintMore
attribute [local go_sem] max2_int min2_int max_two min_two max_three min_three max_four min_four   -- for this text's walks alone
set_option linter.unusedVariables false
set_option linter.unusedSimpArgs false

/-! ### ontimeref05_Read: function 36 -/
mutual
def ontimeref05_Read.j1 : Nat → ByteArray → Option (Int × Int × Int × Int × Int × Int)
  | 0, _ => none
  | k + 1, x0 => (ontimeref05_words.f k x0).bind fun t107 => (if (t107.length : Int) = 0 then (some (0, 0, 0, 0, 0, 0)) else ((ontimeref05_Names.f).bind fun t110 => (ontimeref05_Read.l1 k t107 t110 0)))
def ontimeref05_Read.l1 : Nat → List ByteArray → List ByteArray → Int → Option (Int × Int × Int × Int × Int × Int)
  | 0, _, _, _ => none
  | k + 1, x5, x6, x7 => if x7 < (x6.length : Int) then (if 0 ≤ x7 then (if 0 < (x5.length : Int) then (if (rdOf ByteArray.empty x6 x7).toList = (rdOf ByteArray.empty x5 0).toList then ((ontimeref05_Shape.f k ((x7) % 256)).bind fun t115 => (if (x5.length : Int) = (wrap64 ((t115.size : Int) + 1)) then (ontimeref05_Read.l2 k x5 t115 0 ((x7) % 256) 0 0 0 0) else (some (0, 0, 0, 0, 0, (-1))))) else (ontimeref05_Read.l1 k x5 x6 (wrap64 (x7 + 1)))) else (none)) else (none)) else (some (0, 0, 0, 0, 0, (-1)))
def ontimeref05_Read.l2 : Nat → List ByteArray → ByteArray → Int → Int → Int → Int → Int → Int → Option (Int × Int × Int × Int × Int × Int)
  | 0, _, _, _, _, _, _, _, _ => none
  | k + 1, x5, x8, x10, x117000, x117001, x117002, x117003, x117004 => if x10 < (x8.size : Int) then (if 0 ≤ (wrap64 (x10 + 1)) then (if (wrap64 (x10 + 1)) < (x5.length : Int) then ((ontimeref05_register.f k (rdOf ByteArray.empty x5 (wrap64 (x10 + 1)))).bind fun bt119 => (if 0 ≤ x10 then (if (bt x8 x10) = 105 then ((ontimeref05_number.f k (rdOf ByteArray.empty x5 (wrap64 (x10 + 1)))).bind fun bt122 => (ontimeref05_Read.j4 k x5 x8 x10 bt122.1 bt122.2 x117000 x117001 x117002 x117003 x117004)) else (ontimeref05_Read.j4 k x5 x8 x10 bt119.1 bt119.2 x117000 x117001 x117002 x117003 x117004)) else (none))) else (none)) else (none)) else ((ontimeref04_Valid.f x117000 x117001 x117002 x117003 x117004).bind fun t117 => (if t117 = true then (some (x117000, x117001, x117002, x117003, x117004, 1)) else (some (0, 0, 0, 0, 0, (-1)))))
def ontimeref05_Read.j4 : Nat → List ByteArray → ByteArray → Int → Int → Bool → Int → Int → Int → Int → Int → Option (Int × Int × Int × Int × Int × Int)
  | 0, _, _, _, _, _, _, _, _, _, _ => none
  | k + 1, x5, x8, x10, x11, x12, x117000, x117001, x117002, x117003, x117004 => if x12 = true then (if 0 ≤ x10 then (if x10 < (x8.size : Int) then (if (bt x8 x10) = 97 then (ontimeref05_Read.l2 k x5 x8 (wrap64 (x10 + 1)) x117000 x11 x117002 x117003 x117004) else (if (bt x8 x10) = 98 then (ontimeref05_Read.l2 k x5 x8 (wrap64 (x10 + 1)) x117000 x117001 x11 x117003 x117004) else (if (bt x8 x10) = 99 then (ontimeref05_Read.l2 k x5 x8 (wrap64 (x10 + 1)) x117000 x117001 x117002 x11 x117004) else (ontimeref05_Read.l2 k x5 x8 (wrap64 (x10 + 1)) x117000 x117001 x117002 x117003 x11)))) else (none)) else (none)) else (some (0, 0, 0, 0, 0, (-1)))
def ontimeref05_Read.l0 : Nat → ByteArray → Int → Option (Int × Int × Int × Int × Int × Int)
  | 0, _, _ => none
  | k + 1, x0, x4 => if x4 < (x0.size : Int) then (if 0 ≤ x4 then (if (bt x0 x4) = 59 then (if x4 ≤ (x0.size : Int) then (ontimeref05_Read.j1 k (x0.extract 0 (x4 : Int).toNat)) else (none)) else (ontimeref05_Read.l0 k x0 (wrap64 (x4 + 1)))) else (none)) else (ontimeref05_Read.j1 k x0)
end
def ontimeref05_Read.f (k : Nat) (a0 : ByteArray) : Option (Int × Int × Int × Int × Int × Int) := ontimeref05_Read.l0 k a0 0
theorem ontimeref05_Read.mono_l : ∀ k, (∀ y0, LeO (ontimeref05_Read.j1 k y0) (ontimeref05_Read.j1 (k + 1) y0)) ∧ (∀ y0 y1 y2, LeO (ontimeref05_Read.l1 k y0 y1 y2) (ontimeref05_Read.l1 (k + 1) y0 y1 y2)) ∧ (∀ y0 y1 y2 y3 y4 y5 y6 y7, LeO (ontimeref05_Read.l2 k y0 y1 y2 y3 y4 y5 y6 y7) (ontimeref05_Read.l2 (k + 1) y0 y1 y2 y3 y4 y5 y6 y7)) ∧ (∀ y0 y1 y2 y3 y4 y5 y6 y7 y8 y9, LeO (ontimeref05_Read.j4 k y0 y1 y2 y3 y4 y5 y6 y7 y8 y9) (ontimeref05_Read.j4 (k + 1) y0 y1 y2 y3 y4 y5 y6 y7 y8 y9)) ∧ (∀ y0 y1, LeO (ontimeref05_Read.l0 k y0 y1) (ontimeref05_Read.l0 (k + 1) y0 y1))
  | 0 => ⟨fun _ r h => by simp [ontimeref05_Read.j1] at h, fun _ _ _ r h => by simp [ontimeref05_Read.l1] at h, fun _ _ _ _ _ _ _ _ r h => by simp [ontimeref05_Read.l2] at h, fun _ _ _ _ _ _ _ _ _ _ r h => by simp [ontimeref05_Read.j4] at h, fun _ _ r h => by simp [ontimeref05_Read.l0] at h⟩
  | k + 1 => by
    obtain ⟨ih0, ih1, ih2, ih3, ih4⟩ := ontimeref05_Read.mono_l k
    refine ⟨?_, ?_, ?_, ?_, ?_⟩
    · intro y0
      unfold ontimeref05_Read.j1
      repeat' first
      | (with_reducible exact ih0 _)
      | (with_reducible exact ih1 _ _ _)
      | (with_reducible exact ih2 _ _ _ _ _ _ _ _)
      | (with_reducible exact ih3 _ _ _ _ _ _ _ _ _ _)
      | (with_reducible exact ih4 _ _)
      | (with_reducible exact ontimeref05_Shape.mono _ _)
      | (with_reducible exact ontimeref05_number.mono _ _)
      | (with_reducible exact ontimeref05_register.mono _ _)
      | (with_reducible exact ontimeref05_words.mono _ _)
      | (with_reducible exact LeO.refl _)
      | (with_reducible exact LeO.none _)
      | (with_reducible refine LeO.ite ?_ ?_)
      | (with_reducible refine LeO.bind ?_ (fun _ => ?_))
      | exact ih0 _
      | exact ih1 _ _ _
      | exact ih2 _ _ _ _ _ _ _ _
      | exact ih3 _ _ _ _ _ _ _ _ _ _
      | exact ih4 _ _
      | exact ontimeref05_Shape.mono _ _
      | exact ontimeref05_number.mono _ _
      | exact ontimeref05_register.mono _ _
      | exact ontimeref05_words.mono _ _
      | exact LeO.none _
      | refine LeO.ite ?_ ?_
      | refine LeO.bind ?_ (fun _ => ?_)
    · intro y0 y1 y2
      unfold ontimeref05_Read.l1
      repeat' first
      | (with_reducible exact ih0 _)
      | (with_reducible exact ih1 _ _ _)
      | (with_reducible exact ih2 _ _ _ _ _ _ _ _)
      | (with_reducible exact ih3 _ _ _ _ _ _ _ _ _ _)
      | (with_reducible exact ih4 _ _)
      | (with_reducible exact ontimeref05_Shape.mono _ _)
      | (with_reducible exact ontimeref05_number.mono _ _)
      | (with_reducible exact ontimeref05_register.mono _ _)
      | (with_reducible exact ontimeref05_words.mono _ _)
      | (with_reducible exact LeO.refl _)
      | (with_reducible exact LeO.none _)
      | (with_reducible refine LeO.ite ?_ ?_)
      | (with_reducible refine LeO.bind ?_ (fun _ => ?_))
      | exact ih0 _
      | exact ih1 _ _ _
      | exact ih2 _ _ _ _ _ _ _ _
      | exact ih3 _ _ _ _ _ _ _ _ _ _
      | exact ih4 _ _
      | exact ontimeref05_Shape.mono _ _
      | exact ontimeref05_number.mono _ _
      | exact ontimeref05_register.mono _ _
      | exact ontimeref05_words.mono _ _
      | exact LeO.none _
      | refine LeO.ite ?_ ?_
      | refine LeO.bind ?_ (fun _ => ?_)
    · intro y0 y1 y2 y3 y4 y5 y6 y7
      unfold ontimeref05_Read.l2
      repeat' first
      | (with_reducible exact ih0 _)
      | (with_reducible exact ih1 _ _ _)
      | (with_reducible exact ih2 _ _ _ _ _ _ _ _)
      | (with_reducible exact ih3 _ _ _ _ _ _ _ _ _ _)
      | (with_reducible exact ih4 _ _)
      | (with_reducible exact ontimeref05_Shape.mono _ _)
      | (with_reducible exact ontimeref05_number.mono _ _)
      | (with_reducible exact ontimeref05_register.mono _ _)
      | (with_reducible exact ontimeref05_words.mono _ _)
      | (with_reducible exact LeO.refl _)
      | (with_reducible exact LeO.none _)
      | (with_reducible refine LeO.ite ?_ ?_)
      | (with_reducible refine LeO.bind ?_ (fun _ => ?_))
      | exact ih0 _
      | exact ih1 _ _ _
      | exact ih2 _ _ _ _ _ _ _ _
      | exact ih3 _ _ _ _ _ _ _ _ _ _
      | exact ih4 _ _
      | exact ontimeref05_Shape.mono _ _
      | exact ontimeref05_number.mono _ _
      | exact ontimeref05_register.mono _ _
      | exact ontimeref05_words.mono _ _
      | exact LeO.none _
      | refine LeO.ite ?_ ?_
      | refine LeO.bind ?_ (fun _ => ?_)
    · intro y0 y1 y2 y3 y4 y5 y6 y7 y8 y9
      unfold ontimeref05_Read.j4
      repeat' first
      | (with_reducible exact ih0 _)
      | (with_reducible exact ih1 _ _ _)
      | (with_reducible exact ih2 _ _ _ _ _ _ _ _)
      | (with_reducible exact ih3 _ _ _ _ _ _ _ _ _ _)
      | (with_reducible exact ih4 _ _)
      | (with_reducible exact ontimeref05_Shape.mono _ _)
      | (with_reducible exact ontimeref05_number.mono _ _)
      | (with_reducible exact ontimeref05_register.mono _ _)
      | (with_reducible exact ontimeref05_words.mono _ _)
      | (with_reducible exact LeO.refl _)
      | (with_reducible exact LeO.none _)
      | (with_reducible refine LeO.ite ?_ ?_)
      | (with_reducible refine LeO.bind ?_ (fun _ => ?_))
      | exact ih0 _
      | exact ih1 _ _ _
      | exact ih2 _ _ _ _ _ _ _ _
      | exact ih3 _ _ _ _ _ _ _ _ _ _
      | exact ih4 _ _
      | exact ontimeref05_Shape.mono _ _
      | exact ontimeref05_number.mono _ _
      | exact ontimeref05_register.mono _ _
      | exact ontimeref05_words.mono _ _
      | exact LeO.none _
      | refine LeO.ite ?_ ?_
      | refine LeO.bind ?_ (fun _ => ?_)
    · intro y0 y1
      unfold ontimeref05_Read.l0
      repeat' first
      | (with_reducible exact ih0 _)
      | (with_reducible exact ih1 _ _ _)
      | (with_reducible exact ih2 _ _ _ _ _ _ _ _)
      | (with_reducible exact ih3 _ _ _ _ _ _ _ _ _ _)
      | (with_reducible exact ih4 _ _)
      | (with_reducible exact ontimeref05_Shape.mono _ _)
      | (with_reducible exact ontimeref05_number.mono _ _)
      | (with_reducible exact ontimeref05_register.mono _ _)
      | (with_reducible exact ontimeref05_words.mono _ _)
      | (with_reducible exact LeO.refl _)
      | (with_reducible exact LeO.none _)
      | (with_reducible refine LeO.ite ?_ ?_)
      | (with_reducible refine LeO.bind ?_ (fun _ => ?_))
      | exact ih0 _
      | exact ih1 _ _ _
      | exact ih2 _ _ _ _ _ _ _ _
      | exact ih3 _ _ _ _ _ _ _ _ _ _
      | exact ih4 _ _
      | exact ontimeref05_Shape.mono _ _
      | exact ontimeref05_number.mono _ _
      | exact ontimeref05_register.mono _ _
      | exact ontimeref05_words.mono _ _
      | exact LeO.none _
      | refine LeO.ite ?_ ?_
      | refine LeO.bind ?_ (fun _ => ?_)
theorem ontimeref05_Read.mono : ∀ a0 k, LeO (ontimeref05_Read.f k a0) (ontimeref05_Read.f (k + 1) a0) := by
  intro a0 k
  obtain ⟨ih0, ih1, ih2, ih3, ih4⟩ := ontimeref05_Read.mono_l k
  unfold ontimeref05_Read.f
  repeat' first
      | (with_reducible exact ih0 _)
      | (with_reducible exact ih1 _ _ _)
      | (with_reducible exact ih2 _ _ _ _ _ _ _ _)
      | (with_reducible exact ih3 _ _ _ _ _ _ _ _ _ _)
      | (with_reducible exact ih4 _ _)
      | (with_reducible exact ontimeref05_Shape.mono _ _)
      | (with_reducible exact ontimeref05_number.mono _ _)
      | (with_reducible exact ontimeref05_register.mono _ _)
      | (with_reducible exact ontimeref05_words.mono _ _)
      | (with_reducible exact LeO.refl _)
      | (with_reducible exact LeO.none _)
      | (with_reducible refine LeO.ite ?_ ?_)
      | (with_reducible refine LeO.bind ?_ (fun _ => ?_))
      | exact ih0 _
      | exact ih1 _ _ _
      | exact ih2 _ _ _ _ _ _ _ _
      | exact ih3 _ _ _ _ _ _ _ _ _ _
      | exact ih4 _ _
      | exact ontimeref05_Shape.mono _ _
      | exact ontimeref05_number.mono _ _
      | exact ontimeref05_register.mono _ _
      | exact ontimeref05_words.mono _ _
      | exact LeO.none _
      | refine LeO.ite ?_ ?_
      | refine LeO.bind ?_ (fun _ => ?_)
set_option maxHeartbeats 8000000 in
set_option maxRecDepth 100000 in
theorem ontimeref05_Read.calls (k : Nat) (a0 : ByteArray) (r1 : Int) (r2 : Int) (r3 : Int) (r4 : Int) (r5 : Int) (r6 : Int) (w : World) (h : ontimeref05_Read.f k a0 = some (r1, r2, r3, r4, r5, r6)) :
    Calls Tryd.prog 36 #[.string a0] w fun e w' => e = .returned (.tuple #[.agg #[.int .u8 r1, .int .i64 r2, .int .i64 r3, .int .i64 r4, .int .i64 r5], .int .i64 r6]) ∧ Below w.heap.size w w' := by
  have hu48 := Tryd.underlying48
  have HB := Aside0.mk (Below.refl w.heap.size w)
  have H : (ontimeref05_Read.l0 k a0 0) = some (r1, r2, r3, r4, r5, r6) := h
  clear h
  have HC2 := Aside0.mk H
  clear H
  go_enter Tryd.func36, Tryd.ntmps36
  go_upto_block 0 with (first | ((with_reducible refine gate_dst (N := 2) rfl ?_); refine box_event ?hg (N := 2) ?hd (cs := #[.int .u8 0, .int .i64 0, .int .i64 0, .int .i64 0, .int .i64 0]) (t := 48) ?hr ?_; (case hd => rfl); (case hg => rfl); (case hr => first | (go_simp; done) | (go_simp; rfl)); intro gb106 hg w3 hbox hb; have n0_ := Aside0.mk (below_step (by repeat (first | (with_reducible first | exact HB.out | apply below_alloc | apply pw_below_drewN | apply below_drew1) | exact HB.out)) hb); have n1_ := Aside0.mk (hbox); have n2_ := Aside0.mk ((by rw [hg]; exact (below_size (by repeat (first | (with_reducible first | exact HB.out | apply below_alloc | apply pw_below_drewN | apply below_drew1) | exact HB.out))) : w.heap.size ≤ gb106)); have n3_ := Aside0.mk ((by rw [hg]; exact (below_size (by repeat (first | (with_reducible first | exact HB.out | apply below_alloc | apply pw_below_drewN | apply below_drew1) | exact HB.out))) : w.heap.size ≤ gb106)); clear HB; have HB := n0_; have BK106 := n1_; have GW106 := n2_; have GE106 := n3_; clear n0_ n1_ n2_ n3_; clear hb hbox hg))
  repeat (go_quiet (first | ((with_reducible refine gate_dst (N := 2) rfl ?_); refine box_event ?hg (N := 2) ?hd (cs := #[.int .u8 0, .int .i64 0, .int .i64 0, .int .i64 0, .int .i64 0]) (t := 48) ?hr ?_; (case hd => rfl); (case hg => rfl); (case hr => first | (go_simp; done) | (go_simp; rfl)); intro gb106 hg w3 hbox hb; have n0_ := Aside0.mk (below_step (by repeat (first | (with_reducible first | exact HB.out | apply below_alloc | apply pw_below_drewN | apply below_drew1) | exact HB.out)) hb); have n1_ := Aside0.mk (hbox); have n2_ := Aside0.mk ((by rw [hg]; exact (below_size (by repeat (first | (with_reducible first | exact HB.out | apply below_alloc | apply pw_below_drewN | apply below_drew1) | exact HB.out))) : w.heap.size ≤ gb106)); have n3_ := Aside0.mk ((by rw [hg]; exact (below_size (by repeat (first | (with_reducible first | exact HB.out | apply below_alloc | apply pw_below_drewN | apply below_drew1) | exact HB.out))) : w.heap.size ≤ gb106)); clear HB; have HB := n0_; have BK106 := n1_; have GW106 := n2_; have GE106 := n3_; clear n0_ n1_ n2_ n3_; clear hb hbox hg)); go_upto_block 0 with (first | ((with_reducible refine gate_dst (N := 2) rfl ?_); refine box_event ?hg (N := 2) ?hd (cs := #[.int .u8 0, .int .i64 0, .int .i64 0, .int .i64 0, .int .i64 0]) (t := 48) ?hr ?_; (case hd => rfl); (case hg => rfl); (case hr => first | (go_simp; done) | (go_simp; rfl)); intro gb106 hg w3 hbox hb; have n0_ := Aside0.mk (below_step (by repeat (first | (with_reducible first | exact HB.out | apply below_alloc | apply pw_below_drewN | apply below_drew1) | exact HB.out)) hb); have n1_ := Aside0.mk (hbox); have n2_ := Aside0.mk ((by rw [hg]; exact (below_size (by repeat (first | (with_reducible first | exact HB.out | apply below_alloc | apply pw_below_drewN | apply below_drew1) | exact HB.out))) : w.heap.size ≤ gb106)); have n3_ := Aside0.mk ((by rw [hg]; exact (below_size (by repeat (first | (with_reducible first | exact HB.out | apply below_alloc | apply pw_below_drewN | apply below_drew1) | exact HB.out))) : w.heap.size ≤ gb106)); clear HB; have HB := n0_; have BK106 := n1_; have GW106 := n2_; have GE106 := n3_; clear n0_ n1_ n2_ n3_; clear hb hbox hg)))
  (try simp only [Act.put, List.setIfInBounds_toArray, List.set_cons_zero, List.set_cons_succ])
  go_cut [0] (fun v0 wc => ∃ (kq : Nat) (x0_1 : ByteArray), v0 = .string x0_1 ∧ Aside0 (ontimeref05_Read.j1 kq x0_1 = some (r1, r2, r3, r4, r5, r6)) ∧ Aside0 (kq ≤ k) ∧ Aside0 (wc.heap[gb106]? = some (.cells #[.int .u8 0, .int .i64 0, .int .i64 0, .int .i64 0, .int .i64 0] 48 (0, 0))) ∧ Aside0 (Below w.heap.size w wc))
  case first =>
    have H := HC2.out
    clear HC2
    have H' := Aside0.mk H
    clear H
    go_wp2
    repeat (go_quiet (fail); try go_wp2)
    go_loopg [0, 4] k (fun kq v0 v4 w' => ∃ (x0_1 : ByteArray) (x4_1 : Int), v0 = .string x0_1 ∧ v4 = .int .i64 x4_1 ∧ Aside0 (ontimeref05_Read.l0 kq x0_1 x4_1 = some (r1, r2, r3, r4, r5, r6)) ∧ Aside0 (kq ≤ k) ∧ Aside0 (w'.heap[gb106]? = some (.cells #[.int .u8 0, .int .i64 0, .int .i64 0, .int .i64 0, .int .i64 0] 48 (0, 0))) ∧ Aside0 (Below w.heap.size w w'))
    case atStart => exact ⟨(a0), (0), (by first | rfl | (simp; done) | (simp [*]; done)), (by first | rfl | (simp; done) | (simp [*]; done)), H', ⟨Nat.le_refl _⟩, ⟨by (with_reducible repeat (first | refine blk_drewN ?_ _ | refine blk_drew ?_ | refine blk_alloc ?_ _)); exact BK106.out⟩, ⟨by repeat (first | (with_reducible first | exact HB.out | apply below_alloc | apply pw_below_drewN | apply below_drew1 | refine below_set ?_ GE106.out) | exact HB.out)⟩⟩
    case round =>
      clear H'
      try clear p2
      try clear c3
      obtain ⟨x0_1, x4_1, rfl, rfl, HA, HK1, BK106, HB⟩ := hrel
      cases gk with
      | zero => exact absurd HA.out (by simp [ontimeref05_Read.l0])
      | succ k1 =>
        have H := HA.out
        clear HA
        simp only [ontimeref05_Read.l0] at H
        by_cases c4 : x4_1 < (x0_1.size : Int)
        · rw [if_pos c4] at H
          have c4b0 : decide (x4_1 < (x0_1.size : Int)) = true := decide_eq_true c4
          clear c4
          (first | rw [c4b0] | (simp only [i64_w, i32_w]; rw [c4b0]) | skip)
          by_cases c5 : 0 ≤ x4_1
          · rw [if_pos c5] at H
            have c5b0 : decide (0 ≤ x4_1) = true := decide_eq_true c5
            clear c5
            by_cases c7 : (bt x0_1 x4_1) = 59
            · rw [if_pos c7] at H
              have c7b0 : ((bt x0_1 x4_1) == 59) = true := beq_iff_eq.mpr c7
              have c7b1 : ((bt x0_1 x4_1) != 59) = false := bne_eq_false_iff_eq.mpr c7
              clear c7
              have c8b0 := eq_true (of_decide_eq_true (by first | (with_reducible assumption) | assumption) : 0 ≤ x4_1)
              by_cases c9 : x4_1 ≤ (x0_1.size : Int)
              · rw [if_pos c9] at H
                have c9b0 := eq_true c9
                have c9b1 : decide (x4_1 ≤ (x0_1.size : Int)) = true := decide_eq_true c9
                clear c9
                have H' := Aside0.mk H
                clear H
                have p6 : 0 ≤ (x4_1 : Int) := of_decide_eq_true (by first | (with_reducible assumption) | assumption)
                have q6 : x4_1 < (x0_1.size : Int) := of_decide_eq_true (by first | (with_reducible assumption) | assumption)
                have hx6 := bt_at x0_1 x4_1
                replace p6 := eq_true p6
                replace q6 := eq_true q6
                go_wp2
                repeat (go_quiet (fail); try go_wp2)
                go_meet
                case rel => exact ⟨_, (x0_1.extract 0 (x4_1 : Int).toNat), (by first | rfl | (simp; done) | (simp [*]; done)), H', ⟨by have := HK1.out; first | omega | exact Nat.le_refl _⟩, ⟨by (with_reducible repeat (first | refine blk_drewN ?_ _ | refine blk_drew ?_ | refine blk_alloc ?_ _)); exact BK106.out⟩, ⟨by repeat (first | (with_reducible first | exact HB.out | apply below_alloc | apply pw_below_drewN | apply below_drew1 | refine below_set ?_ GE106.out) | exact HB.out)⟩⟩
              · rw [if_neg c9] at H
                exact absurd H (by simp)
            · rw [if_neg c7] at H
              have c7b0 : ((bt x0_1 x4_1) == 59) = false := beq_eq_false_iff_ne.mpr c7
              have c7b1 : ((bt x0_1 x4_1) != 59) = true := bne_iff_ne.mpr c7
              have H' := Aside0.mk H
              clear H
              have p6 : 0 ≤ (x4_1 : Int) := of_decide_eq_true (by first | (with_reducible assumption) | assumption)
              have q6 : x4_1 < (x0_1.size : Int) := of_decide_eq_true (by first | (with_reducible assumption) | assumption)
              have hx6 := bt_at x0_1 x4_1
              replace p6 := eq_true p6
              replace q6 := eq_true q6
              go_wp2
              repeat (go_quiet (fail); try go_wp2)
              go_roundg k1
              case measure => have := HK1.out; omega
              case rel => exact ⟨(x0_1), (wrap64 (x4_1 + 1)), (by first | rfl | (simp; done) | (simp [*]; done)), (by first | rfl | (simp; done) | (simp [*]; done)), H', ⟨by have := HK1.out; omega⟩, ⟨by (with_reducible repeat (first | refine blk_drewN ?_ _ | refine blk_drew ?_ | refine blk_alloc ?_ _)); exact BK106.out⟩, ⟨by repeat (first | (with_reducible first | exact HB.out | apply below_alloc | apply pw_below_drewN | apply below_drew1 | refine below_set ?_ GE106.out) | exact HB.out)⟩⟩
          · rw [if_neg c5] at H
            exact absurd H (by simp)
        · rw [if_neg c4] at H
          have c4b0 : decide (x4_1 < (x0_1.size : Int)) = false := decide_eq_false c4
          clear c4
          (first | rw [c4b0] | (simp only [i64_w, i32_w]; rw [c4b0]) | skip)
          have H' := Aside0.mk H
          clear H
          go_wp2
          repeat (go_quiet (fail); try go_wp2)
          go_meet
          case rel => exact ⟨_, (x0_1), (by first | rfl | (simp; done) | (simp [*]; done)), H', ⟨by have := HK1.out; first | omega | exact Nat.le_refl _⟩, ⟨by (with_reducible repeat (first | refine blk_drewN ?_ _ | refine blk_drew ?_ | refine blk_alloc ?_ _)); exact BK106.out⟩, ⟨by repeat (first | (with_reducible first | exact HB.out | apply below_alloc | apply pw_below_drewN | apply below_drew1 | refine below_set ?_ GE106.out) | exact HB.out)⟩⟩
  case rest =>
    clear HC2
    try clear p2
    try clear c3
    try clear c4
    try clear c4b0
    try clear c5
    try clear c5b0
    try clear p6
    try clear q6
    try clear hx6
    try clear c7
    try clear c7b0
    try clear c7b1
    try clear c8
    try clear c8b0
    try clear c9
    try clear c9b0
    try clear c9b1
    try clear p2
    try clear p6
    try clear q6
    obtain ⟨kq, x0_1, rfl, HA, HJ1, BK106, HB⟩ := hcut
    cases kq with
    | zero => exact absurd HA.out (by simp [ontimeref05_Read.j1])
    | succ kj1 =>
      have H := HA.out
      clear HA
      simp only [ontimeref05_Read.j1] at H
      replace H := Option.bind_eq_some_iff.mp H
      obtain ⟨t107, A100, H⟩ := H
      replace H : (if (t107.length : Int) = 0 then (some (0, 0, 0, 0, 0, 0)) else ((ontimeref05_Names.f).bind fun t110 => (ontimeref05_Read.l1 kj1 t107 t110 0))) = some (r1, r2, r3, r4, r5, r6) := H
      have A10 := Aside0.mk A100
      clear A100
      by_cases c11 : (t107.length : Int) = 0
      · rw [if_pos c11] at H
        have c11b0 : ((t107.length : Int) == 0) = true := beq_iff_eq.mpr c11
        have c11b1 : ((t107.length : Int) != 0) = false := bne_eq_false_iff_eq.mpr c11
        clear c11
        simp only [Option.some.injEq, Prod.mk.injEq] at H
        obtain ⟨rfl, rfl, rfl, rfl, rfl, rfl⟩ := H
        go_wp2_with (first | (go_at_call 53; (with_reducible refine (ontimeref05_words.calls kj1 x0_1 t107 _ A10.out).mono ?_); rintro e w12 ⟨v108, rfl, ho0, hb⟩; have n0_ := Aside0.mk (Kd.R_lower ho0 (below_size (by repeat (first | (with_reducible first | exact HB.out | apply below_alloc | apply pw_below_drewN | apply below_drew1 | refine below_set ?_ GE106.out) | exact HB.out)))); have n1_ := Aside0.mk (blk_below (g := gb106) (o := .cells #[.int .u8 0, .int .i64 0, .int .i64 0, .int .i64 0, .int .i64 0] 48 (0, 0)) (by (with_reducible repeat (first | refine blk_drewN ?_ _ | refine blk_drew ?_ | refine blk_alloc ?_ _)); exact BK106.out) hb); have n2_ := Aside0.mk (below_step (by repeat (first | (with_reducible first | exact HB.out | apply below_alloc | apply pw_below_drewN | apply below_drew1 | refine below_set ?_ GE106.out) | exact HB.out)) hb); clear BK106; clear HB; have HO109 := n0_; have BK106 := n1_; have HB := n2_; clear n0_ n1_ n2_; (try clear hb); (try clear hb2); (try clear hk); (try clear hi); (try clear ho0); obtain ⟨Ao13, co13, eo13⟩ := Kd.R_slice HO109.out; subst eo13; have hcz14_0 : w12.cell? ⟨gb106, 0, none⟩ = some (.int .u8 0) := (blk_cell BK106.out 0).trans rfl; have hcz14_1 : w12.cell? ⟨gb106, 1, none⟩ = some (.int .i64 0) := (blk_cell BK106.out 1).trans rfl; have hcz14_2 : w12.cell? ⟨gb106, 2, none⟩ = some (.int .i64 0) := (blk_cell BK106.out 2).trans rfl; have hcz14_3 : w12.cell? ⟨gb106, 3, none⟩ = some (.int .i64 0) := (blk_cell BK106.out 3).trans rfl; have hcz14_4 : w12.cell? ⟨gb106, 4, none⟩ = some (.int .i64 0) := (blk_cell BK106.out 4).trans rfl; have hfz14_0 := blk_frozen BK106.out 0; have hfz14_1 := blk_frozen BK106.out 1; have hfz14_2 := blk_frozen BK106.out 2; have hfz14_3 := blk_frozen BK106.out 3; have hfz14_4 := blk_frozen BK106.out 4))
        repeat (go_quiet (first | (go_at_call 53; (with_reducible refine (ontimeref05_words.calls kj1 x0_1 t107 _ A10.out).mono ?_); rintro e w12 ⟨v108, rfl, ho0, hb⟩; have n0_ := Aside0.mk (Kd.R_lower ho0 (below_size (by repeat (first | (with_reducible first | exact HB.out | apply below_alloc | apply pw_below_drewN | apply below_drew1 | refine below_set ?_ GE106.out) | exact HB.out)))); have n1_ := Aside0.mk (blk_below (g := gb106) (o := .cells #[.int .u8 0, .int .i64 0, .int .i64 0, .int .i64 0, .int .i64 0] 48 (0, 0)) (by (with_reducible repeat (first | refine blk_drewN ?_ _ | refine blk_drew ?_ | refine blk_alloc ?_ _)); exact BK106.out) hb); have n2_ := Aside0.mk (below_step (by repeat (first | (with_reducible first | exact HB.out | apply below_alloc | apply pw_below_drewN | apply below_drew1 | refine below_set ?_ GE106.out) | exact HB.out)) hb); clear BK106; clear HB; have HO109 := n0_; have BK106 := n1_; have HB := n2_; clear n0_ n1_ n2_; (try clear hb); (try clear hb2); (try clear hk); (try clear hi); (try clear ho0); obtain ⟨Ao13, co13, eo13⟩ := Kd.R_slice HO109.out; subst eo13; have hcz14_0 : w12.cell? ⟨gb106, 0, none⟩ = some (.int .u8 0) := (blk_cell BK106.out 0).trans rfl; have hcz14_1 : w12.cell? ⟨gb106, 1, none⟩ = some (.int .i64 0) := (blk_cell BK106.out 1).trans rfl; have hcz14_2 : w12.cell? ⟨gb106, 2, none⟩ = some (.int .i64 0) := (blk_cell BK106.out 2).trans rfl; have hcz14_3 : w12.cell? ⟨gb106, 3, none⟩ = some (.int .i64 0) := (blk_cell BK106.out 3).trans rfl; have hcz14_4 : w12.cell? ⟨gb106, 4, none⟩ = some (.int .i64 0) := (blk_cell BK106.out 4).trans rfl; have hfz14_0 := blk_frozen BK106.out 0; have hfz14_1 := blk_frozen BK106.out 1; have hfz14_2 := blk_frozen BK106.out 2; have hfz14_3 := blk_frozen BK106.out 3; have hfz14_4 := blk_frozen BK106.out 4)); try go_wp2_with (first | (go_at_call 53; (with_reducible refine (ontimeref05_words.calls kj1 x0_1 t107 _ A10.out).mono ?_); rintro e w12 ⟨v108, rfl, ho0, hb⟩; have n0_ := Aside0.mk (Kd.R_lower ho0 (below_size (by repeat (first | (with_reducible first | exact HB.out | apply below_alloc | apply pw_below_drewN | apply below_drew1 | refine below_set ?_ GE106.out) | exact HB.out)))); have n1_ := Aside0.mk (blk_below (g := gb106) (o := .cells #[.int .u8 0, .int .i64 0, .int .i64 0, .int .i64 0, .int .i64 0] 48 (0, 0)) (by (with_reducible repeat (first | refine blk_drewN ?_ _ | refine blk_drew ?_ | refine blk_alloc ?_ _)); exact BK106.out) hb); have n2_ := Aside0.mk (below_step (by repeat (first | (with_reducible first | exact HB.out | apply below_alloc | apply pw_below_drewN | apply below_drew1 | refine below_set ?_ GE106.out) | exact HB.out)) hb); clear BK106; clear HB; have HO109 := n0_; have BK106 := n1_; have HB := n2_; clear n0_ n1_ n2_; (try clear hb); (try clear hb2); (try clear hk); (try clear hi); (try clear ho0); obtain ⟨Ao13, co13, eo13⟩ := Kd.R_slice HO109.out; subst eo13; have hcz14_0 : w12.cell? ⟨gb106, 0, none⟩ = some (.int .u8 0) := (blk_cell BK106.out 0).trans rfl; have hcz14_1 : w12.cell? ⟨gb106, 1, none⟩ = some (.int .i64 0) := (blk_cell BK106.out 1).trans rfl; have hcz14_2 : w12.cell? ⟨gb106, 2, none⟩ = some (.int .i64 0) := (blk_cell BK106.out 2).trans rfl; have hcz14_3 : w12.cell? ⟨gb106, 3, none⟩ = some (.int .i64 0) := (blk_cell BK106.out 3).trans rfl; have hcz14_4 : w12.cell? ⟨gb106, 4, none⟩ = some (.int .i64 0) := (blk_cell BK106.out 4).trans rfl; have hfz14_0 := blk_frozen BK106.out 0; have hfz14_1 := blk_frozen BK106.out 1; have hfz14_2 := blk_frozen BK106.out 2; have hfz14_3 := blk_frozen BK106.out 3; have hfz14_4 := blk_frozen BK106.out 4)))
        refine bodyPost_ret (results_ct rfl _ _ gb106 48 #[.int .u8 0, .int .i64 0, .int .i64 0, .int .i64 0, .int .i64 0] (0, 0) _ rfl (by (with_reducible repeat (first | refine blk_drewN ?_ _ | refine blk_drew ?_ | refine blk_alloc ?_ _)); refine blk_put (cs := #[.int .u8 0, .int .i64 0, .int .i64 0, .int .i64 0, .int .i64 0]) ?_ 4 _ rfl; (with_reducible repeat (first | refine blk_drewN ?_ _ | refine blk_drew ?_ | refine blk_alloc ?_ _)); refine blk_put (cs := #[.int .u8 0, .int .i64 0, .int .i64 0, .int .i64 0, .int .i64 0]) ?_ 3 _ rfl; (with_reducible repeat (first | refine blk_drewN ?_ _ | refine blk_drew ?_ | refine blk_alloc ?_ _)); refine blk_put (cs := #[.int .u8 0, .int .i64 0, .int .i64 0, .int .i64 0, .int .i64 0]) ?_ 2 _ rfl; (with_reducible repeat (first | refine blk_drewN ?_ _ | refine blk_drew ?_ | refine blk_alloc ?_ _)); refine blk_put (cs := #[.int .u8 0, .int .i64 0, .int .i64 0, .int .i64 0, .int .i64 0]) ?_ 1 _ rfl; (with_reducible repeat (first | refine blk_drewN ?_ _ | refine blk_drew ?_ | refine blk_alloc ?_ _)); refine blk_put (cs := #[.int .u8 0, .int .i64 0, .int .i64 0, .int .i64 0, .int .i64 0]) ?_ 0 _ rfl; (with_reducible repeat (first | refine blk_drewN ?_ _ | refine blk_drew ?_ | refine blk_alloc ?_ _)); exact BK106.out) Tryd.underlying48 rfl (by kernel_rfl)) rfl ?_
        exact ⟨by first | rfl | (simp [errW_none, errW_some] <;> rfl) | (simp [*, errW_none, errW_some] <;> rfl), by repeat (first | (with_reducible first | exact HB.out | apply below_alloc | apply pw_below_drewN | apply below_drew1 | refine below_set ?_ GE106.out) | exact HB.out)⟩
      · rw [if_neg c11] at H
        have c11b0 : ((t107.length : Int) == 0) = false := beq_eq_false_iff_ne.mpr c11
        have c11b1 : ((t107.length : Int) != 0) = true := bne_iff_ne.mpr c11
        have c11b2 : ¬ (t107 = []) := fun h_ => c11 (by rw [h_]; rfl)
        replace H := Option.bind_eq_some_iff.mp H
        obtain ⟨t110, A150, H⟩ := H
        replace H : (ontimeref05_Read.l1 kj1 t107 t110 0) = some (r1, r2, r3, r4, r5, r6) := H
        have A15 := Aside0.mk A150
        clear A150
        have H' := Aside0.mk H
        clear H
        go_wp2_with (first | (go_at_call 53; (with_reducible refine (ontimeref05_words.calls kj1 x0_1 t107 _ A10.out).mono ?_); rintro e w16 ⟨v108, rfl, ho0, hb⟩; have n0_ := Aside0.mk (Kd.R_lower ho0 (below_size (by repeat (first | (with_reducible first | exact HB.out | apply below_alloc | apply pw_below_drewN | apply below_drew1 | refine below_set ?_ GE106.out) | exact HB.out)))); have n1_ := Aside0.mk (blk_below (g := gb106) (o := .cells #[.int .u8 0, .int .i64 0, .int .i64 0, .int .i64 0, .int .i64 0] 48 (0, 0)) (by (with_reducible repeat (first | refine blk_drewN ?_ _ | refine blk_drew ?_ | refine blk_alloc ?_ _)); exact BK106.out) hb); have n2_ := Aside0.mk (below_step (by repeat (first | (with_reducible first | exact HB.out | apply below_alloc | apply pw_below_drewN | apply below_drew1 | refine below_set ?_ GE106.out) | exact HB.out)) hb); clear BK106; clear HB; have HO109 := n0_; have BK106 := n1_; have HB := n2_; clear n0_ n1_ n2_; (try clear hb); (try clear hb2); (try clear hk); (try clear hi); (try clear ho0); obtain ⟨Ao17, co17, eo17⟩ := Kd.R_slice HO109.out; subst eo17) | (go_at_call 46; (with_reducible refine (ontimeref05_Names.calls  t110 _ A15.out).mono ?_); rintro e w18 ⟨v111, rfl, ho0, hb⟩; have n0_ := Aside0.mk (Kd.R_elder' (by (with_reducible repeat (first | apply Kd.R_alloc | apply Kd.R_drewN | apply Kd.R_drew)); exact HO109.out) (Kd.R_base ho0) hb); have n1_ := Aside0.mk (Kd.R_lower (Kd.R_new' ho0 (Kd.R_lt (by (with_reducible repeat (first | apply Kd.R_alloc | apply Kd.R_drewN | apply Kd.R_drew)); exact HO109.out))) (below_size (by repeat (first | (with_reducible first | exact HB.out | apply below_alloc | apply pw_below_drewN | apply below_drew1 | refine below_set ?_ GE106.out) | exact HB.out)))); have n2_ := Aside0.mk (blk_below (g := gb106) (o := .cells #[.int .u8 0, .int .i64 0, .int .i64 0, .int .i64 0, .int .i64 0] 48 (0, 0)) (by (with_reducible repeat (first | refine blk_drewN ?_ _ | refine blk_drew ?_ | refine blk_alloc ?_ _)); exact BK106.out) hb); have n3_ := Aside0.mk (below_step (by repeat (first | (with_reducible first | exact HB.out | apply below_alloc | apply pw_below_drewN | apply below_drew1 | refine below_set ?_ GE106.out) | exact HB.out)) hb); clear HO109; clear BK106; clear HB; have HO109 := n0_; have HO112 := n1_; have BK106 := n2_; have HB := n3_; clear n0_ n1_ n2_ n3_; (try clear hb); (try clear hb2); (try clear hk); (try clear hi); (try clear ho0)))
        repeat (go_quiet (first | (go_at_call 53; (with_reducible refine (ontimeref05_words.calls kj1 x0_1 t107 _ A10.out).mono ?_); rintro e w16 ⟨v108, rfl, ho0, hb⟩; have n0_ := Aside0.mk (Kd.R_lower ho0 (below_size (by repeat (first | (with_reducible first | exact HB.out | apply below_alloc | apply pw_below_drewN | apply below_drew1 | refine below_set ?_ GE106.out) | exact HB.out)))); have n1_ := Aside0.mk (blk_below (g := gb106) (o := .cells #[.int .u8 0, .int .i64 0, .int .i64 0, .int .i64 0, .int .i64 0] 48 (0, 0)) (by (with_reducible repeat (first | refine blk_drewN ?_ _ | refine blk_drew ?_ | refine blk_alloc ?_ _)); exact BK106.out) hb); have n2_ := Aside0.mk (below_step (by repeat (first | (with_reducible first | exact HB.out | apply below_alloc | apply pw_below_drewN | apply below_drew1 | refine below_set ?_ GE106.out) | exact HB.out)) hb); clear BK106; clear HB; have HO109 := n0_; have BK106 := n1_; have HB := n2_; clear n0_ n1_ n2_; (try clear hb); (try clear hb2); (try clear hk); (try clear hi); (try clear ho0); obtain ⟨Ao17, co17, eo17⟩ := Kd.R_slice HO109.out; subst eo17) | (go_at_call 46; (with_reducible refine (ontimeref05_Names.calls  t110 _ A15.out).mono ?_); rintro e w18 ⟨v111, rfl, ho0, hb⟩; have n0_ := Aside0.mk (Kd.R_elder' (by (with_reducible repeat (first | apply Kd.R_alloc | apply Kd.R_drewN | apply Kd.R_drew)); exact HO109.out) (Kd.R_base ho0) hb); have n1_ := Aside0.mk (Kd.R_lower (Kd.R_new' ho0 (Kd.R_lt (by (with_reducible repeat (first | apply Kd.R_alloc | apply Kd.R_drewN | apply Kd.R_drew)); exact HO109.out))) (below_size (by repeat (first | (with_reducible first | exact HB.out | apply below_alloc | apply pw_below_drewN | apply below_drew1 | refine below_set ?_ GE106.out) | exact HB.out)))); have n2_ := Aside0.mk (blk_below (g := gb106) (o := .cells #[.int .u8 0, .int .i64 0, .int .i64 0, .int .i64 0, .int .i64 0] 48 (0, 0)) (by (with_reducible repeat (first | refine blk_drewN ?_ _ | refine blk_drew ?_ | refine blk_alloc ?_ _)); exact BK106.out) hb); have n3_ := Aside0.mk (below_step (by repeat (first | (with_reducible first | exact HB.out | apply below_alloc | apply pw_below_drewN | apply below_drew1 | refine below_set ?_ GE106.out) | exact HB.out)) hb); clear HO109; clear BK106; clear HB; have HO109 := n0_; have HO112 := n1_; have BK106 := n2_; have HB := n3_; clear n0_ n1_ n2_ n3_; (try clear hb); (try clear hb2); (try clear hk); (try clear hi); (try clear ho0))); try go_wp2_with (first | (go_at_call 53; (with_reducible refine (ontimeref05_words.calls kj1 x0_1 t107 _ A10.out).mono ?_); rintro e w16 ⟨v108, rfl, ho0, hb⟩; have n0_ := Aside0.mk (Kd.R_lower ho0 (below_size (by repeat (first | (with_reducible first | exact HB.out | apply below_alloc | apply pw_below_drewN | apply below_drew1 | refine below_set ?_ GE106.out) | exact HB.out)))); have n1_ := Aside0.mk (blk_below (g := gb106) (o := .cells #[.int .u8 0, .int .i64 0, .int .i64 0, .int .i64 0, .int .i64 0] 48 (0, 0)) (by (with_reducible repeat (first | refine blk_drewN ?_ _ | refine blk_drew ?_ | refine blk_alloc ?_ _)); exact BK106.out) hb); have n2_ := Aside0.mk (below_step (by repeat (first | (with_reducible first | exact HB.out | apply below_alloc | apply pw_below_drewN | apply below_drew1 | refine below_set ?_ GE106.out) | exact HB.out)) hb); clear BK106; clear HB; have HO109 := n0_; have BK106 := n1_; have HB := n2_; clear n0_ n1_ n2_; (try clear hb); (try clear hb2); (try clear hk); (try clear hi); (try clear ho0); obtain ⟨Ao17, co17, eo17⟩ := Kd.R_slice HO109.out; subst eo17) | (go_at_call 46; (with_reducible refine (ontimeref05_Names.calls  t110 _ A15.out).mono ?_); rintro e w18 ⟨v111, rfl, ho0, hb⟩; have n0_ := Aside0.mk (Kd.R_elder' (by (with_reducible repeat (first | apply Kd.R_alloc | apply Kd.R_drewN | apply Kd.R_drew)); exact HO109.out) (Kd.R_base ho0) hb); have n1_ := Aside0.mk (Kd.R_lower (Kd.R_new' ho0 (Kd.R_lt (by (with_reducible repeat (first | apply Kd.R_alloc | apply Kd.R_drewN | apply Kd.R_drew)); exact HO109.out))) (below_size (by repeat (first | (with_reducible first | exact HB.out | apply below_alloc | apply pw_below_drewN | apply below_drew1 | refine below_set ?_ GE106.out) | exact HB.out)))); have n2_ := Aside0.mk (blk_below (g := gb106) (o := .cells #[.int .u8 0, .int .i64 0, .int .i64 0, .int .i64 0, .int .i64 0] 48 (0, 0)) (by (with_reducible repeat (first | refine blk_drewN ?_ _ | refine blk_drew ?_ | refine blk_alloc ?_ _)); exact BK106.out) hb); have n3_ := Aside0.mk (below_step (by repeat (first | (with_reducible first | exact HB.out | apply below_alloc | apply pw_below_drewN | apply below_drew1 | refine below_set ?_ GE106.out) | exact HB.out)) hb); clear HO109; clear BK106; clear HB; have HO109 := n0_; have HO112 := n1_; have BK106 := n2_; have HB := n3_; clear n0_ n1_ n2_ n3_; (try clear hb); (try clear hb2); (try clear hk); (try clear hi); (try clear ho0))))
        go_loopg [7] kj1 (fun kq v7 w' => ∃ (x7_2 : Int) (x107000_2 : Int) (x107001_2 : Int) (x107002_2 : Int) (x107003_2 : Int) (x107004_2 : Int), v7 = .int .i64 x7_2 ∧ Aside0 (ontimeref05_Read.l1 kq t107 t110 x7_2 = some (r1, r2, r3, r4, r5, r6)) ∧ Aside0 (kq ≤ kj1) ∧ Aside0 (Kd.R Kd.string 9 w' w.heap.size (fun k_ => some k_ ≠ (v111 : Value).ownBlock) (.slice Ao17 t107.length co17) t107) ∧ Aside0 (Kd.R Kd.string 9 w' w.heap.size (fun k_ => some k_ ≠ ((.slice Ao17 t107.length co17) : Value).ownBlock) v111 t110) ∧ Aside0 (w'.heap[gb106]? = some (.cells #[.int .u8 x107000_2, .int .i64 x107001_2, .int .i64 x107002_2, .int .i64 x107003_2, .int .i64 x107004_2] 48 (0, 0))) ∧ Aside0 (Below w.heap.size w w'))
        case atStart => exact ⟨(0), (0), (0), (0), (0), (0), (by first | rfl | (simp; done) | (simp [*]; done)), H', ⟨Nat.le_refl _⟩, ⟨by (with_reducible repeat (first | apply Kd.R_alloc | apply Kd.R_drewN | apply Kd.R_drew)); exact Kd.R_mono HO109.out (fun _ hk => hk.2)⟩, ⟨by (with_reducible repeat (first | apply Kd.R_alloc | apply Kd.R_drewN | apply Kd.R_drew)); exact Kd.R_mono HO112.out (fun _ hk => hk.2)⟩, ⟨by (with_reducible repeat (first | refine blk_drewN ?_ _ | refine blk_drew ?_ | refine blk_alloc ?_ _)); exact BK106.out⟩, ⟨by repeat (first | (with_reducible first | exact HB.out | apply below_alloc | apply pw_below_drewN | apply below_drew1 | refine below_set ?_ GE106.out) | exact HB.out)⟩⟩
        case round =>
          clear H'
          try clear c1
          try clear p2
          try clear c3
          try clear c4
          try clear c4b0
          try clear c5
          try clear c5b0
          try clear p6
          try clear q6
          try clear hx6
          try clear c7
          try clear c7b0
          try clear c7b1
          try clear c8
          try clear c8b0
          try clear c9
          try clear c9b0
          try clear c9b1
          try clear c11
          try clear c11b0
          try clear c11b1
          try clear c11b2
          try clear hcz14_0
          try clear hcz14_1
          try clear hcz14_2
          try clear hcz14_3
          try clear hcz14_4
          try clear hfz14_0
          try clear hfz14_1
          try clear hfz14_2
          try clear hfz14_3
          try clear hfz14_4
          try clear p2
          try clear p6
          try clear q6
          obtain ⟨x7_2, x107000_2, x107001_2, x107002_2, x107003_2, x107004_2, rfl, HA, HK2, HO_5, HO_6, BK106, HB⟩ := hrel
          cases gk with
          | zero => exact absurd HA.out (by simp [ontimeref05_Read.l1])
          | succ k2 =>
            have H := HA.out
            clear HA
            simp only [ontimeref05_Read.l1] at H
            by_cases c19 : x7_2 < (t110.length : Int)
            · rw [if_pos c19] at H
              have c19b0 : decide (x7_2 < (t110.length : Int)) = true := decide_eq_true c19
              clear c19
              by_cases c20 : 0 ≤ x7_2
              · rw [if_pos c20] at H
                have c20b0 : decide (0 ≤ x7_2) = true := decide_eq_true c20
                clear c20
                by_cases c21 : 0 < (t107.length : Int)
                · rw [if_pos c21] at H
                  have c21b0 : decide (0 < (t107.length : Int)) = true := decide_eq_true c21
                  have c21b1 : decide (0 < t107.length) = true := decide_eq_true (by omega)
                  clear c21
                  by_cases c22 : (rdOf ByteArray.empty t110 x7_2).toList = (rdOf ByteArray.empty t107 0).toList
                  · rw [if_pos c22] at H
                    have c22b0 : ((rdOf ByteArray.empty t110 x7_2).toList == (rdOf ByteArray.empty t107 0).toList) = true := beq_iff_eq.mpr c22
                    have c22b1 : ((rdOf ByteArray.empty t110 x7_2).toList != (rdOf ByteArray.empty t107 0).toList) = false := bne_eq_false_iff_eq.mpr c22
                    clear c22
                    replace H := Option.bind_eq_some_iff.mp H
                    obtain ⟨t115, A230, H⟩ := H
                    replace H : (if (t107.length : Int) = (wrap64 ((t115.size : Int) + 1)) then (ontimeref05_Read.l2 k2 t107 t115 0 ((x7_2) % 256) 0 0 0 0) else (some (0, 0, 0, 0, 0, (-1)))) = some (r1, r2, r3, r4, r5, r6) := H
                    have A23 := Aside0.mk A230
                    clear A230
                    by_cases c24 : (t107.length : Int) = (wrap64 ((t115.size : Int) + 1))
                    · rw [if_pos c24] at H
                      have c24b0 : ((t107.length : Int) == (wrap64 ((t115.size : Int) + 1))) = true := beq_iff_eq.mpr c24
                      have c24b1 : ((t107.length : Int) != (wrap64 ((t115.size : Int) + 1))) = false := bne_eq_false_iff_eq.mpr c24
                      clear c24
                      have H' := Aside0.mk H
                      clear H
                      obtain ⟨Ao25, co25, eo25⟩ := Kd.R_slice HO_6.out
                      subst eo25
                      have p113 : 0 ≤ (x7_2 : Int) := of_decide_eq_true (by first | (with_reducible assumption) | assumption)
                      have q113 : x7_2 < (t110.length : Int) := of_decide_eq_true (by first | (with_reducible assumption) | assumption)
                      obtain ⟨ad113, e113, hx113_0⟩ := Kd.at_string (Kd.R_reads' HO_6.out).2.2 x7_2 p113 q113
                      cases e113
                      replace p113 := eq_true p113
                      replace q113 := eq_true q113
                      have p114 : 0 ≤ (0 : Int) := (by omega)
                      have q114 : 0 < (t107.length : Int) := of_decide_eq_true (by first | (with_reducible assumption) | assumption)
                      obtain ⟨ad114, e114, hx114_0⟩ := Kd.at_string (Kd.R_reads' HO_5.out).2.2 0 p114 q114
                      cases e114
                      have qi114 : (0 < t107.length) = True := eq_true (by omega)
                      (try rw [show ((0 : Int)).toNat = 0 from rfl] at hx114_0)
                      (try rw [Addr.add_zero'] at hx114_0)
                      replace p114 := eq_true p114
                      replace q114 := eq_true q114
                      go_wp2_with (first | (go_at_call 47; (with_reducible refine (ontimeref05_Shape.calls k2 ((x7_2) % 256) t115 _ A23.out).mono ?_); rintro e w' ⟨rfl, ⟨nd, rfl⟩⟩; (try first | exact ⟨rfl, _, World.drewN_drewN _ _ _⟩ | exact ⟨rfl, _, Eq.trans (World.drewN_drewN _ _ _) (congrArg (World.drewN _) (Nat.add_assoc _ _ _))⟩)) | ((with_reducible refine gate_dst (N := 9) rfl ?_); refine box_event ?hg (N := 9) ?hd (cs := #[.int .u8 0, .int .i64 0, .int .i64 0, .int .i64 0, .int .i64 0]) (t := 48) ?hr ?_; (case hd => rfl); (case hg => rfl); (case hr => first | (go_simp; done) | (go_simp; rfl)); intro gb116 hg w26 hbox hb; have n0_ := Aside0.mk (Kd.R_below (by (with_reducible repeat (first | apply Kd.R_alloc | apply Kd.R_drewN | apply Kd.R_drew)); exact HO_5.out) hb); have n1_ := Aside0.mk (Kd.R_below (by (with_reducible repeat (first | apply Kd.R_alloc | apply Kd.R_drewN | apply Kd.R_drew)); exact HO_6.out) hb); have n2_ := Aside0.mk (blk_below (g := gb106) (o := .cells #[.int .u8 x107000_2, .int .i64 x107001_2, .int .i64 x107002_2, .int .i64 x107003_2, .int .i64 x107004_2] 48 (0, 0)) (by (with_reducible repeat (first | refine blk_drewN ?_ _ | refine blk_drew ?_ | refine blk_alloc ?_ _)); exact BK106.out) hb); have n3_ := Aside0.mk (below_step (by repeat (first | (with_reducible first | exact HB.out | apply below_alloc | apply pw_below_drewN | apply below_drew1 | refine below_set ?_ GE106.out) | exact HB.out)) hb); have n4_ := Aside0.mk (hbox); have n5_ := Aside0.mk ((by rw [hg]; exact (below_size (by repeat (first | (with_reducible first | exact HB.out | apply below_alloc | apply pw_below_drewN | apply below_drew1 | refine below_set ?_ GE106.out) | exact HB.out))) : w.heap.size ≤ gb116)); have n6_ := Aside0.mk ((by rw [hg]; exact (below_size (by repeat (first | (with_reducible first | exact HB.out | apply below_alloc | apply pw_below_drewN | apply below_drew1 | refine below_set ?_ GE106.out) | exact HB.out))) : w.heap.size ≤ gb116)); have n7_ := Aside0.mk ((by rw [hg]; exact Nat.ne_of_lt (blk_lt (g := gb106) (o := .cells #[.int .u8 x107000_2, .int .i64 x107001_2, .int .i64 x107002_2, .int .i64 x107003_2, .int .i64 x107004_2] 48 (0, 0)) (by (with_reducible repeat (first | refine blk_drewN ?_ _ | refine blk_drew ?_ | refine blk_alloc ?_ _)); exact BK106.out)) : gb106 ≠ gb116)); have n8_ := Aside0.mk ((by rw [hg]; exact Nat.ne_of_gt (blk_lt (g := gb106) (o := .cells #[.int .u8 x107000_2, .int .i64 x107001_2, .int .i64 x107002_2, .int .i64 x107003_2, .int .i64 x107004_2] 48 (0, 0)) (by (with_reducible repeat (first | refine blk_drewN ?_ _ | refine blk_drew ?_ | refine blk_alloc ?_ _)); exact BK106.out)) : gb116 ≠ gb106)); clear HO_5; clear HO_6; clear BK106; clear HB; have HO_5 := n0_; have HO_6 := n1_; have BK106 := n2_; have HB := n3_; have BK116 := n4_; have GW116 := n5_; have GE116 := n6_; have NB106_116 := n7_; have NB116_106 := n8_; clear n0_ n1_ n2_ n3_ n4_ n5_ n6_ n7_ n8_; clear hb hbox hg; have hnb27 := NB116_106.out; have hnc27 := NB106_116.out; have hcz28_0 : w26.cell? ⟨gb116, 0, none⟩ = some (.int .u8 0) := (blk_cell BK116.out 0).trans rfl; have hcz28_1 : w26.cell? ⟨gb116, 1, none⟩ = some (.int .i64 0) := (blk_cell BK116.out 1).trans rfl; have hcz28_2 : w26.cell? ⟨gb116, 2, none⟩ = some (.int .i64 0) := (blk_cell BK116.out 2).trans rfl; have hcz28_3 : w26.cell? ⟨gb116, 3, none⟩ = some (.int .i64 0) := (blk_cell BK116.out 3).trans rfl; have hcz28_4 : w26.cell? ⟨gb116, 4, none⟩ = some (.int .i64 0) := (blk_cell BK116.out 4).trans rfl; have hfz28_0 := blk_frozen BK116.out 0; have hfz28_1 := blk_frozen BK116.out 1; have hfz28_2 := blk_frozen BK116.out 2; have hfz28_3 := blk_frozen BK116.out 3; have hfz28_4 := blk_frozen BK116.out 4))
                      repeat (go_quiet (first | (go_at_call 47; (with_reducible refine (ontimeref05_Shape.calls k2 ((x7_2) % 256) t115 _ A23.out).mono ?_); rintro e w' ⟨rfl, ⟨nd, rfl⟩⟩; (try first | exact ⟨rfl, _, World.drewN_drewN _ _ _⟩ | exact ⟨rfl, _, Eq.trans (World.drewN_drewN _ _ _) (congrArg (World.drewN _) (Nat.add_assoc _ _ _))⟩)) | ((with_reducible refine gate_dst (N := 9) rfl ?_); refine box_event ?hg (N := 9) ?hd (cs := #[.int .u8 0, .int .i64 0, .int .i64 0, .int .i64 0, .int .i64 0]) (t := 48) ?hr ?_; (case hd => rfl); (case hg => rfl); (case hr => first | (go_simp; done) | (go_simp; rfl)); intro gb116 hg w26 hbox hb; have n0_ := Aside0.mk (Kd.R_below (by (with_reducible repeat (first | apply Kd.R_alloc | apply Kd.R_drewN | apply Kd.R_drew)); exact HO_5.out) hb); have n1_ := Aside0.mk (Kd.R_below (by (with_reducible repeat (first | apply Kd.R_alloc | apply Kd.R_drewN | apply Kd.R_drew)); exact HO_6.out) hb); have n2_ := Aside0.mk (blk_below (g := gb106) (o := .cells #[.int .u8 x107000_2, .int .i64 x107001_2, .int .i64 x107002_2, .int .i64 x107003_2, .int .i64 x107004_2] 48 (0, 0)) (by (with_reducible repeat (first | refine blk_drewN ?_ _ | refine blk_drew ?_ | refine blk_alloc ?_ _)); exact BK106.out) hb); have n3_ := Aside0.mk (below_step (by repeat (first | (with_reducible first | exact HB.out | apply below_alloc | apply pw_below_drewN | apply below_drew1 | refine below_set ?_ GE106.out) | exact HB.out)) hb); have n4_ := Aside0.mk (hbox); have n5_ := Aside0.mk ((by rw [hg]; exact (below_size (by repeat (first | (with_reducible first | exact HB.out | apply below_alloc | apply pw_below_drewN | apply below_drew1 | refine below_set ?_ GE106.out) | exact HB.out))) : w.heap.size ≤ gb116)); have n6_ := Aside0.mk ((by rw [hg]; exact (below_size (by repeat (first | (with_reducible first | exact HB.out | apply below_alloc | apply pw_below_drewN | apply below_drew1 | refine below_set ?_ GE106.out) | exact HB.out))) : w.heap.size ≤ gb116)); have n7_ := Aside0.mk ((by rw [hg]; exact Nat.ne_of_lt (blk_lt (g := gb106) (o := .cells #[.int .u8 x107000_2, .int .i64 x107001_2, .int .i64 x107002_2, .int .i64 x107003_2, .int .i64 x107004_2] 48 (0, 0)) (by (with_reducible repeat (first | refine blk_drewN ?_ _ | refine blk_drew ?_ | refine blk_alloc ?_ _)); exact BK106.out)) : gb106 ≠ gb116)); have n8_ := Aside0.mk ((by rw [hg]; exact Nat.ne_of_gt (blk_lt (g := gb106) (o := .cells #[.int .u8 x107000_2, .int .i64 x107001_2, .int .i64 x107002_2, .int .i64 x107003_2, .int .i64 x107004_2] 48 (0, 0)) (by (with_reducible repeat (first | refine blk_drewN ?_ _ | refine blk_drew ?_ | refine blk_alloc ?_ _)); exact BK106.out)) : gb116 ≠ gb106)); clear HO_5; clear HO_6; clear BK106; clear HB; have HO_5 := n0_; have HO_6 := n1_; have BK106 := n2_; have HB := n3_; have BK116 := n4_; have GW116 := n5_; have GE116 := n6_; have NB106_116 := n7_; have NB116_106 := n8_; clear n0_ n1_ n2_ n3_ n4_ n5_ n6_ n7_ n8_; clear hb hbox hg; have hnb27 := NB116_106.out; have hnc27 := NB106_116.out; have hcz28_0 : w26.cell? ⟨gb116, 0, none⟩ = some (.int .u8 0) := (blk_cell BK116.out 0).trans rfl; have hcz28_1 : w26.cell? ⟨gb116, 1, none⟩ = some (.int .i64 0) := (blk_cell BK116.out 1).trans rfl; have hcz28_2 : w26.cell? ⟨gb116, 2, none⟩ = some (.int .i64 0) := (blk_cell BK116.out 2).trans rfl; have hcz28_3 : w26.cell? ⟨gb116, 3, none⟩ = some (.int .i64 0) := (blk_cell BK116.out 3).trans rfl; have hcz28_4 : w26.cell? ⟨gb116, 4, none⟩ = some (.int .i64 0) := (blk_cell BK116.out 4).trans rfl; have hfz28_0 := blk_frozen BK116.out 0; have hfz28_1 := blk_frozen BK116.out 1; have hfz28_2 := blk_frozen BK116.out 2; have hfz28_3 := blk_frozen BK116.out 3; have hfz28_4 := blk_frozen BK116.out 4)); try go_wp2_with (first | (go_at_call 47; (with_reducible refine (ontimeref05_Shape.calls k2 ((x7_2) % 256) t115 _ A23.out).mono ?_); rintro e w' ⟨rfl, ⟨nd, rfl⟩⟩; (try first | exact ⟨rfl, _, World.drewN_drewN _ _ _⟩ | exact ⟨rfl, _, Eq.trans (World.drewN_drewN _ _ _) (congrArg (World.drewN _) (Nat.add_assoc _ _ _))⟩)) | ((with_reducible refine gate_dst (N := 9) rfl ?_); refine box_event ?hg (N := 9) ?hd (cs := #[.int .u8 0, .int .i64 0, .int .i64 0, .int .i64 0, .int .i64 0]) (t := 48) ?hr ?_; (case hd => rfl); (case hg => rfl); (case hr => first | (go_simp; done) | (go_simp; rfl)); intro gb116 hg w26 hbox hb; have n0_ := Aside0.mk (Kd.R_below (by (with_reducible repeat (first | apply Kd.R_alloc | apply Kd.R_drewN | apply Kd.R_drew)); exact HO_5.out) hb); have n1_ := Aside0.mk (Kd.R_below (by (with_reducible repeat (first | apply Kd.R_alloc | apply Kd.R_drewN | apply Kd.R_drew)); exact HO_6.out) hb); have n2_ := Aside0.mk (blk_below (g := gb106) (o := .cells #[.int .u8 x107000_2, .int .i64 x107001_2, .int .i64 x107002_2, .int .i64 x107003_2, .int .i64 x107004_2] 48 (0, 0)) (by (with_reducible repeat (first | refine blk_drewN ?_ _ | refine blk_drew ?_ | refine blk_alloc ?_ _)); exact BK106.out) hb); have n3_ := Aside0.mk (below_step (by repeat (first | (with_reducible first | exact HB.out | apply below_alloc | apply pw_below_drewN | apply below_drew1 | refine below_set ?_ GE106.out) | exact HB.out)) hb); have n4_ := Aside0.mk (hbox); have n5_ := Aside0.mk ((by rw [hg]; exact (below_size (by repeat (first | (with_reducible first | exact HB.out | apply below_alloc | apply pw_below_drewN | apply below_drew1 | refine below_set ?_ GE106.out) | exact HB.out))) : w.heap.size ≤ gb116)); have n6_ := Aside0.mk ((by rw [hg]; exact (below_size (by repeat (first | (with_reducible first | exact HB.out | apply below_alloc | apply pw_below_drewN | apply below_drew1 | refine below_set ?_ GE106.out) | exact HB.out))) : w.heap.size ≤ gb116)); have n7_ := Aside0.mk ((by rw [hg]; exact Nat.ne_of_lt (blk_lt (g := gb106) (o := .cells #[.int .u8 x107000_2, .int .i64 x107001_2, .int .i64 x107002_2, .int .i64 x107003_2, .int .i64 x107004_2] 48 (0, 0)) (by (with_reducible repeat (first | refine blk_drewN ?_ _ | refine blk_drew ?_ | refine blk_alloc ?_ _)); exact BK106.out)) : gb106 ≠ gb116)); have n8_ := Aside0.mk ((by rw [hg]; exact Nat.ne_of_gt (blk_lt (g := gb106) (o := .cells #[.int .u8 x107000_2, .int .i64 x107001_2, .int .i64 x107002_2, .int .i64 x107003_2, .int .i64 x107004_2] 48 (0, 0)) (by (with_reducible repeat (first | refine blk_drewN ?_ _ | refine blk_drew ?_ | refine blk_alloc ?_ _)); exact BK106.out)) : gb116 ≠ gb106)); clear HO_5; clear HO_6; clear BK106; clear HB; have HO_5 := n0_; have HO_6 := n1_; have BK106 := n2_; have HB := n3_; have BK116 := n4_; have GW116 := n5_; have GE116 := n6_; have NB106_116 := n7_; have NB116_106 := n8_; clear n0_ n1_ n2_ n3_ n4_ n5_ n6_ n7_ n8_; clear hb hbox hg; have hnb27 := NB116_106.out; have hnc27 := NB106_116.out; have hcz28_0 : w26.cell? ⟨gb116, 0, none⟩ = some (.int .u8 0) := (blk_cell BK116.out 0).trans rfl; have hcz28_1 : w26.cell? ⟨gb116, 1, none⟩ = some (.int .i64 0) := (blk_cell BK116.out 1).trans rfl; have hcz28_2 : w26.cell? ⟨gb116, 2, none⟩ = some (.int .i64 0) := (blk_cell BK116.out 2).trans rfl; have hcz28_3 : w26.cell? ⟨gb116, 3, none⟩ = some (.int .i64 0) := (blk_cell BK116.out 3).trans rfl; have hcz28_4 : w26.cell? ⟨gb116, 4, none⟩ = some (.int .i64 0) := (blk_cell BK116.out 4).trans rfl; have hfz28_0 := blk_frozen BK116.out 0; have hfz28_1 := blk_frozen BK116.out 1; have hfz28_2 := blk_frozen BK116.out 2; have hfz28_3 := blk_frozen BK116.out 3; have hfz28_4 := blk_frozen BK116.out 4)))
                      go_loopg [10] k2 (fun kq v10 w' => ∃ (x10_3 : Int) (x107000_3 : Int) (x107001_3 : Int) (x107002_3 : Int) (x107003_3 : Int) (x107004_3 : Int) (x117001_3 : Int) (x117002_3 : Int) (x117003_3 : Int) (x117004_3 : Int), v10 = .int .i64 x10_3 ∧ Aside0 (ontimeref05_Read.l2 kq t107 t115 x10_3 ((x7_2) % 256) x117001_3 x117002_3 x117003_3 x117004_3 = some (r1, r2, r3, r4, r5, r6)) ∧ Aside0 (kq ≤ k2) ∧ Aside0 (Kd.R Kd.string 9 w' w.heap.size (fun _ => True) (.slice (some ad114) t107.length co17) t107) ∧ Aside0 (w'.heap[gb106]? = some (.cells #[.int .u8 x107000_3, .int .i64 x107001_3, .int .i64 x107002_3, .int .i64 x107003_3, .int .i64 x107004_3] 48 (0, 0))) ∧ Aside0 (w'.heap[gb116]? = some (.cells #[.int .u8 ((x7_2) % 256), .int .i64 x117001_3, .int .i64 x117002_3, .int .i64 x117003_3, .int .i64 x117004_3] 48 (0, 0))) ∧ Aside0 (Below w.heap.size w w'))
                      case atStart => exact ⟨(0), (x107000_2), (x107001_2), (x107002_2), (x107003_2), (x107004_2), (0), (0), (0), (0), (by first | rfl | (simp; done) | (simp [*]; done)), H', ⟨Nat.le_refl _⟩, ⟨by (with_reducible repeat (first | apply Kd.R_alloc | apply Kd.R_drewN | apply Kd.R_drew)); exact Kd.R_mono (Kd.R_far (p := ⟨gb116, 4, none⟩) (Kd.R_far (p := ⟨gb116, 3, none⟩) (Kd.R_far (p := ⟨gb116, 2, none⟩) (Kd.R_far (p := ⟨gb116, 1, none⟩) (Kd.R_far (p := ⟨gb116, 0, none⟩) (Kd.R_types HO_5.out BK116.out (by decide)) (fun _ hk => hk.2) (.int .u8 ((x7_2) % 256))) (fun _ hk => hk.2) (.int .i64 0)) (fun _ hk => hk.2) (.int .i64 0)) (fun _ hk => hk.2) (.int .i64 0)) (fun _ hk => hk.2) (.int .i64 0)) (fun _ hk => trivial)⟩, ⟨by (with_reducible repeat (first | refine blk_drewN ?_ _ | refine blk_drew ?_ | refine blk_alloc ?_ _)); refine blk_far ?_ NB106_116.out _; (with_reducible repeat (first | refine blk_drewN ?_ _ | refine blk_drew ?_ | refine blk_alloc ?_ _)); refine blk_far ?_ NB106_116.out _; (with_reducible repeat (first | refine blk_drewN ?_ _ | refine blk_drew ?_ | refine blk_alloc ?_ _)); refine blk_far ?_ NB106_116.out _; (with_reducible repeat (first | refine blk_drewN ?_ _ | refine blk_drew ?_ | refine blk_alloc ?_ _)); refine blk_far ?_ NB106_116.out _; (with_reducible repeat (first | refine blk_drewN ?_ _ | refine blk_drew ?_ | refine blk_alloc ?_ _)); refine blk_far ?_ NB106_116.out _; (with_reducible repeat (first | refine blk_drewN ?_ _ | refine blk_drew ?_ | refine blk_alloc ?_ _)); exact BK106.out⟩, ⟨by (with_reducible repeat (first | refine blk_drewN ?_ _ | refine blk_drew ?_ | refine blk_alloc ?_ _)); refine blk_put (cs := #[.int .u8 ((x7_2) % 256), .int .i64 0, .int .i64 0, .int .i64 0, .int .i64 0]) ?_ 4 _ rfl; (with_reducible repeat (first | refine blk_drewN ?_ _ | refine blk_drew ?_ | refine blk_alloc ?_ _)); refine blk_put (cs := #[.int .u8 ((x7_2) % 256), .int .i64 0, .int .i64 0, .int .i64 0, .int .i64 0]) ?_ 3 _ rfl; (with_reducible repeat (first | refine blk_drewN ?_ _ | refine blk_drew ?_ | refine blk_alloc ?_ _)); refine blk_put (cs := #[.int .u8 ((x7_2) % 256), .int .i64 0, .int .i64 0, .int .i64 0, .int .i64 0]) ?_ 2 _ rfl; (with_reducible repeat (first | refine blk_drewN ?_ _ | refine blk_drew ?_ | refine blk_alloc ?_ _)); refine blk_put (cs := #[.int .u8 ((x7_2) % 256), .int .i64 0, .int .i64 0, .int .i64 0, .int .i64 0]) ?_ 1 _ rfl; (with_reducible repeat (first | refine blk_drewN ?_ _ | refine blk_drew ?_ | refine blk_alloc ?_ _)); refine blk_put (cs := #[.int .u8 0, .int .i64 0, .int .i64 0, .int .i64 0, .int .i64 0]) ?_ 0 _ rfl; (with_reducible repeat (first | refine blk_drewN ?_ _ | refine blk_drew ?_ | refine blk_alloc ?_ _)); exact BK116.out⟩, ⟨by repeat (first | (with_reducible first | exact HB.out | apply below_alloc | apply pw_below_drewN | apply below_drew1 | refine below_set ?_ GE106.out | refine below_set ?_ GE116.out) | exact HB.out)⟩⟩
                      case round =>
                        clear H'
                        try clear c1
                        try clear p1
                        try clear q1
                        try clear hx1
                        try clear qi1
                        try clear c2
                        try clear p2
                        try clear c3
                        try clear c4
                        try clear c4b0
                        try clear c5
                        try clear c5b0
                        try clear p6
                        try clear q6
                        try clear hx6
                        try clear c7
                        try clear c7b0
                        try clear c7b1
                        try clear c8
                        try clear c8b0
                        try clear c9
                        try clear c9b0
                        try clear c9b1
                        try clear c11
                        try clear c11b0
                        try clear c11b1
                        try clear c11b2
                        try clear p11
                        try clear q11
                        try clear hx11
                        try clear qi11
                        try clear c19
                        try clear c19b0
                        try clear c20
                        try clear c20b0
                        try clear c21
                        try clear c21b0
                        try clear c21b1
                        try clear c22
                        try clear c22b0
                        try clear c22b1
                        try clear c24
                        try clear c24b0
                        try clear c24b1
                        try clear c27
                        try clear hcz14_0
                        try clear hcz14_1
                        try clear hcz14_2
                        try clear hcz14_3
                        try clear hcz14_4
                        try clear hcz28_0
                        try clear hcz28_1
                        try clear hcz28_2
                        try clear hcz28_3
                        try clear hcz28_4
                        try clear hfz14_0
                        try clear hfz14_1
                        try clear hfz14_2
                        try clear hfz14_3
                        try clear hfz14_4
                        try clear hfz28_0
                        try clear hfz28_1
                        try clear hfz28_2
                        try clear hfz28_3
                        try clear hfz28_4
                        try clear hx113_0
                        try clear hx114_0
                        try clear p113
                        try clear p114
                        try clear p2
                        try clear p6
                        try clear q113
                        try clear q114
                        try clear q6
                        obtain ⟨x10_3, x107000_3, x107001_3, x107002_3, x107003_3, x107004_3, x117001_3, x117002_3, x117003_3, x117004_3, rfl, HA, HK3, HO_5, BK106, BK116, HB⟩ := hrel
                        cases gk with
                        | zero => exact absurd HA.out (by simp [ontimeref05_Read.l2])
                        | succ k3 =>
                          have H := HA.out
                          clear HA
                          simp only [ontimeref05_Read.l2] at H
                          by_cases c29 : x10_3 < (t115.size : Int)
                          · rw [if_pos c29] at H
                            have c29b0 : decide (x10_3 < (t115.size : Int)) = true := decide_eq_true c29
                            clear c29
                            obtain ⟨ji30, hji30⟩ : ∃ j_ : Int, (wrap64 (x10_3 + 1)) = j_ := ⟨_, rfl⟩
                            replace H : (if 0 ≤ (ji30) then (if (ji30) < (t107.length : Int) then ((ontimeref05_register.f k3 (rdOf ByteArray.empty t107 (ji30))).bind fun bt119 => (if 0 ≤ x10_3 then (if (bt t115 x10_3) = 105 then ((ontimeref05_number.f k3 (rdOf ByteArray.empty t107 (ji30))).bind fun bt122 => (ontimeref05_Read.j4 k3 t107 t115 x10_3 bt122.1 bt122.2 ((x7_2) % 256) x117001_3 x117002_3 x117003_3 x117004_3)) else (ontimeref05_Read.j4 k3 t107 t115 x10_3 bt119.1 bt119.2 ((x7_2) % 256) x117001_3 x117002_3 x117003_3 x117004_3)) else (none))) else (none)) else (none)) = some (r1, r2, r3, r4, r5, r6) := by first | (rw [hji30] at H; exact H) | (simp only [hji30] at H ⊢; exact H)
                            have hji30w : (IntKind.i64.wrap (x10_3 + 1)) = ji30 := (i64_w _).trans hji30
                            by_cases c31 : 0 ≤ (ji30)
                            · rw [if_pos c31] at H
                              have c31b0 : decide (0 ≤ (ji30)) = true := decide_eq_true c31
                              clear c31
                              by_cases c32 : (ji30) < (t107.length : Int)
                              · rw [if_pos c32] at H
                                have c32b0 : decide ((ji30) < (t107.length : Int)) = true := decide_eq_true c32
                                clear c32
                                replace H := Option.bind_eq_some_iff.mp H
                                obtain ⟨⟨t119, t120⟩, A330, H⟩ := H
                                replace H : (if 0 ≤ x10_3 then (if (bt t115 x10_3) = 105 then ((ontimeref05_number.f k3 (rdOf ByteArray.empty t107 (ji30))).bind fun bt122 => (ontimeref05_Read.j4 k3 t107 t115 x10_3 bt122.1 bt122.2 ((x7_2) % 256) x117001_3 x117002_3 x117003_3 x117004_3)) else (ontimeref05_Read.j4 k3 t107 t115 x10_3 t119 t120 ((x7_2) % 256) x117001_3 x117002_3 x117003_3 x117004_3)) else (none)) = some (r1, r2, r3, r4, r5, r6) := H
                                have A33 := Aside0.mk A330
                                clear A330
                                by_cases c34 : 0 ≤ x10_3
                                · rw [if_pos c34] at H
                                  have c34b0 : decide (0 ≤ x10_3) = true := decide_eq_true c34
                                  clear c34
                                  have HC36 := Aside0.mk H
                                  clear H
                                  have p118 : 0 ≤ ((ji30) : Int) := of_decide_eq_true (by first | (with_reducible assumption) | assumption)
                                  have q118 : (ji30) < (t107.length : Int) := of_decide_eq_true (by first | (with_reducible assumption) | assumption)
                                  obtain ⟨ad118, e118, hx118_0⟩ := Kd.at_string (Kd.R_reads' HO_5.out).2.2 (ji30) p118 q118
                                  obtain rfl : ad114 = ad118 := (by injection e118)
                                  replace p118 := eq_true p118
                                  replace q118 := eq_true q118
                                  go_upto_if 78 with (first | (go_at_call 54; (with_reducible refine (ontimeref05_register.calls k3 (rdOf ByteArray.empty t107 (ji30)) t119 t120 _ A33.out).mono ?_); rintro e w' ⟨rfl, ⟨nd, rfl⟩⟩; (try first | exact ⟨rfl, _, World.drewN_drewN _ _ _⟩ | exact ⟨rfl, _, Eq.trans (World.drewN_drewN _ _ _) (congrArg (World.drewN _) (Nat.add_assoc _ _ _))⟩); have p35 : 0 ≤ (x10_3 : Int) := of_decide_eq_true (by first | (with_reducible assumption) | assumption); have q35 : x10_3 < (t115.size : Int) := of_decide_eq_true (by first | (with_reducible assumption) | assumption); have hx35 := bt_at t115 x10_3; replace p35 := eq_true p35; replace q35 := eq_true q35))
                                  repeat (go_quiet (first | (go_at_call 54; (with_reducible refine (ontimeref05_register.calls k3 (rdOf ByteArray.empty t107 (ji30)) t119 t120 _ A33.out).mono ?_); rintro e w' ⟨rfl, ⟨nd, rfl⟩⟩; (try first | exact ⟨rfl, _, World.drewN_drewN _ _ _⟩ | exact ⟨rfl, _, Eq.trans (World.drewN_drewN _ _ _) (congrArg (World.drewN _) (Nat.add_assoc _ _ _))⟩); have p35 : 0 ≤ (x10_3 : Int) := of_decide_eq_true (by first | (with_reducible assumption) | assumption); have q35 : x10_3 < (t115.size : Int) := of_decide_eq_true (by first | (with_reducible assumption) | assumption); have hx35 := bt_at t115 x10_3; replace p35 := eq_true p35; replace q35 := eq_true q35)); go_upto_if 78 with (first | (go_at_call 54; (with_reducible refine (ontimeref05_register.calls k3 (rdOf ByteArray.empty t107 (ji30)) t119 t120 _ A33.out).mono ?_); rintro e w' ⟨rfl, ⟨nd, rfl⟩⟩; (try first | exact ⟨rfl, _, World.drewN_drewN _ _ _⟩ | exact ⟨rfl, _, Eq.trans (World.drewN_drewN _ _ _) (congrArg (World.drewN _) (Nat.add_assoc _ _ _))⟩); have p35 : 0 ≤ (x10_3 : Int) := of_decide_eq_true (by first | (with_reducible assumption) | assumption); have q35 : x10_3 < (t115.size : Int) := of_decide_eq_true (by first | (with_reducible assumption) | assumption); have hx35 := bt_at t115 x10_3; replace p35 := eq_true p35; replace q35 := eq_true q35)))
                                  (try simp only [Act.put, List.setIfInBounds_toArray, List.set_cons_zero, List.set_cons_succ])
                                  go_cut [11, 12] (fun v11 v12 wc => ∃ (kq : Nat) (x11_35 : Int) (x12_35 : Bool), v11 = .int .i64 x11_35 ∧ v12 = .bool x12_35 ∧ Aside0 (ontimeref05_Read.j4 kq t107 t115 x10_3 x11_35 x12_35 ((x7_2) % 256) x117001_3 x117002_3 x117003_3 x117004_3 = some (r1, r2, r3, r4, r5, r6)) ∧ Aside0 (kq ≤ k3) ∧ Aside0 (Kd.R Kd.string 9 wc w.heap.size (fun _ => True) (.slice (some ad114) t107.length co17) t107) ∧ Aside0 (wc.heap[gb106]? = some (.cells #[.int .u8 x107000_3, .int .i64 x107001_3, .int .i64 x107002_3, .int .i64 x107003_3, .int .i64 x107004_3] 48 (0, 0))) ∧ Aside0 (wc.heap[gb116]? = some (.cells #[.int .u8 ((x7_2) % 256), .int .i64 x117001_3, .int .i64 x117002_3, .int .i64 x117003_3, .int .i64 x117004_3] 48 (0, 0))) ∧ Aside0 (Below w.heap.size w wc))
                                  case first =>
                                    have H := HC36.out
                                    clear HC36
                                    by_cases c37 : (bt t115 x10_3) = 105
                                    · rw [if_pos c37] at H
                                      have c37b0 : ((bt t115 x10_3) == 105) = true := beq_iff_eq.mpr c37
                                      have c37b1 : ((bt t115 x10_3) != 105) = false := bne_eq_false_iff_eq.mpr c37
                                      clear c37
                                      (first | rw [c37b0] | (simp only [i64_w, i32_w]; rw [c37b0]) | skip)
                                      replace H := Option.bind_eq_some_iff.mp H
                                      obtain ⟨⟨t122, t123⟩, A380, H⟩ := H
                                      replace H : (ontimeref05_Read.j4 k3 t107 t115 x10_3 t122 t123 ((x7_2) % 256) x117001_3 x117002_3 x117003_3 x117004_3) = some (r1, r2, r3, r4, r5, r6) := H
                                      have A38 := Aside0.mk A380
                                      clear A380
                                      have H' := Aside0.mk H
                                      clear H
                                      have p121 : 0 ≤ ((ji30) : Int) := of_decide_eq_true (by first | (with_reducible assumption) | assumption)
                                      have q121 : (ji30) < (t107.length : Int) := of_decide_eq_true (by first | (with_reducible assumption) | assumption)
                                      obtain ⟨ad121, e121, hx121_0⟩ := Kd.at_string (Kd.R_reads' HO_5.out).2.2 (ji30) p121 q121
                                      obtain rfl : ad114 = ad121 := (by injection e121)
                                      replace p121 := eq_true p121
                                      replace q121 := eq_true q121
                                      go_wp2_with (first | (go_at_call 55; (with_reducible refine (ontimeref05_number.calls k3 (rdOf ByteArray.empty t107 (ji30)) t122 t123 _ A38.out).mono ?_); rintro e w' ⟨rfl, ⟨nd, rfl⟩⟩; (try first | exact ⟨rfl, _, World.drewN_drewN _ _ _⟩ | exact ⟨rfl, _, Eq.trans (World.drewN_drewN _ _ _) (congrArg (World.drewN _) (Nat.add_assoc _ _ _))⟩)))
                                      repeat (go_quiet (first | (go_at_call 55; (with_reducible refine (ontimeref05_number.calls k3 (rdOf ByteArray.empty t107 (ji30)) t122 t123 _ A38.out).mono ?_); rintro e w' ⟨rfl, ⟨nd, rfl⟩⟩; (try first | exact ⟨rfl, _, World.drewN_drewN _ _ _⟩ | exact ⟨rfl, _, Eq.trans (World.drewN_drewN _ _ _) (congrArg (World.drewN _) (Nat.add_assoc _ _ _))⟩))); try go_wp2_with (first | (go_at_call 55; (with_reducible refine (ontimeref05_number.calls k3 (rdOf ByteArray.empty t107 (ji30)) t122 t123 _ A38.out).mono ?_); rintro e w' ⟨rfl, ⟨nd, rfl⟩⟩; (try first | exact ⟨rfl, _, World.drewN_drewN _ _ _⟩ | exact ⟨rfl, _, Eq.trans (World.drewN_drewN _ _ _) (congrArg (World.drewN _) (Nat.add_assoc _ _ _))⟩))))
                                      go_meet
                                      case rel => exact ⟨_, (t122), (t123), (by first | rfl | (simp; done) | (simp [*]; done)), (by first | rfl | (simp; done) | (simp [*]; done)), H', ⟨by have := HJ1.out; have := HK2.out; have := HK3.out; first | omega | exact Nat.le_refl _⟩, ⟨by (with_reducible repeat (first | apply Kd.R_alloc | apply Kd.R_drewN | apply Kd.R_drew)); exact HO_5.out⟩, ⟨by (with_reducible repeat (first | refine blk_drewN ?_ _ | refine blk_drew ?_ | refine blk_alloc ?_ _)); exact BK106.out⟩, ⟨by (with_reducible repeat (first | refine blk_drewN ?_ _ | refine blk_drew ?_ | refine blk_alloc ?_ _)); exact BK116.out⟩, ⟨by repeat (first | (with_reducible first | exact HB.out | apply below_alloc | apply pw_below_drewN | apply below_drew1 | refine below_set ?_ GE106.out | refine below_set ?_ GE116.out) | exact HB.out)⟩⟩
                                    · rw [if_neg c37] at H
                                      have c37b0 : ((bt t115 x10_3) == 105) = false := beq_eq_false_iff_ne.mpr c37
                                      have c37b1 : ((bt t115 x10_3) != 105) = true := bne_iff_ne.mpr c37
                                      (first | rw [c37b0] | (simp only [i64_w, i32_w]; rw [c37b0]) | skip)
                                      have H' := Aside0.mk H
                                      clear H
                                      go_wp2
                                      repeat (go_quiet (fail); try go_wp2)
                                      go_meet
                                      case rel => exact ⟨_, (t119), (t120), (by first | rfl | (simp; done) | (simp [*]; done)), (by first | rfl | (simp; done) | (simp [*]; done)), H', ⟨by have := HJ1.out; have := HK2.out; have := HK3.out; first | omega | exact Nat.le_refl _⟩, ⟨by (with_reducible repeat (first | apply Kd.R_alloc | apply Kd.R_drewN | apply Kd.R_drew)); exact HO_5.out⟩, ⟨by (with_reducible repeat (first | refine blk_drewN ?_ _ | refine blk_drew ?_ | refine blk_alloc ?_ _)); exact BK106.out⟩, ⟨by (with_reducible repeat (first | refine blk_drewN ?_ _ | refine blk_drew ?_ | refine blk_alloc ?_ _)); exact BK116.out⟩, ⟨by repeat (first | (with_reducible first | exact HB.out | apply below_alloc | apply pw_below_drewN | apply below_drew1 | refine below_set ?_ GE106.out | refine below_set ?_ GE116.out) | exact HB.out)⟩⟩
                                  case rest =>
                                    clear HC36
                                    try clear c1
                                    try clear p1
                                    try clear q1
                                    try clear hx1
                                    try clear qi1
                                    try clear c2
                                    try clear p2
                                    try clear c3
                                    try clear p3
                                    try clear q3
                                    try clear hx3
                                    try clear c4
                                    try clear c4b0
                                    try clear c5
                                    try clear c5b0
                                    try clear p6
                                    try clear q6
                                    try clear hx6
                                    try clear c7
                                    try clear c7b0
                                    try clear c7b1
                                    try clear c8
                                    try clear c8b0
                                    try clear c9
                                    try clear c9b0
                                    try clear c9b1
                                    try clear c11
                                    try clear c11b0
                                    try clear c11b1
                                    try clear c11b2
                                    try clear p11
                                    try clear q11
                                    try clear hx11
                                    try clear qi11
                                    try clear p12
                                    try clear q12
                                    try clear hx12
                                    try clear c19
                                    try clear c19b0
                                    try clear c20
                                    try clear c20b0
                                    try clear c21
                                    try clear c21b0
                                    try clear c21b1
                                    try clear c22
                                    try clear c22b0
                                    try clear c22b1
                                    try clear c24
                                    try clear c24b0
                                    try clear c24b1
                                    try clear c27
                                    try clear c29
                                    try clear c29b0
                                    try clear c31
                                    try clear c31b0
                                    try clear c32
                                    try clear c32b0
                                    try clear c34
                                    try clear c34b0
                                    try clear p35
                                    try clear q35
                                    try clear hx35
                                    try clear c36
                                    try clear c37
                                    try clear c37b0
                                    try clear c37b1
                                    try clear hcz14_0
                                    try clear hcz14_1
                                    try clear hcz14_2
                                    try clear hcz14_3
                                    try clear hcz14_4
                                    try clear hcz28_0
                                    try clear hcz28_1
                                    try clear hcz28_2
                                    try clear hcz28_3
                                    try clear hcz28_4
                                    try clear hfz14_0
                                    try clear hfz14_1
                                    try clear hfz14_2
                                    try clear hfz14_3
                                    try clear hfz14_4
                                    try clear hfz28_0
                                    try clear hfz28_1
                                    try clear hfz28_2
                                    try clear hfz28_3
                                    try clear hfz28_4
                                    try clear hx113_0
                                    try clear hx114_0
                                    try clear hx118_0
                                    try clear hx121_0
                                    try clear p1
                                    try clear p11
                                    try clear p113
                                    try clear p114
                                    try clear p118
                                    try clear p121
                                    try clear p2
                                    try clear p35
                                    try clear p6
                                    try clear q1
                                    try clear q11
                                    try clear q113
                                    try clear q114
                                    try clear q118
                                    try clear q121
                                    try clear q35
                                    try clear q6
                                    obtain ⟨kq, x11_35, x12_35, rfl, rfl, HA, HJ35, HO_5, BK106, BK116, HB⟩ := hcut
                                    cases kq with
                                    | zero => exact absurd HA.out (by simp [ontimeref05_Read.j4])
                                    | succ kj35 =>
                                      have H := HA.out
                                      clear HA
                                      simp only [ontimeref05_Read.j4] at H
                                      by_cases c39 : x12_35 = true
                                      · subst c39
                                        have H1 : (if 0 ≤ x10_3 then (if x10_3 < (t115.size : Int) then (if (bt t115 x10_3) = 97 then (ontimeref05_Read.l2 kj35 t107 t115 (wrap64 (x10_3 + 1)) ((x7_2) % 256) x11_35 x117002_3 x117003_3 x117004_3) else (if (bt t115 x10_3) = 98 then (ontimeref05_Read.l2 kj35 t107 t115 (wrap64 (x10_3 + 1)) ((x7_2) % 256) x117001_3 x11_35 x117003_3 x117004_3) else (if (bt t115 x10_3) = 99 then (ontimeref05_Read.l2 kj35 t107 t115 (wrap64 (x10_3 + 1)) ((x7_2) % 256) x117001_3 x117002_3 x11_35 x117004_3) else (ontimeref05_Read.l2 kj35 t107 t115 (wrap64 (x10_3 + 1)) ((x7_2) % 256) x117001_3 x117002_3 x117003_3 x11_35)))) else (none)) else (none)) = some (r1, r2, r3, r4, r5, r6) := by rw [if_pos rfl] at H; exact H
                                        clear H
                                        have H := H1
                                        clear H1
                                        by_cases c40 : 0 ≤ x10_3
                                        · rw [if_pos c40] at H
                                          have c40b0 : decide (0 ≤ x10_3) = true := decide_eq_true c40
                                          clear c40
                                          by_cases c41 : x10_3 < (t115.size : Int)
                                          · rw [if_pos c41] at H
                                            have c41b0 : decide (x10_3 < (t115.size : Int)) = true := decide_eq_true c41
                                            clear c41
                                            by_cases c43 : (bt t115 x10_3) = 97
                                            · rw [if_pos c43] at H
                                              have c43b0 : ((bt t115 x10_3) == 97) = true := beq_iff_eq.mpr c43
                                              have c43b1 : ((bt t115 x10_3) != 97) = false := bne_eq_false_iff_eq.mpr c43
                                              clear c43
                                              have H' := Aside0.mk H
                                              clear H
                                              have p42 : 0 ≤ (x10_3 : Int) := of_decide_eq_true (by first | (with_reducible assumption) | assumption)
                                              have q42 : x10_3 < (t115.size : Int) := of_decide_eq_true (by first | (with_reducible assumption) | assumption)
                                              have hx42 := bt_at t115 x10_3
                                              replace p42 := eq_true p42
                                              replace q42 := eq_true q42
                                              have hnb44 := NB116_106.out
                                              have hnc44 := NB106_116.out
                                              have hcz45_0 : wc.cell? ⟨gb116, 0, none⟩ = some (.int .u8 ((x7_2) % 256)) := (blk_cell BK116.out 0).trans rfl
                                              have hcz45_1 : wc.cell? ⟨gb116, 1, none⟩ = some (.int .i64 x117001_3) := (blk_cell BK116.out 1).trans rfl
                                              have hcz45_2 : wc.cell? ⟨gb116, 2, none⟩ = some (.int .i64 x117002_3) := (blk_cell BK116.out 2).trans rfl
                                              have hcz45_3 : wc.cell? ⟨gb116, 3, none⟩ = some (.int .i64 x117003_3) := (blk_cell BK116.out 3).trans rfl
                                              have hcz45_4 : wc.cell? ⟨gb116, 4, none⟩ = some (.int .i64 x117004_3) := (blk_cell BK116.out 4).trans rfl
                                              have hfz45_0 := blk_frozen BK116.out 0
                                              have hfz45_1 := blk_frozen BK116.out 1
                                              have hfz45_2 := blk_frozen BK116.out 2
                                              have hfz45_3 := blk_frozen BK116.out 3
                                              have hfz45_4 := blk_frozen BK116.out 4
                                              go_wp2
                                              repeat (go_quiet (fail); try go_wp2)
                                              go_roundg kj35
                                              case measure => have := HJ1.out; have := HK2.out; have := HK3.out; have := HJ35.out; omega
                                              case rel => exact ⟨(wrap64 (x10_3 + 1)), (x107000_3), (x107001_3), (x107002_3), (x107003_3), (x107004_3), (x11_35), (x117002_3), (x117003_3), (x117004_3), (by first | rfl | (simp; done) | (simp [*]; done)), H', ⟨by have := HJ1.out; have := HK2.out; have := HK3.out; have := HJ35.out; omega⟩, ⟨by (with_reducible repeat (first | apply Kd.R_alloc | apply Kd.R_drewN | apply Kd.R_drew)); exact Kd.R_mono (Kd.R_far (p := ⟨gb116, 1, none⟩) (Kd.R_types HO_5.out BK116.out (by decide)) (fun _ hk => hk.2) (.int .i64 x11_35)) (fun _ hk => trivial)⟩, ⟨by (with_reducible repeat (first | refine blk_drewN ?_ _ | refine blk_drew ?_ | refine blk_alloc ?_ _)); refine blk_far ?_ NB106_116.out _; (with_reducible repeat (first | refine blk_drewN ?_ _ | refine blk_drew ?_ | refine blk_alloc ?_ _)); exact BK106.out⟩, ⟨by (with_reducible repeat (first | refine blk_drewN ?_ _ | refine blk_drew ?_ | refine blk_alloc ?_ _)); refine blk_put (cs := #[.int .u8 ((x7_2) % 256), .int .i64 x117001_3, .int .i64 x117002_3, .int .i64 x117003_3, .int .i64 x117004_3]) ?_ 1 _ rfl; (with_reducible repeat (first | refine blk_drewN ?_ _ | refine blk_drew ?_ | refine blk_alloc ?_ _)); exact BK116.out⟩, ⟨by repeat (first | (with_reducible first | exact HB.out | apply below_alloc | apply pw_below_drewN | apply below_drew1 | refine below_set ?_ GE106.out | refine below_set ?_ GE116.out) | exact HB.out)⟩⟩
                                            · rw [if_neg c43] at H
                                              have c43b0 : ((bt t115 x10_3) == 97) = false := beq_eq_false_iff_ne.mpr c43
                                              have c43b1 : ((bt t115 x10_3) != 97) = true := bne_iff_ne.mpr c43
                                              by_cases c46 : (bt t115 x10_3) = 98
                                              · rw [if_pos c46] at H
                                                have c46b0 : ((bt t115 x10_3) == 98) = true := beq_iff_eq.mpr c46
                                                have c46b1 : ((bt t115 x10_3) != 98) = false := bne_eq_false_iff_eq.mpr c46
                                                clear c46
                                                have H' := Aside0.mk H
                                                clear H
                                                have p42 : 0 ≤ (x10_3 : Int) := of_decide_eq_true (by first | (with_reducible assumption) | assumption)
                                                have q42 : x10_3 < (t115.size : Int) := of_decide_eq_true (by first | (with_reducible assumption) | assumption)
                                                have hx42 := bt_at t115 x10_3
                                                replace p42 := eq_true p42
                                                replace q42 := eq_true q42
                                                have hnb47 := NB116_106.out
                                                have hnc47 := NB106_116.out
                                                have hcz48_0 : wc.cell? ⟨gb116, 0, none⟩ = some (.int .u8 ((x7_2) % 256)) := (blk_cell BK116.out 0).trans rfl
                                                have hcz48_1 : wc.cell? ⟨gb116, 1, none⟩ = some (.int .i64 x117001_3) := (blk_cell BK116.out 1).trans rfl
                                                have hcz48_2 : wc.cell? ⟨gb116, 2, none⟩ = some (.int .i64 x117002_3) := (blk_cell BK116.out 2).trans rfl
                                                have hcz48_3 : wc.cell? ⟨gb116, 3, none⟩ = some (.int .i64 x117003_3) := (blk_cell BK116.out 3).trans rfl
                                                have hcz48_4 : wc.cell? ⟨gb116, 4, none⟩ = some (.int .i64 x117004_3) := (blk_cell BK116.out 4).trans rfl
                                                have hfz48_0 := blk_frozen BK116.out 0
                                                have hfz48_1 := blk_frozen BK116.out 1
                                                have hfz48_2 := blk_frozen BK116.out 2
                                                have hfz48_3 := blk_frozen BK116.out 3
                                                have hfz48_4 := blk_frozen BK116.out 4
                                                go_wp2
                                                repeat (go_quiet (fail); try go_wp2)
                                                go_roundg kj35
                                                case measure => have := HJ1.out; have := HK2.out; have := HK3.out; have := HJ35.out; omega
                                                case rel => exact ⟨(wrap64 (x10_3 + 1)), (x107000_3), (x107001_3), (x107002_3), (x107003_3), (x107004_3), (x117001_3), (x11_35), (x117003_3), (x117004_3), (by first | rfl | (simp; done) | (simp [*]; done)), H', ⟨by have := HJ1.out; have := HK2.out; have := HK3.out; have := HJ35.out; omega⟩, ⟨by (with_reducible repeat (first | apply Kd.R_alloc | apply Kd.R_drewN | apply Kd.R_drew)); exact Kd.R_mono (Kd.R_far (p := ⟨gb116, 2, none⟩) (Kd.R_types HO_5.out BK116.out (by decide)) (fun _ hk => hk.2) (.int .i64 x11_35)) (fun _ hk => trivial)⟩, ⟨by (with_reducible repeat (first | refine blk_drewN ?_ _ | refine blk_drew ?_ | refine blk_alloc ?_ _)); refine blk_far ?_ NB106_116.out _; (with_reducible repeat (first | refine blk_drewN ?_ _ | refine blk_drew ?_ | refine blk_alloc ?_ _)); exact BK106.out⟩, ⟨by (with_reducible repeat (first | refine blk_drewN ?_ _ | refine blk_drew ?_ | refine blk_alloc ?_ _)); refine blk_put (cs := #[.int .u8 ((x7_2) % 256), .int .i64 x117001_3, .int .i64 x117002_3, .int .i64 x117003_3, .int .i64 x117004_3]) ?_ 2 _ rfl; (with_reducible repeat (first | refine blk_drewN ?_ _ | refine blk_drew ?_ | refine blk_alloc ?_ _)); exact BK116.out⟩, ⟨by repeat (first | (with_reducible first | exact HB.out | apply below_alloc | apply pw_below_drewN | apply below_drew1 | refine below_set ?_ GE106.out | refine below_set ?_ GE116.out) | exact HB.out)⟩⟩
                                              · rw [if_neg c46] at H
                                                have c46b0 : ((bt t115 x10_3) == 98) = false := beq_eq_false_iff_ne.mpr c46
                                                have c46b1 : ((bt t115 x10_3) != 98) = true := bne_iff_ne.mpr c46
                                                by_cases c49 : (bt t115 x10_3) = 99
                                                · rw [if_pos c49] at H
                                                  have c49b0 : ((bt t115 x10_3) == 99) = true := beq_iff_eq.mpr c49
                                                  have c49b1 : ((bt t115 x10_3) != 99) = false := bne_eq_false_iff_eq.mpr c49
                                                  clear c49
                                                  have H' := Aside0.mk H
                                                  clear H
                                                  have p42 : 0 ≤ (x10_3 : Int) := of_decide_eq_true (by first | (with_reducible assumption) | assumption)
                                                  have q42 : x10_3 < (t115.size : Int) := of_decide_eq_true (by first | (with_reducible assumption) | assumption)
                                                  have hx42 := bt_at t115 x10_3
                                                  replace p42 := eq_true p42
                                                  replace q42 := eq_true q42
                                                  have hnb50 := NB116_106.out
                                                  have hnc50 := NB106_116.out
                                                  have hcz51_0 : wc.cell? ⟨gb116, 0, none⟩ = some (.int .u8 ((x7_2) % 256)) := (blk_cell BK116.out 0).trans rfl
                                                  have hcz51_1 : wc.cell? ⟨gb116, 1, none⟩ = some (.int .i64 x117001_3) := (blk_cell BK116.out 1).trans rfl
                                                  have hcz51_2 : wc.cell? ⟨gb116, 2, none⟩ = some (.int .i64 x117002_3) := (blk_cell BK116.out 2).trans rfl
                                                  have hcz51_3 : wc.cell? ⟨gb116, 3, none⟩ = some (.int .i64 x117003_3) := (blk_cell BK116.out 3).trans rfl
                                                  have hcz51_4 : wc.cell? ⟨gb116, 4, none⟩ = some (.int .i64 x117004_3) := (blk_cell BK116.out 4).trans rfl
                                                  have hfz51_0 := blk_frozen BK116.out 0
                                                  have hfz51_1 := blk_frozen BK116.out 1
                                                  have hfz51_2 := blk_frozen BK116.out 2
                                                  have hfz51_3 := blk_frozen BK116.out 3
                                                  have hfz51_4 := blk_frozen BK116.out 4
                                                  go_wp2
                                                  repeat (go_quiet (fail); try go_wp2)
                                                  go_roundg kj35
                                                  case measure => have := HJ1.out; have := HK2.out; have := HK3.out; have := HJ35.out; omega
                                                  case rel => exact ⟨(wrap64 (x10_3 + 1)), (x107000_3), (x107001_3), (x107002_3), (x107003_3), (x107004_3), (x117001_3), (x117002_3), (x11_35), (x117004_3), (by first | rfl | (simp; done) | (simp [*]; done)), H', ⟨by have := HJ1.out; have := HK2.out; have := HK3.out; have := HJ35.out; omega⟩, ⟨by (with_reducible repeat (first | apply Kd.R_alloc | apply Kd.R_drewN | apply Kd.R_drew)); exact Kd.R_mono (Kd.R_far (p := ⟨gb116, 3, none⟩) (Kd.R_types HO_5.out BK116.out (by decide)) (fun _ hk => hk.2) (.int .i64 x11_35)) (fun _ hk => trivial)⟩, ⟨by (with_reducible repeat (first | refine blk_drewN ?_ _ | refine blk_drew ?_ | refine blk_alloc ?_ _)); refine blk_far ?_ NB106_116.out _; (with_reducible repeat (first | refine blk_drewN ?_ _ | refine blk_drew ?_ | refine blk_alloc ?_ _)); exact BK106.out⟩, ⟨by (with_reducible repeat (first | refine blk_drewN ?_ _ | refine blk_drew ?_ | refine blk_alloc ?_ _)); refine blk_put (cs := #[.int .u8 ((x7_2) % 256), .int .i64 x117001_3, .int .i64 x117002_3, .int .i64 x117003_3, .int .i64 x117004_3]) ?_ 3 _ rfl; (with_reducible repeat (first | refine blk_drewN ?_ _ | refine blk_drew ?_ | refine blk_alloc ?_ _)); exact BK116.out⟩, ⟨by repeat (first | (with_reducible first | exact HB.out | apply below_alloc | apply pw_below_drewN | apply below_drew1 | refine below_set ?_ GE106.out | refine below_set ?_ GE116.out) | exact HB.out)⟩⟩
                                                · rw [if_neg c49] at H
                                                  have c49b0 : ((bt t115 x10_3) == 99) = false := beq_eq_false_iff_ne.mpr c49
                                                  have c49b1 : ((bt t115 x10_3) != 99) = true := bne_iff_ne.mpr c49
                                                  have H' := Aside0.mk H
                                                  clear H
                                                  have p42 : 0 ≤ (x10_3 : Int) := of_decide_eq_true (by first | (with_reducible assumption) | assumption)
                                                  have q42 : x10_3 < (t115.size : Int) := of_decide_eq_true (by first | (with_reducible assumption) | assumption)
                                                  have hx42 := bt_at t115 x10_3
                                                  replace p42 := eq_true p42
                                                  replace q42 := eq_true q42
                                                  have hnb52 := NB116_106.out
                                                  have hnc52 := NB106_116.out
                                                  have hcz53_0 : wc.cell? ⟨gb116, 0, none⟩ = some (.int .u8 ((x7_2) % 256)) := (blk_cell BK116.out 0).trans rfl
                                                  have hcz53_1 : wc.cell? ⟨gb116, 1, none⟩ = some (.int .i64 x117001_3) := (blk_cell BK116.out 1).trans rfl
                                                  have hcz53_2 : wc.cell? ⟨gb116, 2, none⟩ = some (.int .i64 x117002_3) := (blk_cell BK116.out 2).trans rfl
                                                  have hcz53_3 : wc.cell? ⟨gb116, 3, none⟩ = some (.int .i64 x117003_3) := (blk_cell BK116.out 3).trans rfl
                                                  have hcz53_4 : wc.cell? ⟨gb116, 4, none⟩ = some (.int .i64 x117004_3) := (blk_cell BK116.out 4).trans rfl
                                                  have hfz53_0 := blk_frozen BK116.out 0
                                                  have hfz53_1 := blk_frozen BK116.out 1
                                                  have hfz53_2 := blk_frozen BK116.out 2
                                                  have hfz53_3 := blk_frozen BK116.out 3
                                                  have hfz53_4 := blk_frozen BK116.out 4
                                                  go_wp2
                                                  repeat (go_quiet (fail); try go_wp2)
                                                  go_roundg kj35
                                                  case measure => have := HJ1.out; have := HK2.out; have := HK3.out; have := HJ35.out; omega
                                                  case rel => exact ⟨(wrap64 (x10_3 + 1)), (x107000_3), (x107001_3), (x107002_3), (x107003_3), (x107004_3), (x117001_3), (x117002_3), (x117003_3), (x11_35), (by first | rfl | (simp; done) | (simp [*]; done)), H', ⟨by have := HJ1.out; have := HK2.out; have := HK3.out; have := HJ35.out; omega⟩, ⟨by (with_reducible repeat (first | apply Kd.R_alloc | apply Kd.R_drewN | apply Kd.R_drew)); exact Kd.R_mono (Kd.R_far (p := ⟨gb116, 4, none⟩) (Kd.R_types HO_5.out BK116.out (by decide)) (fun _ hk => hk.2) (.int .i64 x11_35)) (fun _ hk => trivial)⟩, ⟨by (with_reducible repeat (first | refine blk_drewN ?_ _ | refine blk_drew ?_ | refine blk_alloc ?_ _)); refine blk_far ?_ NB106_116.out _; (with_reducible repeat (first | refine blk_drewN ?_ _ | refine blk_drew ?_ | refine blk_alloc ?_ _)); exact BK106.out⟩, ⟨by (with_reducible repeat (first | refine blk_drewN ?_ _ | refine blk_drew ?_ | refine blk_alloc ?_ _)); refine blk_put (cs := #[.int .u8 ((x7_2) % 256), .int .i64 x117001_3, .int .i64 x117002_3, .int .i64 x117003_3, .int .i64 x117004_3]) ?_ 4 _ rfl; (with_reducible repeat (first | refine blk_drewN ?_ _ | refine blk_drew ?_ | refine blk_alloc ?_ _)); exact BK116.out⟩, ⟨by repeat (first | (with_reducible first | exact HB.out | apply below_alloc | apply pw_below_drewN | apply below_drew1 | refine below_set ?_ GE106.out | refine below_set ?_ GE116.out) | exact HB.out)⟩⟩
                                          · rw [if_neg c41] at H
                                            exact absurd H (by simp)
                                        · rw [if_neg c40] at H
                                          exact absurd H (by simp)
                                      · replace c39 := Bool.eq_false_iff.mpr c39
                                        subst c39
                                        have H1 : (some (0, 0, 0, 0, 0, (-1))) = some (r1, r2, r3, r4, r5, r6) := by rw [if_neg (show ¬ (false = true) by decide)] at H; exact H
                                        clear H
                                        have H := H1
                                        clear H1
                                        simp only [Option.some.injEq, Prod.mk.injEq] at H
                                        obtain ⟨rfl, rfl, rfl, rfl, rfl, rfl⟩ := H
                                        have hnb54 := NB106_116.out
                                        have hnc54 := NB116_106.out
                                        have hcz55_0 : wc.cell? ⟨gb106, 0, none⟩ = some (.int .u8 x107000_3) := (blk_cell BK106.out 0).trans rfl
                                        have hcz55_1 : wc.cell? ⟨gb106, 1, none⟩ = some (.int .i64 x107001_3) := (blk_cell BK106.out 1).trans rfl
                                        have hcz55_2 : wc.cell? ⟨gb106, 2, none⟩ = some (.int .i64 x107002_3) := (blk_cell BK106.out 2).trans rfl
                                        have hcz55_3 : wc.cell? ⟨gb106, 3, none⟩ = some (.int .i64 x107003_3) := (blk_cell BK106.out 3).trans rfl
                                        have hcz55_4 : wc.cell? ⟨gb106, 4, none⟩ = some (.int .i64 x107004_3) := (blk_cell BK106.out 4).trans rfl
                                        have hfz55_0 := blk_frozen BK106.out 0
                                        have hfz55_1 := blk_frozen BK106.out 1
                                        have hfz55_2 := blk_frozen BK106.out 2
                                        have hfz55_3 := blk_frozen BK106.out 3
                                        have hfz55_4 := blk_frozen BK106.out 4
                                        go_wp2
                                        repeat (go_quiet (fail); try go_wp2)
                                        refine bodyPost_ret (results_ct rfl _ _ gb106 48 #[.int .u8 0, .int .i64 0, .int .i64 0, .int .i64 0, .int .i64 0] (0, 0) _ rfl (by (with_reducible repeat (first | refine blk_drewN ?_ _ | refine blk_drew ?_ | refine blk_alloc ?_ _)); refine blk_put (cs := #[.int .u8 0, .int .i64 0, .int .i64 0, .int .i64 0, .int .i64 x107004_3]) ?_ 4 _ rfl; (with_reducible repeat (first | refine blk_drewN ?_ _ | refine blk_drew ?_ | refine blk_alloc ?_ _)); refine blk_put (cs := #[.int .u8 0, .int .i64 0, .int .i64 0, .int .i64 x107003_3, .int .i64 x107004_3]) ?_ 3 _ rfl; (with_reducible repeat (first | refine blk_drewN ?_ _ | refine blk_drew ?_ | refine blk_alloc ?_ _)); refine blk_put (cs := #[.int .u8 0, .int .i64 0, .int .i64 x107002_3, .int .i64 x107003_3, .int .i64 x107004_3]) ?_ 2 _ rfl; (with_reducible repeat (first | refine blk_drewN ?_ _ | refine blk_drew ?_ | refine blk_alloc ?_ _)); refine blk_put (cs := #[.int .u8 0, .int .i64 x107001_3, .int .i64 x107002_3, .int .i64 x107003_3, .int .i64 x107004_3]) ?_ 1 _ rfl; (with_reducible repeat (first | refine blk_drewN ?_ _ | refine blk_drew ?_ | refine blk_alloc ?_ _)); refine blk_put (cs := #[.int .u8 x107000_3, .int .i64 x107001_3, .int .i64 x107002_3, .int .i64 x107003_3, .int .i64 x107004_3]) ?_ 0 _ rfl; (with_reducible repeat (first | refine blk_drewN ?_ _ | refine blk_drew ?_ | refine blk_alloc ?_ _)); exact BK106.out) Tryd.underlying48 rfl (by kernel_rfl)) rfl ?_
                                        exact ⟨by first | rfl | (simp [errW_none, errW_some] <;> rfl) | (simp only [← hji30]; first | rfl | (simp [errW_none, errW_some] <;> rfl)) | (simp [*, errW_none, errW_some] <;> rfl), by repeat (first | (with_reducible first | exact HB.out | apply below_alloc | apply pw_below_drewN | apply below_drew1 | refine below_set ?_ GE106.out | refine below_set ?_ GE116.out) | exact HB.out)⟩
                                · rw [if_neg c34] at H
                                  exact absurd H (by simp)
                              · rw [if_neg c32] at H
                                exact absurd H (by simp)
                            · rw [if_neg c31] at H
                              exact absurd H (by simp)
                          · rw [if_neg c29] at H
                            have c29b0 : decide (x10_3 < (t115.size : Int)) = false := decide_eq_false c29
                            clear c29
                            replace H := Option.bind_eq_some_iff.mp H
                            obtain ⟨t117, A560, H⟩ := H
                            replace H : (if t117 = true then (some (((x7_2) % 256), x117001_3, x117002_3, x117003_3, x117004_3, 1)) else (some (0, 0, 0, 0, 0, (-1)))) = some (r1, r2, r3, r4, r5, r6) := H
                            have A56 := Aside0.mk A560
                            clear A560
                            by_cases c57 : t117 = true
                            · subst c57
                              have H1 : (some (((x7_2) % 256), x117001_3, x117002_3, x117003_3, x117004_3, 1)) = some (r1, r2, r3, r4, r5, r6) := by rw [if_pos rfl] at H; exact H
                              clear H
                              have H := H1
                              clear H1
                              simp only [Option.some.injEq, Prod.mk.injEq] at H
                              obtain ⟨rfl, rfl, rfl, rfl, rfl, rfl⟩ := H
                              have hnb58 := NB116_106.out
                              have hnc58 := NB106_116.out
                              have hcz59_0 : wr.cell? ⟨gb116, 0, none⟩ = some (.int .u8 ((x7_2) % 256)) := (blk_cell BK116.out 0).trans rfl
                              have hcz59_1 : wr.cell? ⟨gb116, 1, none⟩ = some (.int .i64 x117001_3) := (blk_cell BK116.out 1).trans rfl
                              have hcz59_2 : wr.cell? ⟨gb116, 2, none⟩ = some (.int .i64 x117002_3) := (blk_cell BK116.out 2).trans rfl
                              have hcz59_3 : wr.cell? ⟨gb116, 3, none⟩ = some (.int .i64 x117003_3) := (blk_cell BK116.out 3).trans rfl
                              have hcz59_4 : wr.cell? ⟨gb116, 4, none⟩ = some (.int .i64 x117004_3) := (blk_cell BK116.out 4).trans rfl
                              have hfz59_0 := blk_frozen BK116.out 0
                              have hfz59_1 := blk_frozen BK116.out 1
                              have hfz59_2 := blk_frozen BK116.out 2
                              have hfz59_3 := blk_frozen BK116.out 3
                              have hfz59_4 := blk_frozen BK116.out 4
                              go_wp2_with (first | (go_at_call 56; (with_reducible refine (ontimeref04_Valid.calls ((x7_2) % 256) x117001_3 x117002_3 x117003_3 x117004_3 true _ A56.out).mono ?_); rintro e w60 ⟨rfl, hb⟩; have n0_ := Aside0.mk (Kd.R_below (by (with_reducible repeat (first | apply Kd.R_alloc | apply Kd.R_drewN | apply Kd.R_drew)); exact HO_5.out) hb); have n1_ := Aside0.mk (blk_below (g := gb106) (o := .cells #[.int .u8 x107000_3, .int .i64 x107001_3, .int .i64 x107002_3, .int .i64 x107003_3, .int .i64 x107004_3] 48 (0, 0)) (by (with_reducible repeat (first | refine blk_drewN ?_ _ | refine blk_drew ?_ | refine blk_alloc ?_ _)); exact BK106.out) hb); have n2_ := Aside0.mk (blk_below (g := gb116) (o := .cells #[.int .u8 ((x7_2) % 256), .int .i64 x117001_3, .int .i64 x117002_3, .int .i64 x117003_3, .int .i64 x117004_3] 48 (0, 0)) (by (with_reducible repeat (first | refine blk_drewN ?_ _ | refine blk_drew ?_ | refine blk_alloc ?_ _)); exact BK116.out) hb); have n3_ := Aside0.mk (below_step (by repeat (first | (with_reducible first | exact HB.out | apply below_alloc | apply pw_below_drewN | apply below_drew1 | refine below_set ?_ GE106.out | refine below_set ?_ GE116.out) | exact HB.out)) hb); clear HO_5; clear BK106; clear BK116; clear HB; have HO_5 := n0_; have BK106 := n1_; have BK116 := n2_; have HB := n3_; clear n0_ n1_ n2_ n3_; (try clear hb); (try clear hb2); (try clear hk); (try clear hi); have hcz61_0 : w60.cell? ⟨gb116, 0, none⟩ = some (.int .u8 ((x7_2) % 256)) := (blk_cell BK116.out 0).trans rfl; have hcz61_1 : w60.cell? ⟨gb116, 1, none⟩ = some (.int .i64 x117001_3) := (blk_cell BK116.out 1).trans rfl; have hcz61_2 : w60.cell? ⟨gb116, 2, none⟩ = some (.int .i64 x117002_3) := (blk_cell BK116.out 2).trans rfl; have hcz61_3 : w60.cell? ⟨gb116, 3, none⟩ = some (.int .i64 x117003_3) := (blk_cell BK116.out 3).trans rfl; have hcz61_4 : w60.cell? ⟨gb116, 4, none⟩ = some (.int .i64 x117004_3) := (blk_cell BK116.out 4).trans rfl; have hfz61_0 := blk_frozen BK116.out 0; have hfz61_1 := blk_frozen BK116.out 1; have hfz61_2 := blk_frozen BK116.out 2; have hfz61_3 := blk_frozen BK116.out 3; have hfz61_4 := blk_frozen BK116.out 4; have hcz62_0 : w60.cell? ⟨gb106, 0, none⟩ = some (.int .u8 x107000_3) := (blk_cell BK106.out 0).trans rfl; have hcz62_1 : w60.cell? ⟨gb106, 1, none⟩ = some (.int .i64 x107001_3) := (blk_cell BK106.out 1).trans rfl; have hcz62_2 : w60.cell? ⟨gb106, 2, none⟩ = some (.int .i64 x107002_3) := (blk_cell BK106.out 2).trans rfl; have hcz62_3 : w60.cell? ⟨gb106, 3, none⟩ = some (.int .i64 x107003_3) := (blk_cell BK106.out 3).trans rfl; have hcz62_4 : w60.cell? ⟨gb106, 4, none⟩ = some (.int .i64 x107004_3) := (blk_cell BK106.out 4).trans rfl; have hfz62_0 := blk_frozen BK106.out 0; have hfz62_1 := blk_frozen BK106.out 1; have hfz62_2 := blk_frozen BK106.out 2; have hfz62_3 := blk_frozen BK106.out 3; have hfz62_4 := blk_frozen BK106.out 4))
                              repeat (go_quiet (first | (go_at_call 56; (with_reducible refine (ontimeref04_Valid.calls ((x7_2) % 256) x117001_3 x117002_3 x117003_3 x117004_3 true _ A56.out).mono ?_); rintro e w60 ⟨rfl, hb⟩; have n0_ := Aside0.mk (Kd.R_below (by (with_reducible repeat (first | apply Kd.R_alloc | apply Kd.R_drewN | apply Kd.R_drew)); exact HO_5.out) hb); have n1_ := Aside0.mk (blk_below (g := gb106) (o := .cells #[.int .u8 x107000_3, .int .i64 x107001_3, .int .i64 x107002_3, .int .i64 x107003_3, .int .i64 x107004_3] 48 (0, 0)) (by (with_reducible repeat (first | refine blk_drewN ?_ _ | refine blk_drew ?_ | refine blk_alloc ?_ _)); exact BK106.out) hb); have n2_ := Aside0.mk (blk_below (g := gb116) (o := .cells #[.int .u8 ((x7_2) % 256), .int .i64 x117001_3, .int .i64 x117002_3, .int .i64 x117003_3, .int .i64 x117004_3] 48 (0, 0)) (by (with_reducible repeat (first | refine blk_drewN ?_ _ | refine blk_drew ?_ | refine blk_alloc ?_ _)); exact BK116.out) hb); have n3_ := Aside0.mk (below_step (by repeat (first | (with_reducible first | exact HB.out | apply below_alloc | apply pw_below_drewN | apply below_drew1 | refine below_set ?_ GE106.out | refine below_set ?_ GE116.out) | exact HB.out)) hb); clear HO_5; clear BK106; clear BK116; clear HB; have HO_5 := n0_; have BK106 := n1_; have BK116 := n2_; have HB := n3_; clear n0_ n1_ n2_ n3_; (try clear hb); (try clear hb2); (try clear hk); (try clear hi); have hcz61_0 : w60.cell? ⟨gb116, 0, none⟩ = some (.int .u8 ((x7_2) % 256)) := (blk_cell BK116.out 0).trans rfl; have hcz61_1 : w60.cell? ⟨gb116, 1, none⟩ = some (.int .i64 x117001_3) := (blk_cell BK116.out 1).trans rfl; have hcz61_2 : w60.cell? ⟨gb116, 2, none⟩ = some (.int .i64 x117002_3) := (blk_cell BK116.out 2).trans rfl; have hcz61_3 : w60.cell? ⟨gb116, 3, none⟩ = some (.int .i64 x117003_3) := (blk_cell BK116.out 3).trans rfl; have hcz61_4 : w60.cell? ⟨gb116, 4, none⟩ = some (.int .i64 x117004_3) := (blk_cell BK116.out 4).trans rfl; have hfz61_0 := blk_frozen BK116.out 0; have hfz61_1 := blk_frozen BK116.out 1; have hfz61_2 := blk_frozen BK116.out 2; have hfz61_3 := blk_frozen BK116.out 3; have hfz61_4 := blk_frozen BK116.out 4; have hcz62_0 : w60.cell? ⟨gb106, 0, none⟩ = some (.int .u8 x107000_3) := (blk_cell BK106.out 0).trans rfl; have hcz62_1 : w60.cell? ⟨gb106, 1, none⟩ = some (.int .i64 x107001_3) := (blk_cell BK106.out 1).trans rfl; have hcz62_2 : w60.cell? ⟨gb106, 2, none⟩ = some (.int .i64 x107002_3) := (blk_cell BK106.out 2).trans rfl; have hcz62_3 : w60.cell? ⟨gb106, 3, none⟩ = some (.int .i64 x107003_3) := (blk_cell BK106.out 3).trans rfl; have hcz62_4 : w60.cell? ⟨gb106, 4, none⟩ = some (.int .i64 x107004_3) := (blk_cell BK106.out 4).trans rfl; have hfz62_0 := blk_frozen BK106.out 0; have hfz62_1 := blk_frozen BK106.out 1; have hfz62_2 := blk_frozen BK106.out 2; have hfz62_3 := blk_frozen BK106.out 3; have hfz62_4 := blk_frozen BK106.out 4)); try go_wp2_with (first | (go_at_call 56; (with_reducible refine (ontimeref04_Valid.calls ((x7_2) % 256) x117001_3 x117002_3 x117003_3 x117004_3 true _ A56.out).mono ?_); rintro e w60 ⟨rfl, hb⟩; have n0_ := Aside0.mk (Kd.R_below (by (with_reducible repeat (first | apply Kd.R_alloc | apply Kd.R_drewN | apply Kd.R_drew)); exact HO_5.out) hb); have n1_ := Aside0.mk (blk_below (g := gb106) (o := .cells #[.int .u8 x107000_3, .int .i64 x107001_3, .int .i64 x107002_3, .int .i64 x107003_3, .int .i64 x107004_3] 48 (0, 0)) (by (with_reducible repeat (first | refine blk_drewN ?_ _ | refine blk_drew ?_ | refine blk_alloc ?_ _)); exact BK106.out) hb); have n2_ := Aside0.mk (blk_below (g := gb116) (o := .cells #[.int .u8 ((x7_2) % 256), .int .i64 x117001_3, .int .i64 x117002_3, .int .i64 x117003_3, .int .i64 x117004_3] 48 (0, 0)) (by (with_reducible repeat (first | refine blk_drewN ?_ _ | refine blk_drew ?_ | refine blk_alloc ?_ _)); exact BK116.out) hb); have n3_ := Aside0.mk (below_step (by repeat (first | (with_reducible first | exact HB.out | apply below_alloc | apply pw_below_drewN | apply below_drew1 | refine below_set ?_ GE106.out | refine below_set ?_ GE116.out) | exact HB.out)) hb); clear HO_5; clear BK106; clear BK116; clear HB; have HO_5 := n0_; have BK106 := n1_; have BK116 := n2_; have HB := n3_; clear n0_ n1_ n2_ n3_; (try clear hb); (try clear hb2); (try clear hk); (try clear hi); have hcz61_0 : w60.cell? ⟨gb116, 0, none⟩ = some (.int .u8 ((x7_2) % 256)) := (blk_cell BK116.out 0).trans rfl; have hcz61_1 : w60.cell? ⟨gb116, 1, none⟩ = some (.int .i64 x117001_3) := (blk_cell BK116.out 1).trans rfl; have hcz61_2 : w60.cell? ⟨gb116, 2, none⟩ = some (.int .i64 x117002_3) := (blk_cell BK116.out 2).trans rfl; have hcz61_3 : w60.cell? ⟨gb116, 3, none⟩ = some (.int .i64 x117003_3) := (blk_cell BK116.out 3).trans rfl; have hcz61_4 : w60.cell? ⟨gb116, 4, none⟩ = some (.int .i64 x117004_3) := (blk_cell BK116.out 4).trans rfl; have hfz61_0 := blk_frozen BK116.out 0; have hfz61_1 := blk_frozen BK116.out 1; have hfz61_2 := blk_frozen BK116.out 2; have hfz61_3 := blk_frozen BK116.out 3; have hfz61_4 := blk_frozen BK116.out 4; have hcz62_0 : w60.cell? ⟨gb106, 0, none⟩ = some (.int .u8 x107000_3) := (blk_cell BK106.out 0).trans rfl; have hcz62_1 : w60.cell? ⟨gb106, 1, none⟩ = some (.int .i64 x107001_3) := (blk_cell BK106.out 1).trans rfl; have hcz62_2 : w60.cell? ⟨gb106, 2, none⟩ = some (.int .i64 x107002_3) := (blk_cell BK106.out 2).trans rfl; have hcz62_3 : w60.cell? ⟨gb106, 3, none⟩ = some (.int .i64 x107003_3) := (blk_cell BK106.out 3).trans rfl; have hcz62_4 : w60.cell? ⟨gb106, 4, none⟩ = some (.int .i64 x107004_3) := (blk_cell BK106.out 4).trans rfl; have hfz62_0 := blk_frozen BK106.out 0; have hfz62_1 := blk_frozen BK106.out 1; have hfz62_2 := blk_frozen BK106.out 2; have hfz62_3 := blk_frozen BK106.out 3; have hfz62_4 := blk_frozen BK106.out 4)))
                              refine bodyPost_ret (results_ct rfl _ _ gb106 48 #[.int .u8 ((x7_2) % 256), .int .i64 x117001_3, .int .i64 x117002_3, .int .i64 x117003_3, .int .i64 x117004_3] (0, 0) _ rfl (by (with_reducible repeat (first | refine blk_drewN ?_ _ | refine blk_drew ?_ | refine blk_alloc ?_ _)); refine blk_put (cs := #[.int .u8 ((x7_2) % 256), .int .i64 x117001_3, .int .i64 x117002_3, .int .i64 x117003_3, .int .i64 x107004_3]) ?_ 4 _ rfl; (with_reducible repeat (first | refine blk_drewN ?_ _ | refine blk_drew ?_ | refine blk_alloc ?_ _)); refine blk_put (cs := #[.int .u8 ((x7_2) % 256), .int .i64 x117001_3, .int .i64 x117002_3, .int .i64 x107003_3, .int .i64 x107004_3]) ?_ 3 _ rfl; (with_reducible repeat (first | refine blk_drewN ?_ _ | refine blk_drew ?_ | refine blk_alloc ?_ _)); refine blk_put (cs := #[.int .u8 ((x7_2) % 256), .int .i64 x117001_3, .int .i64 x107002_3, .int .i64 x107003_3, .int .i64 x107004_3]) ?_ 2 _ rfl; (with_reducible repeat (first | refine blk_drewN ?_ _ | refine blk_drew ?_ | refine blk_alloc ?_ _)); refine blk_put (cs := #[.int .u8 ((x7_2) % 256), .int .i64 x107001_3, .int .i64 x107002_3, .int .i64 x107003_3, .int .i64 x107004_3]) ?_ 1 _ rfl; (with_reducible repeat (first | refine blk_drewN ?_ _ | refine blk_drew ?_ | refine blk_alloc ?_ _)); refine blk_put (cs := #[.int .u8 x107000_3, .int .i64 x107001_3, .int .i64 x107002_3, .int .i64 x107003_3, .int .i64 x107004_3]) ?_ 0 _ rfl; (with_reducible repeat (first | refine blk_drewN ?_ _ | refine blk_drew ?_ | refine blk_alloc ?_ _)); exact BK106.out) Tryd.underlying48 rfl (by kernel_rfl)) rfl ?_
                              exact ⟨by first | rfl | (simp [errW_none, errW_some] <;> rfl) | (simp [*, errW_none, errW_some] <;> rfl), by repeat (first | (with_reducible first | exact HB.out | apply below_alloc | apply pw_below_drewN | apply below_drew1 | refine below_set ?_ GE106.out | refine below_set ?_ GE116.out) | exact HB.out)⟩
                            · replace c57 := Bool.eq_false_iff.mpr c57
                              subst c57
                              have H1 : (some (0, 0, 0, 0, 0, (-1))) = some (r1, r2, r3, r4, r5, r6) := by rw [if_neg (show ¬ (false = true) by decide)] at H; exact H
                              clear H
                              have H := H1
                              clear H1
                              simp only [Option.some.injEq, Prod.mk.injEq] at H
                              obtain ⟨rfl, rfl, rfl, rfl, rfl, rfl⟩ := H
                              have hnb63 := NB116_106.out
                              have hnc63 := NB106_116.out
                              have hcz64_0 : wr.cell? ⟨gb116, 0, none⟩ = some (.int .u8 ((x7_2) % 256)) := (blk_cell BK116.out 0).trans rfl
                              have hcz64_1 : wr.cell? ⟨gb116, 1, none⟩ = some (.int .i64 x117001_3) := (blk_cell BK116.out 1).trans rfl
                              have hcz64_2 : wr.cell? ⟨gb116, 2, none⟩ = some (.int .i64 x117002_3) := (blk_cell BK116.out 2).trans rfl
                              have hcz64_3 : wr.cell? ⟨gb116, 3, none⟩ = some (.int .i64 x117003_3) := (blk_cell BK116.out 3).trans rfl
                              have hcz64_4 : wr.cell? ⟨gb116, 4, none⟩ = some (.int .i64 x117004_3) := (blk_cell BK116.out 4).trans rfl
                              have hfz64_0 := blk_frozen BK116.out 0
                              have hfz64_1 := blk_frozen BK116.out 1
                              have hfz64_2 := blk_frozen BK116.out 2
                              have hfz64_3 := blk_frozen BK116.out 3
                              have hfz64_4 := blk_frozen BK116.out 4
                              go_wp2_with (first | (go_at_call 56; (with_reducible refine (ontimeref04_Valid.calls ((x7_2) % 256) x117001_3 x117002_3 x117003_3 x117004_3 false _ A56.out).mono ?_); rintro e w65 ⟨rfl, hb⟩; have n0_ := Aside0.mk (Kd.R_below (by (with_reducible repeat (first | apply Kd.R_alloc | apply Kd.R_drewN | apply Kd.R_drew)); exact HO_5.out) hb); have n1_ := Aside0.mk (blk_below (g := gb106) (o := .cells #[.int .u8 x107000_3, .int .i64 x107001_3, .int .i64 x107002_3, .int .i64 x107003_3, .int .i64 x107004_3] 48 (0, 0)) (by (with_reducible repeat (first | refine blk_drewN ?_ _ | refine blk_drew ?_ | refine blk_alloc ?_ _)); exact BK106.out) hb); have n2_ := Aside0.mk (blk_below (g := gb116) (o := .cells #[.int .u8 ((x7_2) % 256), .int .i64 x117001_3, .int .i64 x117002_3, .int .i64 x117003_3, .int .i64 x117004_3] 48 (0, 0)) (by (with_reducible repeat (first | refine blk_drewN ?_ _ | refine blk_drew ?_ | refine blk_alloc ?_ _)); exact BK116.out) hb); have n3_ := Aside0.mk (below_step (by repeat (first | (with_reducible first | exact HB.out | apply below_alloc | apply pw_below_drewN | apply below_drew1 | refine below_set ?_ GE106.out | refine below_set ?_ GE116.out) | exact HB.out)) hb); clear HO_5; clear BK106; clear BK116; clear HB; have HO_5 := n0_; have BK106 := n1_; have BK116 := n2_; have HB := n3_; clear n0_ n1_ n2_ n3_; (try clear hb); (try clear hb2); (try clear hk); (try clear hi); have hcz66_0 : w65.cell? ⟨gb106, 0, none⟩ = some (.int .u8 x107000_3) := (blk_cell BK106.out 0).trans rfl; have hcz66_1 : w65.cell? ⟨gb106, 1, none⟩ = some (.int .i64 x107001_3) := (blk_cell BK106.out 1).trans rfl; have hcz66_2 : w65.cell? ⟨gb106, 2, none⟩ = some (.int .i64 x107002_3) := (blk_cell BK106.out 2).trans rfl; have hcz66_3 : w65.cell? ⟨gb106, 3, none⟩ = some (.int .i64 x107003_3) := (blk_cell BK106.out 3).trans rfl; have hcz66_4 : w65.cell? ⟨gb106, 4, none⟩ = some (.int .i64 x107004_3) := (blk_cell BK106.out 4).trans rfl; have hfz66_0 := blk_frozen BK106.out 0; have hfz66_1 := blk_frozen BK106.out 1; have hfz66_2 := blk_frozen BK106.out 2; have hfz66_3 := blk_frozen BK106.out 3; have hfz66_4 := blk_frozen BK106.out 4))
                              repeat (go_quiet (first | (go_at_call 56; (with_reducible refine (ontimeref04_Valid.calls ((x7_2) % 256) x117001_3 x117002_3 x117003_3 x117004_3 false _ A56.out).mono ?_); rintro e w65 ⟨rfl, hb⟩; have n0_ := Aside0.mk (Kd.R_below (by (with_reducible repeat (first | apply Kd.R_alloc | apply Kd.R_drewN | apply Kd.R_drew)); exact HO_5.out) hb); have n1_ := Aside0.mk (blk_below (g := gb106) (o := .cells #[.int .u8 x107000_3, .int .i64 x107001_3, .int .i64 x107002_3, .int .i64 x107003_3, .int .i64 x107004_3] 48 (0, 0)) (by (with_reducible repeat (first | refine blk_drewN ?_ _ | refine blk_drew ?_ | refine blk_alloc ?_ _)); exact BK106.out) hb); have n2_ := Aside0.mk (blk_below (g := gb116) (o := .cells #[.int .u8 ((x7_2) % 256), .int .i64 x117001_3, .int .i64 x117002_3, .int .i64 x117003_3, .int .i64 x117004_3] 48 (0, 0)) (by (with_reducible repeat (first | refine blk_drewN ?_ _ | refine blk_drew ?_ | refine blk_alloc ?_ _)); exact BK116.out) hb); have n3_ := Aside0.mk (below_step (by repeat (first | (with_reducible first | exact HB.out | apply below_alloc | apply pw_below_drewN | apply below_drew1 | refine below_set ?_ GE106.out | refine below_set ?_ GE116.out) | exact HB.out)) hb); clear HO_5; clear BK106; clear BK116; clear HB; have HO_5 := n0_; have BK106 := n1_; have BK116 := n2_; have HB := n3_; clear n0_ n1_ n2_ n3_; (try clear hb); (try clear hb2); (try clear hk); (try clear hi); have hcz66_0 : w65.cell? ⟨gb106, 0, none⟩ = some (.int .u8 x107000_3) := (blk_cell BK106.out 0).trans rfl; have hcz66_1 : w65.cell? ⟨gb106, 1, none⟩ = some (.int .i64 x107001_3) := (blk_cell BK106.out 1).trans rfl; have hcz66_2 : w65.cell? ⟨gb106, 2, none⟩ = some (.int .i64 x107002_3) := (blk_cell BK106.out 2).trans rfl; have hcz66_3 : w65.cell? ⟨gb106, 3, none⟩ = some (.int .i64 x107003_3) := (blk_cell BK106.out 3).trans rfl; have hcz66_4 : w65.cell? ⟨gb106, 4, none⟩ = some (.int .i64 x107004_3) := (blk_cell BK106.out 4).trans rfl; have hfz66_0 := blk_frozen BK106.out 0; have hfz66_1 := blk_frozen BK106.out 1; have hfz66_2 := blk_frozen BK106.out 2; have hfz66_3 := blk_frozen BK106.out 3; have hfz66_4 := blk_frozen BK106.out 4)); try go_wp2_with (first | (go_at_call 56; (with_reducible refine (ontimeref04_Valid.calls ((x7_2) % 256) x117001_3 x117002_3 x117003_3 x117004_3 false _ A56.out).mono ?_); rintro e w65 ⟨rfl, hb⟩; have n0_ := Aside0.mk (Kd.R_below (by (with_reducible repeat (first | apply Kd.R_alloc | apply Kd.R_drewN | apply Kd.R_drew)); exact HO_5.out) hb); have n1_ := Aside0.mk (blk_below (g := gb106) (o := .cells #[.int .u8 x107000_3, .int .i64 x107001_3, .int .i64 x107002_3, .int .i64 x107003_3, .int .i64 x107004_3] 48 (0, 0)) (by (with_reducible repeat (first | refine blk_drewN ?_ _ | refine blk_drew ?_ | refine blk_alloc ?_ _)); exact BK106.out) hb); have n2_ := Aside0.mk (blk_below (g := gb116) (o := .cells #[.int .u8 ((x7_2) % 256), .int .i64 x117001_3, .int .i64 x117002_3, .int .i64 x117003_3, .int .i64 x117004_3] 48 (0, 0)) (by (with_reducible repeat (first | refine blk_drewN ?_ _ | refine blk_drew ?_ | refine blk_alloc ?_ _)); exact BK116.out) hb); have n3_ := Aside0.mk (below_step (by repeat (first | (with_reducible first | exact HB.out | apply below_alloc | apply pw_below_drewN | apply below_drew1 | refine below_set ?_ GE106.out | refine below_set ?_ GE116.out) | exact HB.out)) hb); clear HO_5; clear BK106; clear BK116; clear HB; have HO_5 := n0_; have BK106 := n1_; have BK116 := n2_; have HB := n3_; clear n0_ n1_ n2_ n3_; (try clear hb); (try clear hb2); (try clear hk); (try clear hi); have hcz66_0 : w65.cell? ⟨gb106, 0, none⟩ = some (.int .u8 x107000_3) := (blk_cell BK106.out 0).trans rfl; have hcz66_1 : w65.cell? ⟨gb106, 1, none⟩ = some (.int .i64 x107001_3) := (blk_cell BK106.out 1).trans rfl; have hcz66_2 : w65.cell? ⟨gb106, 2, none⟩ = some (.int .i64 x107002_3) := (blk_cell BK106.out 2).trans rfl; have hcz66_3 : w65.cell? ⟨gb106, 3, none⟩ = some (.int .i64 x107003_3) := (blk_cell BK106.out 3).trans rfl; have hcz66_4 : w65.cell? ⟨gb106, 4, none⟩ = some (.int .i64 x107004_3) := (blk_cell BK106.out 4).trans rfl; have hfz66_0 := blk_frozen BK106.out 0; have hfz66_1 := blk_frozen BK106.out 1; have hfz66_2 := blk_frozen BK106.out 2; have hfz66_3 := blk_frozen BK106.out 3; have hfz66_4 := blk_frozen BK106.out 4)))
                              refine bodyPost_ret (results_ct rfl _ _ gb106 48 #[.int .u8 0, .int .i64 0, .int .i64 0, .int .i64 0, .int .i64 0] (0, 0) _ rfl (by (with_reducible repeat (first | refine blk_drewN ?_ _ | refine blk_drew ?_ | refine blk_alloc ?_ _)); refine blk_put (cs := #[.int .u8 0, .int .i64 0, .int .i64 0, .int .i64 0, .int .i64 x107004_3]) ?_ 4 _ rfl; (with_reducible repeat (first | refine blk_drewN ?_ _ | refine blk_drew ?_ | refine blk_alloc ?_ _)); refine blk_put (cs := #[.int .u8 0, .int .i64 0, .int .i64 0, .int .i64 x107003_3, .int .i64 x107004_3]) ?_ 3 _ rfl; (with_reducible repeat (first | refine blk_drewN ?_ _ | refine blk_drew ?_ | refine blk_alloc ?_ _)); refine blk_put (cs := #[.int .u8 0, .int .i64 0, .int .i64 x107002_3, .int .i64 x107003_3, .int .i64 x107004_3]) ?_ 2 _ rfl; (with_reducible repeat (first | refine blk_drewN ?_ _ | refine blk_drew ?_ | refine blk_alloc ?_ _)); refine blk_put (cs := #[.int .u8 0, .int .i64 x107001_3, .int .i64 x107002_3, .int .i64 x107003_3, .int .i64 x107004_3]) ?_ 1 _ rfl; (with_reducible repeat (first | refine blk_drewN ?_ _ | refine blk_drew ?_ | refine blk_alloc ?_ _)); refine blk_put (cs := #[.int .u8 x107000_3, .int .i64 x107001_3, .int .i64 x107002_3, .int .i64 x107003_3, .int .i64 x107004_3]) ?_ 0 _ rfl; (with_reducible repeat (first | refine blk_drewN ?_ _ | refine blk_drew ?_ | refine blk_alloc ?_ _)); exact BK106.out) Tryd.underlying48 rfl (by kernel_rfl)) rfl ?_
                              exact ⟨by first | rfl | (simp [errW_none, errW_some] <;> rfl) | (simp [*, errW_none, errW_some] <;> rfl), by repeat (first | (with_reducible first | exact HB.out | apply below_alloc | apply pw_below_drewN | apply below_drew1 | refine below_set ?_ GE106.out | refine below_set ?_ GE116.out) | exact HB.out)⟩
                    · rw [if_neg c24] at H
                      have c24b0 : ((t107.length : Int) == (wrap64 ((t115.size : Int) + 1))) = false := beq_eq_false_iff_ne.mpr c24
                      have c24b1 : ((t107.length : Int) != (wrap64 ((t115.size : Int) + 1))) = true := bne_iff_ne.mpr c24
                      simp only [Option.some.injEq, Prod.mk.injEq] at H
                      obtain ⟨rfl, rfl, rfl, rfl, rfl, rfl⟩ := H
                      obtain ⟨Ao67, co67, eo67⟩ := Kd.R_slice HO_6.out
                      subst eo67
                      have p113 : 0 ≤ (x7_2 : Int) := of_decide_eq_true (by first | (with_reducible assumption) | assumption)
                      have q113 : x7_2 < (t110.length : Int) := of_decide_eq_true (by first | (with_reducible assumption) | assumption)
                      obtain ⟨ad113, e113, hx113_0⟩ := Kd.at_string (Kd.R_reads' HO_6.out).2.2 x7_2 p113 q113
                      cases e113
                      replace p113 := eq_true p113
                      replace q113 := eq_true q113
                      have p114 : 0 ≤ (0 : Int) := (by omega)
                      have q114 : 0 < (t107.length : Int) := of_decide_eq_true (by first | (with_reducible assumption) | assumption)
                      obtain ⟨ad114, e114, hx114_0⟩ := Kd.at_string (Kd.R_reads' HO_5.out).2.2 0 p114 q114
                      cases e114
                      have qi114 : (0 < t107.length) = True := eq_true (by omega)
                      (try rw [show ((0 : Int)).toNat = 0 from rfl] at hx114_0)
                      (try rw [Addr.add_zero'] at hx114_0)
                      replace p114 := eq_true p114
                      replace q114 := eq_true q114
                      go_wp2_with (first | (go_at_call 47; (with_reducible refine (ontimeref05_Shape.calls k2 ((x7_2) % 256) t115 _ A23.out).mono ?_); rintro e w' ⟨rfl, ⟨nd, rfl⟩⟩; (try first | exact ⟨rfl, _, World.drewN_drewN _ _ _⟩ | exact ⟨rfl, _, Eq.trans (World.drewN_drewN _ _ _) (congrArg (World.drewN _) (Nat.add_assoc _ _ _))⟩)) | ((with_reducible refine gate_dst (N := 9) rfl ?_); refine box_event ?hg (N := 9) ?hd (cs := #[.int .u8 0, .int .i64 0, .int .i64 0, .int .i64 0, .int .i64 0]) (t := 48) ?hr ?_; (case hd => rfl); (case hg => rfl); (case hr => first | (go_simp; done) | (go_simp; rfl)); intro gb116 hg w68 hbox hb; have n0_ := Aside0.mk (Kd.R_below (by (with_reducible repeat (first | apply Kd.R_alloc | apply Kd.R_drewN | apply Kd.R_drew)); exact HO_5.out) hb); have n1_ := Aside0.mk (Kd.R_below (by (with_reducible repeat (first | apply Kd.R_alloc | apply Kd.R_drewN | apply Kd.R_drew)); exact HO_6.out) hb); have n2_ := Aside0.mk (blk_below (g := gb106) (o := .cells #[.int .u8 x107000_2, .int .i64 x107001_2, .int .i64 x107002_2, .int .i64 x107003_2, .int .i64 x107004_2] 48 (0, 0)) (by (with_reducible repeat (first | refine blk_drewN ?_ _ | refine blk_drew ?_ | refine blk_alloc ?_ _)); exact BK106.out) hb); have n3_ := Aside0.mk (below_step (by repeat (first | (with_reducible first | exact HB.out | apply below_alloc | apply pw_below_drewN | apply below_drew1 | refine below_set ?_ GE106.out) | exact HB.out)) hb); have n4_ := Aside0.mk (hbox); have n5_ := Aside0.mk ((by rw [hg]; exact (below_size (by repeat (first | (with_reducible first | exact HB.out | apply below_alloc | apply pw_below_drewN | apply below_drew1 | refine below_set ?_ GE106.out) | exact HB.out))) : w.heap.size ≤ gb116)); have n6_ := Aside0.mk ((by rw [hg]; exact (below_size (by repeat (first | (with_reducible first | exact HB.out | apply below_alloc | apply pw_below_drewN | apply below_drew1 | refine below_set ?_ GE106.out) | exact HB.out))) : w.heap.size ≤ gb116)); have n7_ := Aside0.mk ((by rw [hg]; exact Nat.ne_of_lt (blk_lt (g := gb106) (o := .cells #[.int .u8 x107000_2, .int .i64 x107001_2, .int .i64 x107002_2, .int .i64 x107003_2, .int .i64 x107004_2] 48 (0, 0)) (by (with_reducible repeat (first | refine blk_drewN ?_ _ | refine blk_drew ?_ | refine blk_alloc ?_ _)); exact BK106.out)) : gb106 ≠ gb116)); have n8_ := Aside0.mk ((by rw [hg]; exact Nat.ne_of_gt (blk_lt (g := gb106) (o := .cells #[.int .u8 x107000_2, .int .i64 x107001_2, .int .i64 x107002_2, .int .i64 x107003_2, .int .i64 x107004_2] 48 (0, 0)) (by (with_reducible repeat (first | refine blk_drewN ?_ _ | refine blk_drew ?_ | refine blk_alloc ?_ _)); exact BK106.out)) : gb116 ≠ gb106)); clear HO_5; clear HO_6; clear BK106; clear HB; have HO_5 := n0_; have HO_6 := n1_; have BK106 := n2_; have HB := n3_; have BK116 := n4_; have GW116 := n5_; have GE116 := n6_; have NB106_116 := n7_; have NB116_106 := n8_; clear n0_ n1_ n2_ n3_ n4_ n5_ n6_ n7_ n8_; clear hb hbox hg; have hnb69 := NB116_106.out; have hnc69 := NB106_116.out; have hcz70_0 : w68.cell? ⟨gb116, 0, none⟩ = some (.int .u8 0) := (blk_cell BK116.out 0).trans rfl; have hcz70_1 : w68.cell? ⟨gb116, 1, none⟩ = some (.int .i64 0) := (blk_cell BK116.out 1).trans rfl; have hcz70_2 : w68.cell? ⟨gb116, 2, none⟩ = some (.int .i64 0) := (blk_cell BK116.out 2).trans rfl; have hcz70_3 : w68.cell? ⟨gb116, 3, none⟩ = some (.int .i64 0) := (blk_cell BK116.out 3).trans rfl; have hcz70_4 : w68.cell? ⟨gb116, 4, none⟩ = some (.int .i64 0) := (blk_cell BK116.out 4).trans rfl; have hfz70_0 := blk_frozen BK116.out 0; have hfz70_1 := blk_frozen BK116.out 1; have hfz70_2 := blk_frozen BK116.out 2; have hfz70_3 := blk_frozen BK116.out 3; have hfz70_4 := blk_frozen BK116.out 4; have hcz71_0 : w68.cell? ⟨gb106, 0, none⟩ = some (.int .u8 x107000_2) := (blk_cell BK106.out 0).trans rfl; have hcz71_1 : w68.cell? ⟨gb106, 1, none⟩ = some (.int .i64 x107001_2) := (blk_cell BK106.out 1).trans rfl; have hcz71_2 : w68.cell? ⟨gb106, 2, none⟩ = some (.int .i64 x107002_2) := (blk_cell BK106.out 2).trans rfl; have hcz71_3 : w68.cell? ⟨gb106, 3, none⟩ = some (.int .i64 x107003_2) := (blk_cell BK106.out 3).trans rfl; have hcz71_4 : w68.cell? ⟨gb106, 4, none⟩ = some (.int .i64 x107004_2) := (blk_cell BK106.out 4).trans rfl; have hfz71_0 := blk_frozen BK106.out 0; have hfz71_1 := blk_frozen BK106.out 1; have hfz71_2 := blk_frozen BK106.out 2; have hfz71_3 := blk_frozen BK106.out 3; have hfz71_4 := blk_frozen BK106.out 4))
                      repeat (go_quiet (first | (go_at_call 47; (with_reducible refine (ontimeref05_Shape.calls k2 ((x7_2) % 256) t115 _ A23.out).mono ?_); rintro e w' ⟨rfl, ⟨nd, rfl⟩⟩; (try first | exact ⟨rfl, _, World.drewN_drewN _ _ _⟩ | exact ⟨rfl, _, Eq.trans (World.drewN_drewN _ _ _) (congrArg (World.drewN _) (Nat.add_assoc _ _ _))⟩)) | ((with_reducible refine gate_dst (N := 9) rfl ?_); refine box_event ?hg (N := 9) ?hd (cs := #[.int .u8 0, .int .i64 0, .int .i64 0, .int .i64 0, .int .i64 0]) (t := 48) ?hr ?_; (case hd => rfl); (case hg => rfl); (case hr => first | (go_simp; done) | (go_simp; rfl)); intro gb116 hg w68 hbox hb; have n0_ := Aside0.mk (Kd.R_below (by (with_reducible repeat (first | apply Kd.R_alloc | apply Kd.R_drewN | apply Kd.R_drew)); exact HO_5.out) hb); have n1_ := Aside0.mk (Kd.R_below (by (with_reducible repeat (first | apply Kd.R_alloc | apply Kd.R_drewN | apply Kd.R_drew)); exact HO_6.out) hb); have n2_ := Aside0.mk (blk_below (g := gb106) (o := .cells #[.int .u8 x107000_2, .int .i64 x107001_2, .int .i64 x107002_2, .int .i64 x107003_2, .int .i64 x107004_2] 48 (0, 0)) (by (with_reducible repeat (first | refine blk_drewN ?_ _ | refine blk_drew ?_ | refine blk_alloc ?_ _)); exact BK106.out) hb); have n3_ := Aside0.mk (below_step (by repeat (first | (with_reducible first | exact HB.out | apply below_alloc | apply pw_below_drewN | apply below_drew1 | refine below_set ?_ GE106.out) | exact HB.out)) hb); have n4_ := Aside0.mk (hbox); have n5_ := Aside0.mk ((by rw [hg]; exact (below_size (by repeat (first | (with_reducible first | exact HB.out | apply below_alloc | apply pw_below_drewN | apply below_drew1 | refine below_set ?_ GE106.out) | exact HB.out))) : w.heap.size ≤ gb116)); have n6_ := Aside0.mk ((by rw [hg]; exact (below_size (by repeat (first | (with_reducible first | exact HB.out | apply below_alloc | apply pw_below_drewN | apply below_drew1 | refine below_set ?_ GE106.out) | exact HB.out))) : w.heap.size ≤ gb116)); have n7_ := Aside0.mk ((by rw [hg]; exact Nat.ne_of_lt (blk_lt (g := gb106) (o := .cells #[.int .u8 x107000_2, .int .i64 x107001_2, .int .i64 x107002_2, .int .i64 x107003_2, .int .i64 x107004_2] 48 (0, 0)) (by (with_reducible repeat (first | refine blk_drewN ?_ _ | refine blk_drew ?_ | refine blk_alloc ?_ _)); exact BK106.out)) : gb106 ≠ gb116)); have n8_ := Aside0.mk ((by rw [hg]; exact Nat.ne_of_gt (blk_lt (g := gb106) (o := .cells #[.int .u8 x107000_2, .int .i64 x107001_2, .int .i64 x107002_2, .int .i64 x107003_2, .int .i64 x107004_2] 48 (0, 0)) (by (with_reducible repeat (first | refine blk_drewN ?_ _ | refine blk_drew ?_ | refine blk_alloc ?_ _)); exact BK106.out)) : gb116 ≠ gb106)); clear HO_5; clear HO_6; clear BK106; clear HB; have HO_5 := n0_; have HO_6 := n1_; have BK106 := n2_; have HB := n3_; have BK116 := n4_; have GW116 := n5_; have GE116 := n6_; have NB106_116 := n7_; have NB116_106 := n8_; clear n0_ n1_ n2_ n3_ n4_ n5_ n6_ n7_ n8_; clear hb hbox hg; have hnb69 := NB116_106.out; have hnc69 := NB106_116.out; have hcz70_0 : w68.cell? ⟨gb116, 0, none⟩ = some (.int .u8 0) := (blk_cell BK116.out 0).trans rfl; have hcz70_1 : w68.cell? ⟨gb116, 1, none⟩ = some (.int .i64 0) := (blk_cell BK116.out 1).trans rfl; have hcz70_2 : w68.cell? ⟨gb116, 2, none⟩ = some (.int .i64 0) := (blk_cell BK116.out 2).trans rfl; have hcz70_3 : w68.cell? ⟨gb116, 3, none⟩ = some (.int .i64 0) := (blk_cell BK116.out 3).trans rfl; have hcz70_4 : w68.cell? ⟨gb116, 4, none⟩ = some (.int .i64 0) := (blk_cell BK116.out 4).trans rfl; have hfz70_0 := blk_frozen BK116.out 0; have hfz70_1 := blk_frozen BK116.out 1; have hfz70_2 := blk_frozen BK116.out 2; have hfz70_3 := blk_frozen BK116.out 3; have hfz70_4 := blk_frozen BK116.out 4; have hcz71_0 : w68.cell? ⟨gb106, 0, none⟩ = some (.int .u8 x107000_2) := (blk_cell BK106.out 0).trans rfl; have hcz71_1 : w68.cell? ⟨gb106, 1, none⟩ = some (.int .i64 x107001_2) := (blk_cell BK106.out 1).trans rfl; have hcz71_2 : w68.cell? ⟨gb106, 2, none⟩ = some (.int .i64 x107002_2) := (blk_cell BK106.out 2).trans rfl; have hcz71_3 : w68.cell? ⟨gb106, 3, none⟩ = some (.int .i64 x107003_2) := (blk_cell BK106.out 3).trans rfl; have hcz71_4 : w68.cell? ⟨gb106, 4, none⟩ = some (.int .i64 x107004_2) := (blk_cell BK106.out 4).trans rfl; have hfz71_0 := blk_frozen BK106.out 0; have hfz71_1 := blk_frozen BK106.out 1; have hfz71_2 := blk_frozen BK106.out 2; have hfz71_3 := blk_frozen BK106.out 3; have hfz71_4 := blk_frozen BK106.out 4)); try go_wp2_with (first | (go_at_call 47; (with_reducible refine (ontimeref05_Shape.calls k2 ((x7_2) % 256) t115 _ A23.out).mono ?_); rintro e w' ⟨rfl, ⟨nd, rfl⟩⟩; (try first | exact ⟨rfl, _, World.drewN_drewN _ _ _⟩ | exact ⟨rfl, _, Eq.trans (World.drewN_drewN _ _ _) (congrArg (World.drewN _) (Nat.add_assoc _ _ _))⟩)) | ((with_reducible refine gate_dst (N := 9) rfl ?_); refine box_event ?hg (N := 9) ?hd (cs := #[.int .u8 0, .int .i64 0, .int .i64 0, .int .i64 0, .int .i64 0]) (t := 48) ?hr ?_; (case hd => rfl); (case hg => rfl); (case hr => first | (go_simp; done) | (go_simp; rfl)); intro gb116 hg w68 hbox hb; have n0_ := Aside0.mk (Kd.R_below (by (with_reducible repeat (first | apply Kd.R_alloc | apply Kd.R_drewN | apply Kd.R_drew)); exact HO_5.out) hb); have n1_ := Aside0.mk (Kd.R_below (by (with_reducible repeat (first | apply Kd.R_alloc | apply Kd.R_drewN | apply Kd.R_drew)); exact HO_6.out) hb); have n2_ := Aside0.mk (blk_below (g := gb106) (o := .cells #[.int .u8 x107000_2, .int .i64 x107001_2, .int .i64 x107002_2, .int .i64 x107003_2, .int .i64 x107004_2] 48 (0, 0)) (by (with_reducible repeat (first | refine blk_drewN ?_ _ | refine blk_drew ?_ | refine blk_alloc ?_ _)); exact BK106.out) hb); have n3_ := Aside0.mk (below_step (by repeat (first | (with_reducible first | exact HB.out | apply below_alloc | apply pw_below_drewN | apply below_drew1 | refine below_set ?_ GE106.out) | exact HB.out)) hb); have n4_ := Aside0.mk (hbox); have n5_ := Aside0.mk ((by rw [hg]; exact (below_size (by repeat (first | (with_reducible first | exact HB.out | apply below_alloc | apply pw_below_drewN | apply below_drew1 | refine below_set ?_ GE106.out) | exact HB.out))) : w.heap.size ≤ gb116)); have n6_ := Aside0.mk ((by rw [hg]; exact (below_size (by repeat (first | (with_reducible first | exact HB.out | apply below_alloc | apply pw_below_drewN | apply below_drew1 | refine below_set ?_ GE106.out) | exact HB.out))) : w.heap.size ≤ gb116)); have n7_ := Aside0.mk ((by rw [hg]; exact Nat.ne_of_lt (blk_lt (g := gb106) (o := .cells #[.int .u8 x107000_2, .int .i64 x107001_2, .int .i64 x107002_2, .int .i64 x107003_2, .int .i64 x107004_2] 48 (0, 0)) (by (with_reducible repeat (first | refine blk_drewN ?_ _ | refine blk_drew ?_ | refine blk_alloc ?_ _)); exact BK106.out)) : gb106 ≠ gb116)); have n8_ := Aside0.mk ((by rw [hg]; exact Nat.ne_of_gt (blk_lt (g := gb106) (o := .cells #[.int .u8 x107000_2, .int .i64 x107001_2, .int .i64 x107002_2, .int .i64 x107003_2, .int .i64 x107004_2] 48 (0, 0)) (by (with_reducible repeat (first | refine blk_drewN ?_ _ | refine blk_drew ?_ | refine blk_alloc ?_ _)); exact BK106.out)) : gb116 ≠ gb106)); clear HO_5; clear HO_6; clear BK106; clear HB; have HO_5 := n0_; have HO_6 := n1_; have BK106 := n2_; have HB := n3_; have BK116 := n4_; have GW116 := n5_; have GE116 := n6_; have NB106_116 := n7_; have NB116_106 := n8_; clear n0_ n1_ n2_ n3_ n4_ n5_ n6_ n7_ n8_; clear hb hbox hg; have hnb69 := NB116_106.out; have hnc69 := NB106_116.out; have hcz70_0 : w68.cell? ⟨gb116, 0, none⟩ = some (.int .u8 0) := (blk_cell BK116.out 0).trans rfl; have hcz70_1 : w68.cell? ⟨gb116, 1, none⟩ = some (.int .i64 0) := (blk_cell BK116.out 1).trans rfl; have hcz70_2 : w68.cell? ⟨gb116, 2, none⟩ = some (.int .i64 0) := (blk_cell BK116.out 2).trans rfl; have hcz70_3 : w68.cell? ⟨gb116, 3, none⟩ = some (.int .i64 0) := (blk_cell BK116.out 3).trans rfl; have hcz70_4 : w68.cell? ⟨gb116, 4, none⟩ = some (.int .i64 0) := (blk_cell BK116.out 4).trans rfl; have hfz70_0 := blk_frozen BK116.out 0; have hfz70_1 := blk_frozen BK116.out 1; have hfz70_2 := blk_frozen BK116.out 2; have hfz70_3 := blk_frozen BK116.out 3; have hfz70_4 := blk_frozen BK116.out 4; have hcz71_0 : w68.cell? ⟨gb106, 0, none⟩ = some (.int .u8 x107000_2) := (blk_cell BK106.out 0).trans rfl; have hcz71_1 : w68.cell? ⟨gb106, 1, none⟩ = some (.int .i64 x107001_2) := (blk_cell BK106.out 1).trans rfl; have hcz71_2 : w68.cell? ⟨gb106, 2, none⟩ = some (.int .i64 x107002_2) := (blk_cell BK106.out 2).trans rfl; have hcz71_3 : w68.cell? ⟨gb106, 3, none⟩ = some (.int .i64 x107003_2) := (blk_cell BK106.out 3).trans rfl; have hcz71_4 : w68.cell? ⟨gb106, 4, none⟩ = some (.int .i64 x107004_2) := (blk_cell BK106.out 4).trans rfl; have hfz71_0 := blk_frozen BK106.out 0; have hfz71_1 := blk_frozen BK106.out 1; have hfz71_2 := blk_frozen BK106.out 2; have hfz71_3 := blk_frozen BK106.out 3; have hfz71_4 := blk_frozen BK106.out 4)))
                      refine bodyPost_ret (results_ct rfl _ _ gb106 48 #[.int .u8 0, .int .i64 0, .int .i64 0, .int .i64 0, .int .i64 0] (0, 0) _ rfl (by (with_reducible repeat (first | refine blk_drewN ?_ _ | refine blk_drew ?_ | refine blk_alloc ?_ _)); refine blk_put (cs := #[.int .u8 0, .int .i64 0, .int .i64 0, .int .i64 0, .int .i64 x107004_2]) ?_ 4 _ rfl; (with_reducible repeat (first | refine blk_drewN ?_ _ | refine blk_drew ?_ | refine blk_alloc ?_ _)); refine blk_put (cs := #[.int .u8 0, .int .i64 0, .int .i64 0, .int .i64 x107003_2, .int .i64 x107004_2]) ?_ 3 _ rfl; (with_reducible repeat (first | refine blk_drewN ?_ _ | refine blk_drew ?_ | refine blk_alloc ?_ _)); refine blk_put (cs := #[.int .u8 0, .int .i64 0, .int .i64 x107002_2, .int .i64 x107003_2, .int .i64 x107004_2]) ?_ 2 _ rfl; (with_reducible repeat (first | refine blk_drewN ?_ _ | refine blk_drew ?_ | refine blk_alloc ?_ _)); refine blk_put (cs := #[.int .u8 0, .int .i64 x107001_2, .int .i64 x107002_2, .int .i64 x107003_2, .int .i64 x107004_2]) ?_ 1 _ rfl; (with_reducible repeat (first | refine blk_drewN ?_ _ | refine blk_drew ?_ | refine blk_alloc ?_ _)); refine blk_put (cs := #[.int .u8 x107000_2, .int .i64 x107001_2, .int .i64 x107002_2, .int .i64 x107003_2, .int .i64 x107004_2]) ?_ 0 _ rfl; (with_reducible repeat (first | refine blk_drewN ?_ _ | refine blk_drew ?_ | refine blk_alloc ?_ _)); refine blk_far ?_ NB106_116.out _; (with_reducible repeat (first | refine blk_drewN ?_ _ | refine blk_drew ?_ | refine blk_alloc ?_ _)); refine blk_far ?_ NB106_116.out _; (with_reducible repeat (first | refine blk_drewN ?_ _ | refine blk_drew ?_ | refine blk_alloc ?_ _)); refine blk_far ?_ NB106_116.out _; (with_reducible repeat (first | refine blk_drewN ?_ _ | refine blk_drew ?_ | refine blk_alloc ?_ _)); refine blk_far ?_ NB106_116.out _; (with_reducible repeat (first | refine blk_drewN ?_ _ | refine blk_drew ?_ | refine blk_alloc ?_ _)); refine blk_far ?_ NB106_116.out _; (with_reducible repeat (first | refine blk_drewN ?_ _ | refine blk_drew ?_ | refine blk_alloc ?_ _)); exact BK106.out) Tryd.underlying48 rfl (by kernel_rfl)) rfl ?_
                      exact ⟨by first | rfl | (simp [errW_none, errW_some] <;> rfl) | (simp [*, errW_none, errW_some] <;> rfl), by repeat (first | (with_reducible first | exact HB.out | apply below_alloc | apply pw_below_drewN | apply below_drew1 | refine below_set ?_ GE106.out | refine below_set ?_ GE116.out) | exact HB.out)⟩
                  · rw [if_neg c22] at H
                    have c22b0 : ((rdOf ByteArray.empty t110 x7_2).toList == (rdOf ByteArray.empty t107 0).toList) = false := beq_eq_false_iff_ne.mpr c22
                    have c22b1 : ((rdOf ByteArray.empty t110 x7_2).toList != (rdOf ByteArray.empty t107 0).toList) = true := bne_iff_ne.mpr c22
                    have H' := Aside0.mk H
                    clear H
                    obtain ⟨Ao72, co72, eo72⟩ := Kd.R_slice HO_6.out
                    subst eo72
                    have p113 : 0 ≤ (x7_2 : Int) := of_decide_eq_true (by first | (with_reducible assumption) | assumption)
                    have q113 : x7_2 < (t110.length : Int) := of_decide_eq_true (by first | (with_reducible assumption) | assumption)
                    obtain ⟨ad113, e113, hx113_0⟩ := Kd.at_string (Kd.R_reads' HO_6.out).2.2 x7_2 p113 q113
                    cases e113
                    replace p113 := eq_true p113
                    replace q113 := eq_true q113
                    have p114 : 0 ≤ (0 : Int) := (by omega)
                    have q114 : 0 < (t107.length : Int) := of_decide_eq_true (by first | (with_reducible assumption) | assumption)
                    obtain ⟨ad114, e114, hx114_0⟩ := Kd.at_string (Kd.R_reads' HO_5.out).2.2 0 p114 q114
                    cases e114
                    have qi114 : (0 < t107.length) = True := eq_true (by omega)
                    (try rw [show ((0 : Int)).toNat = 0 from rfl] at hx114_0)
                    (try rw [Addr.add_zero'] at hx114_0)
                    replace p114 := eq_true p114
                    replace q114 := eq_true q114
                    go_wp2
                    repeat (go_quiet (fail); try go_wp2)
                    go_roundg k2
                    case measure => have := HJ1.out; have := HK2.out; omega
                    case rel => exact ⟨(wrap64 (x7_2 + 1)), (x107000_2), (x107001_2), (x107002_2), (x107003_2), (x107004_2), (by first | rfl | (simp; done) | (simp [*]; done)), H', ⟨by have := HJ1.out; have := HK2.out; omega⟩, ⟨by (with_reducible repeat (first | apply Kd.R_alloc | apply Kd.R_drewN | apply Kd.R_drew)); exact HO_5.out⟩, ⟨by (with_reducible repeat (first | apply Kd.R_alloc | apply Kd.R_drewN | apply Kd.R_drew)); exact HO_6.out⟩, ⟨by (with_reducible repeat (first | refine blk_drewN ?_ _ | refine blk_drew ?_ | refine blk_alloc ?_ _)); exact BK106.out⟩, ⟨by repeat (first | (with_reducible first | exact HB.out | apply below_alloc | apply pw_below_drewN | apply below_drew1 | refine below_set ?_ GE106.out) | exact HB.out)⟩⟩
                · rw [if_neg c21] at H
                  exact absurd H (by simp)
              · rw [if_neg c20] at H
                exact absurd H (by simp)
            · rw [if_neg c19] at H
              have c19b0 : decide (x7_2 < (t110.length : Int)) = false := decide_eq_false c19
              clear c19
              simp only [Option.some.injEq, Prod.mk.injEq] at H
              obtain ⟨rfl, rfl, rfl, rfl, rfl, rfl⟩ := H
              obtain ⟨Ao73, co73, eo73⟩ := Kd.R_slice HO_6.out
              subst eo73
              have hcz74_0 : wr.cell? ⟨gb106, 0, none⟩ = some (.int .u8 x107000_2) := (blk_cell BK106.out 0).trans rfl
              have hcz74_1 : wr.cell? ⟨gb106, 1, none⟩ = some (.int .i64 x107001_2) := (blk_cell BK106.out 1).trans rfl
              have hcz74_2 : wr.cell? ⟨gb106, 2, none⟩ = some (.int .i64 x107002_2) := (blk_cell BK106.out 2).trans rfl
              have hcz74_3 : wr.cell? ⟨gb106, 3, none⟩ = some (.int .i64 x107003_2) := (blk_cell BK106.out 3).trans rfl
              have hcz74_4 : wr.cell? ⟨gb106, 4, none⟩ = some (.int .i64 x107004_2) := (blk_cell BK106.out 4).trans rfl
              have hfz74_0 := blk_frozen BK106.out 0
              have hfz74_1 := blk_frozen BK106.out 1
              have hfz74_2 := blk_frozen BK106.out 2
              have hfz74_3 := blk_frozen BK106.out 3
              have hfz74_4 := blk_frozen BK106.out 4
              go_wp2
              repeat (go_quiet (fail); try go_wp2)
              refine bodyPost_ret (results_ct rfl _ _ gb106 48 #[.int .u8 0, .int .i64 0, .int .i64 0, .int .i64 0, .int .i64 0] (0, 0) _ rfl (by (with_reducible repeat (first | refine blk_drewN ?_ _ | refine blk_drew ?_ | refine blk_alloc ?_ _)); refine blk_put (cs := #[.int .u8 0, .int .i64 0, .int .i64 0, .int .i64 0, .int .i64 x107004_2]) ?_ 4 _ rfl; (with_reducible repeat (first | refine blk_drewN ?_ _ | refine blk_drew ?_ | refine blk_alloc ?_ _)); refine blk_put (cs := #[.int .u8 0, .int .i64 0, .int .i64 0, .int .i64 x107003_2, .int .i64 x107004_2]) ?_ 3 _ rfl; (with_reducible repeat (first | refine blk_drewN ?_ _ | refine blk_drew ?_ | refine blk_alloc ?_ _)); refine blk_put (cs := #[.int .u8 0, .int .i64 0, .int .i64 x107002_2, .int .i64 x107003_2, .int .i64 x107004_2]) ?_ 2 _ rfl; (with_reducible repeat (first | refine blk_drewN ?_ _ | refine blk_drew ?_ | refine blk_alloc ?_ _)); refine blk_put (cs := #[.int .u8 0, .int .i64 x107001_2, .int .i64 x107002_2, .int .i64 x107003_2, .int .i64 x107004_2]) ?_ 1 _ rfl; (with_reducible repeat (first | refine blk_drewN ?_ _ | refine blk_drew ?_ | refine blk_alloc ?_ _)); refine blk_put (cs := #[.int .u8 x107000_2, .int .i64 x107001_2, .int .i64 x107002_2, .int .i64 x107003_2, .int .i64 x107004_2]) ?_ 0 _ rfl; (with_reducible repeat (first | refine blk_drewN ?_ _ | refine blk_drew ?_ | refine blk_alloc ?_ _)); exact BK106.out) Tryd.underlying48 rfl (by kernel_rfl)) rfl ?_
              exact ⟨by first | rfl | (simp [errW_none, errW_some] <;> rfl) | (simp [*, errW_none, errW_some] <;> rfl), by repeat (first | (with_reducible first | exact HB.out | apply below_alloc | apply pw_below_drewN | apply below_drew1 | refine below_set ?_ GE106.out) | exact HB.out)⟩

end Go.Proofs.YtmgafakahbanaaaDoor.Pa
