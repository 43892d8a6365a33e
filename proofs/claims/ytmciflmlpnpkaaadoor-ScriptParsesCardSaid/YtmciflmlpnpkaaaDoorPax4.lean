-- Lines by a program of this session's (wip/gprint.py over the kit's printing program): the walks of plain functions. Not trusted: Lean checks it.
import Derived.Test.YtmciflmlpnpkaaaDoorPax0
namespace Go.Proofs.YtmciflmlpnpkaaaDoor.Pa
open Go.RowKit Go.Proofs.YtmciflmlpnpkaaaDoorW.PrintWords Go.Proofs.YtmciflmlpnpkaaaDoorW.PrintLast Go.Proofs.YtmciflmlpnpkaaaDoorW.PrintMore
attribute [local go_sem] max2_int min2_int max_two min_two max_three min_three max_four min_four   -- for this text's walks alone
set_option linter.unusedVariables false
set_option linter.unusedSimpArgs false

/-! ### ontimeref51_Number: function 9 -/
mutual
def ontimeref51_Number.j0 : Nat → Int → ByteArray → Option (ByteArray)
  | 0, _, _ => none
  | k + 1, x0, x3 => ontimeref51_Number.l0 k x0 x3 (⟨#[]⟩ : ByteArray)
def ontimeref51_Number.l0 : Nat → Int → ByteArray → ByteArray → Option (ByteArray)
  | 0, _, _, _ => none
  | k + 1, x0, x3, x4 => if x0 = 0 then (ontimeref51_Number.j2 k x0 x3 x4 (x4.toList == ([] : List UInt8))) else (ontimeref51_Number.j2 k x0 x3 x4 true)
def ontimeref51_Number.j2 : Nat → Int → ByteArray → ByteArray → Bool → Option (ByteArray)
  | 0, _, _, _, _ => none
  | k + 1, x0, x3, x4, x13 => if x13 = true then (if (Int.tmod x0 10) < 0 then ((some (([(wrap64 (48 + (wrap64 (-(Int.tmod x0 10))))) % 256] : List Int) : List Int)).bind fun y140 => (if (strOfNums y140).size + x4.size ≤ 9223372036854775807 then (ontimeref51_Number.l0 k (wrap64 (Int.tdiv x0 10)) x3 ((strOfNums y140) ++ x4)) else (none))) else ((some (([(wrap64 (48 + (Int.tmod x0 10))) % 256] : List Int) : List Int)).bind fun y143 => (if (strOfNums y143).size + x4.size ≤ 9223372036854775807 then (ontimeref51_Number.l0 k (wrap64 (Int.tdiv x0 10)) x3 ((strOfNums y143) ++ x4)) else (none)))) else (if x3.size + x4.size ≤ 9223372036854775807 then (some (x3 ++ x4)) else (none))
end
def ontimeref51_Number.f (k : Nat) (a0 : Int) : Option (ByteArray) := if a0 < 0 then (ontimeref51_Number.j0 k a0 (⟨#[45]⟩ : ByteArray)) else (ontimeref51_Number.j0 k a0 (⟨#[]⟩ : ByteArray))
theorem ontimeref51_Number.mono_l : ∀ k, (∀ y0 y1, LeO (ontimeref51_Number.j0 k y0 y1) (ontimeref51_Number.j0 (k + 1) y0 y1)) ∧ (∀ y0 y1 y2, LeO (ontimeref51_Number.l0 k y0 y1 y2) (ontimeref51_Number.l0 (k + 1) y0 y1 y2)) ∧ (∀ y0 y1 y2 y3, LeO (ontimeref51_Number.j2 k y0 y1 y2 y3) (ontimeref51_Number.j2 (k + 1) y0 y1 y2 y3))
  | 0 => ⟨fun _ _ r h => by simp [ontimeref51_Number.j0] at h, fun _ _ _ r h => by simp [ontimeref51_Number.l0] at h, fun _ _ _ _ r h => by simp [ontimeref51_Number.j2] at h⟩
  | k + 1 => by
    obtain ⟨ih0, ih1, ih2⟩ := ontimeref51_Number.mono_l k
    refine ⟨?_, ?_, ?_⟩
    · intro y0 y1
      unfold ontimeref51_Number.j0
      repeat' first
      | (with_reducible exact ih0 _ _)
      | (with_reducible exact ih1 _ _ _)
      | (with_reducible exact ih2 _ _ _ _)
      | (with_reducible exact LeO.refl _)
      | (with_reducible exact LeO.none _)
      | (with_reducible refine LeO.ite ?_ ?_)
      | (with_reducible refine LeO.bind ?_ (fun _ => ?_))
      | exact ih0 _ _
      | exact ih1 _ _ _
      | exact ih2 _ _ _ _
      | exact LeO.none _
      | refine LeO.ite ?_ ?_
      | refine LeO.bind ?_ (fun _ => ?_)
    · intro y0 y1 y2
      unfold ontimeref51_Number.l0
      repeat' first
      | (with_reducible exact ih0 _ _)
      | (with_reducible exact ih1 _ _ _)
      | (with_reducible exact ih2 _ _ _ _)
      | (with_reducible exact LeO.refl _)
      | (with_reducible exact LeO.none _)
      | (with_reducible refine LeO.ite ?_ ?_)
      | (with_reducible refine LeO.bind ?_ (fun _ => ?_))
      | exact ih0 _ _
      | exact ih1 _ _ _
      | exact ih2 _ _ _ _
      | exact LeO.none _
      | refine LeO.ite ?_ ?_
      | refine LeO.bind ?_ (fun _ => ?_)
    · intro y0 y1 y2 y3
      unfold ontimeref51_Number.j2
      repeat' first
      | (with_reducible exact ih0 _ _)
      | (with_reducible exact ih1 _ _ _)
      | (with_reducible exact ih2 _ _ _ _)
      | (with_reducible exact LeO.refl _)
      | (with_reducible exact LeO.none _)
      | (with_reducible refine LeO.ite ?_ ?_)
      | (with_reducible refine LeO.bind ?_ (fun _ => ?_))
      | exact ih0 _ _
      | exact ih1 _ _ _
      | exact ih2 _ _ _ _
      | exact LeO.none _
      | refine LeO.ite ?_ ?_
      | refine LeO.bind ?_ (fun _ => ?_)
theorem ontimeref51_Number.mono : ∀ a0 k, LeO (ontimeref51_Number.f k a0) (ontimeref51_Number.f (k + 1) a0) := by
  intro a0 k
  obtain ⟨ih0, ih1, ih2⟩ := ontimeref51_Number.mono_l k
  unfold ontimeref51_Number.f
  repeat' first
      | (with_reducible exact ih0 _ _)
      | (with_reducible exact ih1 _ _ _)
      | (with_reducible exact ih2 _ _ _ _)
      | (with_reducible exact LeO.refl _)
      | (with_reducible exact LeO.none _)
      | (with_reducible refine LeO.ite ?_ ?_)
      | (with_reducible refine LeO.bind ?_ (fun _ => ?_))
      | exact ih0 _ _
      | exact ih1 _ _ _
      | exact ih2 _ _ _ _
      | exact LeO.none _
      | refine LeO.ite ?_ ?_
      | refine LeO.bind ?_ (fun _ => ?_)
set_option maxHeartbeats 8000000 in
set_option maxRecDepth 100000 in
theorem ontimeref51_Number.calls (k : Nat) (a0 : Int) (r : ByteArray) (w : World) (h : ontimeref51_Number.f k a0 = some r) :
    Calls Tryd.prog 9 #[.int .i64 a0] w fun e w' => e = .returned (.string r) ∧ Below w.heap.size w w' := by
  have HB := Aside0.mk (Below.refl w.heap.size w)
  have H : (if a0 < 0 then (ontimeref51_Number.j0 k a0 (⟨#[45]⟩ : ByteArray)) else (ontimeref51_Number.j0 k a0 (⟨#[]⟩ : ByteArray))) = some r := h
  clear h
  have HC2 := Aside0.mk H
  clear H
  go_enter Tryd.func9, Tryd.ntmps9
  go_upto_if 7 with (fail)
  go_cut [3] (fun v3 wc => ∃ (kq : Nat) (x3_1 : ByteArray), v3 = .string x3_1 ∧ Aside0 (ontimeref51_Number.j0 kq a0 x3_1 = some r) ∧ Aside0 (kq ≤ k) ∧ Aside0 (Below w.heap.size w wc))
  case first =>
    have H := HC2.out
    clear HC2
    by_cases c3 : a0 < 0
    · rw [if_pos c3] at H
      have c3b0 : decide (a0 < 0) = true := decide_eq_true c3
      clear c3
      (first | rw [c3b0] | (simp only [i64_w, i32_w]; rw [c3b0]) | skip)
      have H' := Aside0.mk H
      clear H
      go_wp2
      go_meet
      case rel => exact ⟨_, ((⟨#[45]⟩ : ByteArray)), (by first | rfl | (simp; done) | (simp [*]; done)), H', ⟨by first | omega | exact Nat.le_refl _⟩, ⟨by repeat (first | (with_reducible first | exact HB.out | apply below_alloc | apply pw_below_drewN | apply below_drew1) | exact HB.out)⟩⟩
    · rw [if_neg c3] at H
      have c3b0 : decide (a0 < 0) = false := decide_eq_false c3
      clear c3
      (first | rw [c3b0] | (simp only [i64_w, i32_w]; rw [c3b0]) | skip)
      have H' := Aside0.mk H
      clear H
      go_wp2
      go_meet
      case rel => exact ⟨_, ((⟨#[]⟩ : ByteArray)), (by first | rfl | (simp; done) | (simp [*]; done)), H', ⟨by first | omega | exact Nat.le_refl _⟩, ⟨by repeat (first | (with_reducible first | exact HB.out | apply below_alloc | apply pw_below_drewN | apply below_drew1) | exact HB.out)⟩⟩
  case rest =>
    clear HC2
    try clear p2
    try clear c3
    try clear c3b0
    obtain ⟨kq, x3_1, rfl, HA, HJ1, HB⟩ := hcut
    cases kq with
    | zero => exact absurd HA.out (by simp [ontimeref51_Number.j0])
    | succ kj1 =>
      have H := HA.out
      clear HA
      simp only [ontimeref51_Number.j0] at H
      have H' := Aside0.mk H
      clear H
      go_wp2
      go_loopg [0, 4] kj1 (fun kq v0 v4 w' => ∃ (x0_2 : Int) (x4_2 : ByteArray), v0 = .int .i64 x0_2 ∧ v4 = .string x4_2 ∧ Aside0 (ontimeref51_Number.l0 kq x0_2 x3_1 x4_2 = some r) ∧ Aside0 (kq ≤ kj1) ∧ Aside0 (Below w.heap.size w w'))
      case atStart => exact ⟨(a0), ((⟨#[]⟩ : ByteArray)), (by first | rfl | (simp; done) | (simp [*]; done)), (by first | rfl | (simp; done) | (simp [*]; done)), H', ⟨Nat.le_refl _⟩, ⟨by repeat (first | (with_reducible first | exact HB.out | apply below_alloc | apply pw_below_drewN | apply below_drew1) | exact HB.out)⟩⟩
      case round =>
        clear H'
        try clear p2
        try clear c3
        try clear c3b0
        try clear p2
        obtain ⟨x0_2, x4_2, rfl, rfl, HA, HK2, HB⟩ := hrel
        cases gk with
        | zero => exact absurd HA.out (by simp [ontimeref51_Number.l0])
        | succ k2 =>
          have H := HA.out
          clear HA
          simp only [ontimeref51_Number.l0] at H
          have HC4 := Aside0.mk H
          clear H
          go_upto_region 5 with (fail)
          go_cut [13] (fun v13 wc => ∃ (kq : Nat) (x13_3 : Bool), v13 = .bool x13_3 ∧ Aside0 (ontimeref51_Number.j2 kq x0_2 x3_1 x4_2 x13_3 = some r) ∧ Aside0 (kq ≤ k2) ∧ Aside0 (Below w.heap.size w wc))
          case first =>
            have H := HC4.out
            clear HC4
            by_cases c5 : x0_2 = 0
            · rw [if_pos c5] at H
              have c5b0 : (x0_2 == 0) = true := beq_iff_eq.mpr c5
              have c5b1 : (x0_2 != 0) = false := bne_eq_false_iff_eq.mpr c5
              clear c5
              (first | rw [c5b0] | (simp only [i64_w, i32_w]; rw [c5b0]) | skip)
              have H' := Aside0.mk H
              clear H
              go_wp2
              go_meet
              case rel => exact ⟨_, ((x4_2.toList == ([] : List UInt8))), (by first | rfl | (simp; done) | (simp [*]; done)), H', ⟨by have := HJ1.out; have := HK2.out; first | omega | exact Nat.le_refl _⟩, ⟨by repeat (first | (with_reducible first | exact HB.out | apply below_alloc | apply pw_below_drewN | apply below_drew1) | exact HB.out)⟩⟩
            · rw [if_neg c5] at H
              have c5b0 : (x0_2 == 0) = false := beq_eq_false_iff_ne.mpr c5
              have c5b1 : (x0_2 != 0) = true := bne_iff_ne.mpr c5
              (first | rw [c5b0] | (simp only [i64_w, i32_w]; rw [c5b0]) | skip)
              have H' := Aside0.mk H
              clear H
              go_wp2
              go_meet
              case rel => exact ⟨_, (true), (by first | rfl | (simp; done) | (simp [*]; done)), H', ⟨by have := HJ1.out; have := HK2.out; first | omega | exact Nat.le_refl _⟩, ⟨by repeat (first | (with_reducible first | exact HB.out | apply below_alloc | apply pw_below_drewN | apply below_drew1) | exact HB.out)⟩⟩
          case rest =>
            clear HC4
            try clear p2
            try clear c3
            try clear c3b0
            try clear c5
            try clear c5b0
            try clear c5b1
            try clear p2
            obtain ⟨kq, x13_3, rfl, HA, HJ3, HB⟩ := hcut
            cases kq with
            | zero => exact absurd HA.out (by simp [ontimeref51_Number.j2])
            | succ kj3 =>
              have H := HA.out
              clear HA
              simp only [ontimeref51_Number.j2] at H
              by_cases c6 : x13_3 = true
              · subst c6
                have H1 : (if (Int.tmod x0_2 10) < 0 then ((some (([(wrap64 (48 + (wrap64 (-(Int.tmod x0_2 10))))) % 256] : List Int) : List Int)).bind fun y140 => (if (strOfNums y140).size + x4_2.size ≤ 9223372036854775807 then (ontimeref51_Number.l0 kj3 (wrap64 (Int.tdiv x0_2 10)) x3_1 ((strOfNums y140) ++ x4_2)) else (none))) else ((some (([(wrap64 (48 + (Int.tmod x0_2 10))) % 256] : List Int) : List Int)).bind fun y143 => (if (strOfNums y143).size + x4_2.size ≤ 9223372036854775807 then (ontimeref51_Number.l0 kj3 (wrap64 (Int.tdiv x0_2 10)) x3_1 ((strOfNums y143) ++ x4_2)) else (none)))) = some r := by rw [if_pos rfl] at H; exact H
                clear H
                have H := H1
                clear H1
                by_cases c7 : (Int.tmod x0_2 10) < 0
                · rw [if_pos c7] at H
                  have c7b0 : decide ((Int.tmod x0_2 10) < 0) = true := decide_eq_true c7
                  clear c7
                  obtain ⟨y140, hy140⟩ : ∃ y_ : List Int, y_ = (([(wrap64 (48 + (wrap64 (-(Int.tmod x0_2 10))))) % 256] : List Int)) := ⟨_, rfl⟩
                  replace H : (if (strOfNums y140).size + x4_2.size ≤ 9223372036854775807 then (ontimeref51_Number.l0 kj3 (wrap64 (Int.tdiv x0_2 10)) x3_1 ((strOfNums y140) ++ x4_2)) else (none)) = some r := by first | (rw [hy140]; with_reducible exact H) | (have H2_ := (Option.bind_some _ _).symm.trans H; rw [hy140]; with_reducible exact H2_) | (have H2_ := (Option.bind_some _ _).symm.trans H; with_reducible exact H2_) | with_reducible exact H | (rw [hy140]; exact H) | exact H
                  have Ny140 := Aside0.mk hy140
                  clear hy140
                  by_cases c8 : (strOfNums y140).size + x4_2.size ≤ 9223372036854775807
                  · rw [if_pos c8] at H
                    have c8b0 := eq_true c8
                    have c8b1 : decide ((strOfNums y140).size + x4_2.size ≤ 9223372036854775807) = true := decide_eq_true c8
                    try have c8b2 : (9223372036854775807 < (strOfNums y140).size + x4_2.size) = False := eq_false (Nat.not_lt.2 c8)
                    have H' := Aside0.mk H
                    clear H
                    go_wp2_with (first | ((with_reducible refine gate_dst (N := 23) rfl ?_); refine Kd.R_lit (Kd.int .u8) _ 5 ?hg (N := 23) ?hd (xs := ([(wrap64 (48 + (wrap64 (-(Int.tmod x0_2 10))))) % 256] : List Int)) (inner := [.int .u8 ((wrap64 (48 + (wrap64 (-(Int.tmod x0_2 10))))) % 256)]) (ok := fun _ => True) (okp := fun _ => True) ?hr ?hp (fun _ hk => hk) trivial (Below.refl _ _) (Nat.le_refl _) (by simp) ?_; (case hd => rfl); (case hg => rfl); (case hr => first | (go_simp; done) | (go_simp; rfl)); (case hp => exact (Reps.one (show Kd.M (Kd.int .u8) _ _ _ ((wrap64 (48 + (wrap64 (-(Int.tmod x0_2 10))))) % 256) [.int .u8 ((wrap64 (48 + (wrap64 (-(Int.tmod x0_2 10))))) % 256)] from rfl) (Reps.none _ _))); intro v141 w9 ho10 hb hg_ hnew_; clear hg_ hnew_; (first | rw [← Ny140.out] at ho10 | (simp only [Int.reduceToNat] at ho10; rw [← Ny140.out] at ho10)); have n0_ := Aside0.mk (Kd.R_lower ho10 (below_size (by repeat (first | (with_reducible first | exact HB.out | apply below_alloc | apply pw_below_drewN | apply below_drew1) | exact HB.out)))); have n1_ := Aside0.mk (below_step (by repeat (first | (with_reducible first | exact HB.out | apply below_alloc | apply pw_below_drewN | apply below_drew1) | exact HB.out)) hb); clear HB; have HO142 := n0_; have HB := n1_; clear n0_ n1_; clear hb ho10; have hcv11 := own_string (P := Tryd.prog) Tryd.underlying51 Tryd.underlying5 Tryd.underlying9 (Kd.own_of_R HO142.out)))
                    go_roundg kj3
                    case measure => have := HJ1.out; have := HK2.out; have := HJ3.out; omega
                    case rel => exact ⟨(wrap64 (Int.tdiv x0_2 10)), ((strOfNums y140) ++ x4_2), (by first | rfl | (simp; done) | (simp [*]; done)), (by first | rfl | (simp; done) | (simp [*]; done)), H', ⟨by have := HJ1.out; have := HK2.out; have := HJ3.out; omega⟩, ⟨by repeat (first | (with_reducible first | exact HB.out | apply below_alloc | apply pw_below_drewN | apply below_drew1) | exact HB.out)⟩⟩
                  · rw [if_neg c8] at H
                    exact absurd H (by simp)
                · rw [if_neg c7] at H
                  have c7b0 : decide ((Int.tmod x0_2 10) < 0) = false := decide_eq_false c7
                  clear c7
                  obtain ⟨y143, hy143⟩ : ∃ y_ : List Int, y_ = (([(wrap64 (48 + (Int.tmod x0_2 10))) % 256] : List Int)) := ⟨_, rfl⟩
                  replace H : (if (strOfNums y143).size + x4_2.size ≤ 9223372036854775807 then (ontimeref51_Number.l0 kj3 (wrap64 (Int.tdiv x0_2 10)) x3_1 ((strOfNums y143) ++ x4_2)) else (none)) = some r := by first | (rw [hy143]; with_reducible exact H) | (have H2_ := (Option.bind_some _ _).symm.trans H; rw [hy143]; with_reducible exact H2_) | (have H2_ := (Option.bind_some _ _).symm.trans H; with_reducible exact H2_) | with_reducible exact H | (rw [hy143]; exact H) | exact H
                  have Ny143 := Aside0.mk hy143
                  clear hy143
                  by_cases c12 : (strOfNums y143).size + x4_2.size ≤ 9223372036854775807
                  · rw [if_pos c12] at H
                    have c12b0 := eq_true c12
                    have c12b1 : decide ((strOfNums y143).size + x4_2.size ≤ 9223372036854775807) = true := decide_eq_true c12
                    try have c12b2 : (9223372036854775807 < (strOfNums y143).size + x4_2.size) = False := eq_false (Nat.not_lt.2 c12)
                    have H' := Aside0.mk H
                    clear H
                    go_wp2_with (first | ((with_reducible refine gate_dst (N := 23) rfl ?_); refine Kd.R_lit (Kd.int .u8) _ 5 ?hg (N := 23) ?hd (xs := ([(wrap64 (48 + (Int.tmod x0_2 10))) % 256] : List Int)) (inner := [.int .u8 ((wrap64 (48 + (Int.tmod x0_2 10))) % 256)]) (ok := fun _ => True) (okp := fun _ => True) ?hr ?hp (fun _ hk => hk) trivial (Below.refl _ _) (Nat.le_refl _) (by simp) ?_; (case hd => rfl); (case hg => rfl); (case hr => first | (go_simp; done) | (go_simp; rfl)); (case hp => exact (Reps.one (show Kd.M (Kd.int .u8) _ _ _ ((wrap64 (48 + (Int.tmod x0_2 10))) % 256) [.int .u8 ((wrap64 (48 + (Int.tmod x0_2 10))) % 256)] from rfl) (Reps.none _ _))); intro v144 w13 ho14 hb hg_ hnew_; clear hg_ hnew_; (first | rw [← Ny143.out] at ho14 | (simp only [Int.reduceToNat] at ho14; rw [← Ny143.out] at ho14)); have n0_ := Aside0.mk (Kd.R_lower ho14 (below_size (by repeat (first | (with_reducible first | exact HB.out | apply below_alloc | apply pw_below_drewN | apply below_drew1) | exact HB.out)))); have n1_ := Aside0.mk (below_step (by repeat (first | (with_reducible first | exact HB.out | apply below_alloc | apply pw_below_drewN | apply below_drew1) | exact HB.out)) hb); clear HB; have HO145 := n0_; have HB := n1_; clear n0_ n1_; clear hb ho14; have hcv15 := own_string (P := Tryd.prog) Tryd.underlying51 Tryd.underlying5 Tryd.underlying9 (Kd.own_of_R HO145.out)))
                    go_roundg kj3
                    case measure => have := HJ1.out; have := HK2.out; have := HJ3.out; omega
                    case rel => exact ⟨(wrap64 (Int.tdiv x0_2 10)), ((strOfNums y143) ++ x4_2), (by first | rfl | (simp; done) | (simp [*]; done)), (by first | rfl | (simp; done) | (simp [*]; done)), H', ⟨by have := HJ1.out; have := HK2.out; have := HJ3.out; omega⟩, ⟨by repeat (first | (with_reducible first | exact HB.out | apply below_alloc | apply pw_below_drewN | apply below_drew1) | exact HB.out)⟩⟩
                  · rw [if_neg c12] at H
                    exact absurd H (by simp)
              · replace c6 := Bool.eq_false_iff.mpr c6
                subst c6
                have H1 : (if x3_1.size + x4_2.size ≤ 9223372036854775807 then (some (x3_1 ++ x4_2)) else (none)) = some r := by rw [if_neg (show ¬ (false = true) by decide)] at H; exact H
                clear H
                have H := H1
                clear H1
                by_cases c16 : x3_1.size + x4_2.size ≤ 9223372036854775807
                · rw [if_pos c16] at H
                  have c16b0 := eq_true c16
                  have c16b1 : decide (x3_1.size + x4_2.size ≤ 9223372036854775807) = true := decide_eq_true c16
                  try have c16b2 : (9223372036854775807 < x3_1.size + x4_2.size) = False := eq_false (Nat.not_lt.2 c16)
                  obtain rfl := Option.some.inj H
                  go_wp2
                  go_ret
                  exact ⟨by first | rfl | (simp [errW_none, errW_some] <;> rfl) | (simp [*, errW_none, errW_some] <;> rfl), by repeat (first | (with_reducible first | exact HB.out | apply below_alloc | apply pw_below_drewN | apply below_drew1) | exact HB.out)⟩
                · rw [if_neg c16] at H
                  exact absurd H (by simp)

/-! ### ontimeref51_value: function 65 -/
mutual
def ontimeref51_value.j0 : Nat → ByteArray → Bool → Option (Int × Bool)
  | 0, _, _ => none
  | k + 1, x0, x14 => if x14 = true then (some (0, false)) else (if 0 < (x0.size : Int) then (ontimeref51_value.l0 k x0 0 ((bt x0 0) == 45) 0) else (none))
def ontimeref51_value.l0 : Nat → ByteArray → Int → Bool → Int → Option (Int × Bool)
  | 0, _, _, _, _ => none
  | k + 1, x0, x4, x5, x6 => if x6 < (x0.size : Int) then (if x6 = 0 then (ontimeref51_value.j2 k x0 x4 x5 x6 x5) else (ontimeref51_value.j2 k x0 x4 x5 x6 false)) else (if x5 = true then ((ontimeref51_Number.f k x4).bind fun t146 => (some (x4, (t146.toList == x0.toList)))) else ((ontimeref51_Number.f k (wrap64 (-x4))).bind fun t147 => (some (wrap64 (-x4), (t147.toList == x0.toList)))))
def ontimeref51_value.j2 : Nat → ByteArray → Int → Bool → Int → Bool → Option (Int × Bool)
  | 0, _, _, _, _, _ => none
  | k + 1, x0, x4, x5, x6, x28 => if x28 = true then (ontimeref51_value.l0 k x0 x4 x5 (wrap64 (x6 + 1))) else (if 0 ≤ x6 then (if x6 < (x0.size : Int) then (if (bt x0 x6) < 48 then (some (0, false)) else (if (bt x0 x6) > 57 then (some (0, false)) else (ontimeref51_value.l0 k x0 (wrap64 ((wrap64 (10 * x4)) - (((bt x0 x6) - 48) % 256))) x5 (wrap64 (x6 + 1))))) else (none)) else (none))
end
def ontimeref51_value.f (k : Nat) (a0 : ByteArray) : Option (Int × Bool) := if (a0.size : Int) = 0 then (ontimeref51_value.j0 k a0 true) else (ontimeref51_value.j0 k a0 (decide ((a0.size : Int) > 20)))
theorem ontimeref51_value.mono_l : ∀ k, (∀ y0 y1, LeO (ontimeref51_value.j0 k y0 y1) (ontimeref51_value.j0 (k + 1) y0 y1)) ∧ (∀ y0 y1 y2 y3, LeO (ontimeref51_value.l0 k y0 y1 y2 y3) (ontimeref51_value.l0 (k + 1) y0 y1 y2 y3)) ∧ (∀ y0 y1 y2 y3 y4, LeO (ontimeref51_value.j2 k y0 y1 y2 y3 y4) (ontimeref51_value.j2 (k + 1) y0 y1 y2 y3 y4))
  | 0 => ⟨fun _ _ r h => by simp [ontimeref51_value.j0] at h, fun _ _ _ _ r h => by simp [ontimeref51_value.l0] at h, fun _ _ _ _ _ r h => by simp [ontimeref51_value.j2] at h⟩
  | k + 1 => by
    obtain ⟨ih0, ih1, ih2⟩ := ontimeref51_value.mono_l k
    refine ⟨?_, ?_, ?_⟩
    · intro y0 y1
      unfold ontimeref51_value.j0
      repeat' first
      | (with_reducible exact ih0 _ _)
      | (with_reducible exact ih1 _ _ _ _)
      | (with_reducible exact ih2 _ _ _ _ _)
      | (with_reducible exact ontimeref51_Number.mono _ _)
      | (with_reducible exact LeO.refl _)
      | (with_reducible exact LeO.none _)
      | (with_reducible refine LeO.ite ?_ ?_)
      | (with_reducible refine LeO.bind ?_ (fun _ => ?_))
      | exact ih0 _ _
      | exact ih1 _ _ _ _
      | exact ih2 _ _ _ _ _
      | exact ontimeref51_Number.mono _ _
      | exact LeO.none _
      | refine LeO.ite ?_ ?_
      | refine LeO.bind ?_ (fun _ => ?_)
    · intro y0 y1 y2 y3
      unfold ontimeref51_value.l0
      repeat' first
      | (with_reducible exact ih0 _ _)
      | (with_reducible exact ih1 _ _ _ _)
      | (with_reducible exact ih2 _ _ _ _ _)
      | (with_reducible exact ontimeref51_Number.mono _ _)
      | (with_reducible exact LeO.refl _)
      | (with_reducible exact LeO.none _)
      | (with_reducible refine LeO.ite ?_ ?_)
      | (with_reducible refine LeO.bind ?_ (fun _ => ?_))
      | exact ih0 _ _
      | exact ih1 _ _ _ _
      | exact ih2 _ _ _ _ _
      | exact ontimeref51_Number.mono _ _
      | exact LeO.none _
      | refine LeO.ite ?_ ?_
      | refine LeO.bind ?_ (fun _ => ?_)
    · intro y0 y1 y2 y3 y4
      unfold ontimeref51_value.j2
      repeat' first
      | (with_reducible exact ih0 _ _)
      | (with_reducible exact ih1 _ _ _ _)
      | (with_reducible exact ih2 _ _ _ _ _)
      | (with_reducible exact ontimeref51_Number.mono _ _)
      | (with_reducible exact LeO.refl _)
      | (with_reducible exact LeO.none _)
      | (with_reducible refine LeO.ite ?_ ?_)
      | (with_reducible refine LeO.bind ?_ (fun _ => ?_))
      | exact ih0 _ _
      | exact ih1 _ _ _ _
      | exact ih2 _ _ _ _ _
      | exact ontimeref51_Number.mono _ _
      | exact LeO.none _
      | refine LeO.ite ?_ ?_
      | refine LeO.bind ?_ (fun _ => ?_)
theorem ontimeref51_value.mono : ∀ a0 k, LeO (ontimeref51_value.f k a0) (ontimeref51_value.f (k + 1) a0) := by
  intro a0 k
  obtain ⟨ih0, ih1, ih2⟩ := ontimeref51_value.mono_l k
  unfold ontimeref51_value.f
  repeat' first
      | (with_reducible exact ih0 _ _)
      | (with_reducible exact ih1 _ _ _ _)
      | (with_reducible exact ih2 _ _ _ _ _)
      | (with_reducible exact ontimeref51_Number.mono _ _)
      | (with_reducible exact LeO.refl _)
      | (with_reducible exact LeO.none _)
      | (with_reducible refine LeO.ite ?_ ?_)
      | (with_reducible refine LeO.bind ?_ (fun _ => ?_))
      | exact ih0 _ _
      | exact ih1 _ _ _ _
      | exact ih2 _ _ _ _ _
      | exact ontimeref51_Number.mono _ _
      | exact LeO.none _
      | refine LeO.ite ?_ ?_
      | refine LeO.bind ?_ (fun _ => ?_)
set_option maxHeartbeats 8000000 in
set_option maxRecDepth 100000 in
theorem ontimeref51_value.calls (k : Nat) (a0 : ByteArray) (r1 : Int) (r2 : Bool) (w : World) (h : ontimeref51_value.f k a0 = some (r1, r2)) :
    Calls Tryd.prog 65 #[.string a0] w fun e w' => e = .returned (.tuple #[.int .i64 r1, .bool r2]) ∧ Below w.heap.size w w' := by
  have HB := Aside0.mk (Below.refl w.heap.size w)
  have H : (if (a0.size : Int) = 0 then (ontimeref51_value.j0 k a0 true) else (ontimeref51_value.j0 k a0 (decide ((a0.size : Int) > 20)))) = some (r1, r2) := h
  clear h
  have HC2 := Aside0.mk H
  clear H
  go_enter Tryd.func65, Tryd.ntmps65
  go_upto_region 1 with (fail)
  go_cut [14] (fun v14 wc => ∃ (kq : Nat) (x14_1 : Bool), v14 = .bool x14_1 ∧ Aside0 (ontimeref51_value.j0 kq a0 x14_1 = some (r1, r2)) ∧ Aside0 (kq ≤ k) ∧ Aside0 (Below w.heap.size w wc))
  case first =>
    have H := HC2.out
    clear HC2
    by_cases c3 : (a0.size : Int) = 0
    · rw [if_pos c3] at H
      have c3b0 : ((a0.size : Int) == 0) = true := beq_iff_eq.mpr c3
      have c3b1 : ((a0.size : Int) != 0) = false := bne_eq_false_iff_eq.mpr c3
      clear c3
      (first | rw [c3b0] | (simp only [i64_w, i32_w]; rw [c3b0]) | skip)
      have H' := Aside0.mk H
      clear H
      go_wp2
      go_meet
      case rel => exact ⟨_, (true), (by first | rfl | (simp; done) | (simp [*]; done)), H', ⟨by first | omega | exact Nat.le_refl _⟩, ⟨by repeat (first | (with_reducible first | exact HB.out | apply below_alloc | apply pw_below_drewN | apply below_drew1) | exact HB.out)⟩⟩
    · rw [if_neg c3] at H
      have c3b0 : ((a0.size : Int) == 0) = false := beq_eq_false_iff_ne.mpr c3
      have c3b1 : ((a0.size : Int) != 0) = true := bne_iff_ne.mpr c3
      (first | rw [c3b0] | (simp only [i64_w, i32_w]; rw [c3b0]) | skip)
      have H' := Aside0.mk H
      clear H
      go_wp2
      go_meet
      case rel => exact ⟨_, (decide ((a0.size : Int) > 20)), (by first | rfl | (simp; done) | (simp [*]; done)), H', ⟨by first | omega | exact Nat.le_refl _⟩, ⟨by repeat (first | (with_reducible first | exact HB.out | apply below_alloc | apply pw_below_drewN | apply below_drew1) | exact HB.out)⟩⟩
  case rest =>
    clear HC2
    try clear p2
    try clear c3
    try clear c3b0
    try clear c3b1
    obtain ⟨kq, x14_1, rfl, HA, HJ1, HB⟩ := hcut
    cases kq with
    | zero => exact absurd HA.out (by simp [ontimeref51_value.j0])
    | succ kj1 =>
      have H := HA.out
      clear HA
      simp only [ontimeref51_value.j0] at H
      by_cases c4 : x14_1 = true
      · subst c4
        have H1 : (some (0, false)) = some (r1, r2) := by rw [if_pos rfl] at H; exact H
        clear H
        have H := H1
        clear H1
        simp only [Option.some.injEq, Prod.mk.injEq] at H
        obtain ⟨rfl, rfl⟩ := H
        go_wp2
        go_ret2
        exact ⟨by first | rfl | (simp [errW_none, errW_some] <;> rfl) | (simp [*, errW_none, errW_some] <;> rfl), by repeat (first | (with_reducible first | exact HB.out | apply below_alloc | apply pw_below_drewN | apply below_drew1) | exact HB.out)⟩
      · replace c4 := Bool.eq_false_iff.mpr c4
        subst c4
        have H1 : (if 0 < (a0.size : Int) then (ontimeref51_value.l0 kj1 a0 0 ((bt a0 0) == 45) 0) else (none)) = some (r1, r2) := by rw [if_neg (show ¬ (false = true) by decide)] at H; exact H
        clear H
        have H := H1
        clear H1
        by_cases c5 : 0 < (a0.size : Int)
        · rw [if_pos c5] at H
          have c5b0 : decide (0 < (a0.size : Int)) = true := decide_eq_true c5
          have c5b1 : decide (0 < a0.size) = true := decide_eq_true (by omega)
          clear c5
          have H' := Aside0.mk H
          clear H
          have p6 : 0 ≤ (0 : Int) := (by omega)
          have q6 : 0 < a0.size := (by have : (0 : Int) < (a0.size : Int) := of_decide_eq_true (by first | (with_reducible assumption) | assumption); omega)
          have hx6 : ∀ h : 0 < a0.size, ((a0[0]'h).toNat : Int) = bt a0 0 := bt_at a0 0
          clear p6
          have qi6 : (0 < (a0.size : Int)) = True := eq_true (of_decide_eq_true (by first | (with_reducible assumption) | assumption))
          replace q6 := eq_true q6
          go_wp2
          go_loopg [4, 6] kj1 (fun kq v4 v6 w' => ∃ (x4_2 : Int) (x6_2 : Int), v4 = .int .i64 x4_2 ∧ v6 = .int .i64 x6_2 ∧ Aside0 (ontimeref51_value.l0 kq a0 x4_2 ((bt a0 0) == 45) x6_2 = some (r1, r2)) ∧ Aside0 (kq ≤ kj1) ∧ Aside0 (Below w.heap.size w w'))
          case atStart => exact ⟨(0), (0), (by first | rfl | (simp; done) | (simp [*]; done)), (by first | rfl | (simp; done) | (simp [*]; done)), H', ⟨Nat.le_refl _⟩, ⟨by repeat (first | (with_reducible first | exact HB.out | apply below_alloc | apply pw_below_drewN | apply below_drew1) | exact HB.out)⟩⟩
          case round =>
            clear H'
            try clear p2
            try clear c3
            try clear c3b0
            try clear c3b1
            try clear c4
            try clear c5
            try clear c5b0
            try clear c5b1
            try clear c6
            try clear p6
            try clear q6
            try clear hx6
            try clear qi6
            try clear p2
            try clear p6
            try clear q6
            obtain ⟨x4_2, x6_2, rfl, rfl, HA, HK2, HB⟩ := hrel
            cases gk with
            | zero => exact absurd HA.out (by simp [ontimeref51_value.l0])
            | succ k2 =>
              have H := HA.out
              clear HA
              simp only [ontimeref51_value.l0] at H
              by_cases c7 : x6_2 < (a0.size : Int)
              · rw [if_pos c7] at H
                have c7b0 : decide (x6_2 < (a0.size : Int)) = true := decide_eq_true c7
                clear c7
                have HC8 := Aside0.mk H
                clear H
                go_upto_region 8 with (fail)
                go_cut [28] (fun v28 wc => ∃ (kq : Nat) (x28_7 : Bool), v28 = .bool x28_7 ∧ Aside0 (ontimeref51_value.j2 kq a0 x4_2 ((bt a0 0) == 45) x6_2 x28_7 = some (r1, r2)) ∧ Aside0 (kq ≤ k2) ∧ Aside0 (Below w.heap.size w wc))
                case first =>
                  have H := HC8.out
                  clear HC8
                  by_cases c9 : x6_2 = 0
                  · rw [if_pos c9] at H
                    have c9b0 : (x6_2 == 0) = true := beq_iff_eq.mpr c9
                    have c9b1 : (x6_2 != 0) = false := bne_eq_false_iff_eq.mpr c9
                    clear c9
                    (first | rw [c9b0] | (simp only [i64_w, i32_w]; rw [c9b0]) | skip)
                    have H' := Aside0.mk H
                    clear H
                    go_wp2
                    go_meet
                    case rel => exact ⟨_, (((bt a0 0) == 45)), (by first | rfl | (simp; done) | (simp [*]; done)), H', ⟨by have := HJ1.out; have := HK2.out; first | omega | exact Nat.le_refl _⟩, ⟨by repeat (first | (with_reducible first | exact HB.out | apply below_alloc | apply pw_below_drewN | apply below_drew1) | exact HB.out)⟩⟩
                  · rw [if_neg c9] at H
                    have c9b0 : (x6_2 == 0) = false := beq_eq_false_iff_ne.mpr c9
                    have c9b1 : (x6_2 != 0) = true := bne_iff_ne.mpr c9
                    (first | rw [c9b0] | (simp only [i64_w, i32_w]; rw [c9b0]) | skip)
                    have H' := Aside0.mk H
                    clear H
                    go_wp2
                    go_meet
                    case rel => exact ⟨_, (false), (by first | rfl | (simp; done) | (simp [*]; done)), H', ⟨by have := HJ1.out; have := HK2.out; first | omega | exact Nat.le_refl _⟩, ⟨by repeat (first | (with_reducible first | exact HB.out | apply below_alloc | apply pw_below_drewN | apply below_drew1) | exact HB.out)⟩⟩
                case rest =>
                  clear HC8
                  try clear p2
                  try clear c3
                  try clear c3b0
                  try clear c3b1
                  try clear c4
                  try clear c5
                  try clear c5b0
                  try clear c5b1
                  try clear c6
                  try clear p6
                  try clear q6
                  try clear hx6
                  try clear qi6
                  try clear c7
                  try clear c7b0
                  try clear c9
                  try clear c9b0
                  try clear c9b1
                  try clear p2
                  try clear p6
                  try clear q6
                  obtain ⟨kq, x28_7, rfl, HA, HJ7, HB⟩ := hcut
                  cases kq with
                  | zero => exact absurd HA.out (by simp [ontimeref51_value.j2])
                  | succ kj7 =>
                    have H := HA.out
                    clear HA
                    simp only [ontimeref51_value.j2] at H
                    by_cases c10 : x28_7 = true
                    · subst c10
                      have H1 : (ontimeref51_value.l0 kj7 a0 x4_2 ((bt a0 0) == 45) (wrap64 (x6_2 + 1))) = some (r1, r2) := by rw [if_pos rfl] at H; exact H
                      clear H
                      have H := H1
                      clear H1
                      have H' := Aside0.mk H
                      clear H
                      go_wp2
                      go_roundg kj7
                      case measure => have := HJ1.out; have := HK2.out; have := HJ7.out; omega
                      case rel => exact ⟨(x4_2), (wrap64 (x6_2 + 1)), (by first | rfl | (simp; done) | (simp [*]; done)), (by first | rfl | (simp; done) | (simp [*]; done)), H', ⟨by have := HJ1.out; have := HK2.out; have := HJ7.out; omega⟩, ⟨by repeat (first | (with_reducible first | exact HB.out | apply below_alloc | apply pw_below_drewN | apply below_drew1) | exact HB.out)⟩⟩
                    · replace c10 := Bool.eq_false_iff.mpr c10
                      subst c10
                      have H1 : (if 0 ≤ x6_2 then (if x6_2 < (a0.size : Int) then (if (bt a0 x6_2) < 48 then (some (0, false)) else (if (bt a0 x6_2) > 57 then (some (0, false)) else (ontimeref51_value.l0 kj7 a0 (wrap64 ((wrap64 (10 * x4_2)) - (((bt a0 x6_2) - 48) % 256))) ((bt a0 0) == 45) (wrap64 (x6_2 + 1))))) else (none)) else (none)) = some (r1, r2) := by rw [if_neg (show ¬ (false = true) by decide)] at H; exact H
                      clear H
                      have H := H1
                      clear H1
                      by_cases c11 : 0 ≤ x6_2
                      · rw [if_pos c11] at H
                        have c11b0 : decide (0 ≤ x6_2) = true := decide_eq_true c11
                        clear c11
                        by_cases c12 : x6_2 < (a0.size : Int)
                        · rw [if_pos c12] at H
                          have c12b0 : decide (x6_2 < (a0.size : Int)) = true := decide_eq_true c12
                          clear c12
                          by_cases c14 : (bt a0 x6_2) < 48
                          · rw [if_pos c14] at H
                            have c14b0 : decide ((bt a0 x6_2) < 48) = true := decide_eq_true c14
                            clear c14
                            simp only [Option.some.injEq, Prod.mk.injEq] at H
                            obtain ⟨rfl, rfl⟩ := H
                            have p13 : 0 ≤ (x6_2 : Int) := of_decide_eq_true (by first | (with_reducible assumption) | assumption)
                            have q13 : x6_2 < (a0.size : Int) := of_decide_eq_true (by first | (with_reducible assumption) | assumption)
                            have hx13 := bt_at a0 x6_2
                            replace p13 := eq_true p13
                            replace q13 := eq_true q13
                            go_wp2
                            go_ret2
                            exact ⟨by first | rfl | (simp [errW_none, errW_some] <;> rfl) | (simp [*, errW_none, errW_some] <;> rfl), by repeat (first | (with_reducible first | exact HB.out | apply below_alloc | apply pw_below_drewN | apply below_drew1) | exact HB.out)⟩
                          · rw [if_neg c14] at H
                            have c14b0 : decide ((bt a0 x6_2) < 48) = false := decide_eq_false c14
                            clear c14
                            by_cases c16 : (bt a0 x6_2) > 57
                            · rw [if_pos c16] at H
                              have c16b0 : decide (57 < (bt a0 x6_2)) = true := decide_eq_true c16
                              clear c16
                              simp only [Option.some.injEq, Prod.mk.injEq] at H
                              obtain ⟨rfl, rfl⟩ := H
                              have p13 : 0 ≤ (x6_2 : Int) := of_decide_eq_true (by first | (with_reducible assumption) | assumption)
                              have q13 : x6_2 < (a0.size : Int) := of_decide_eq_true (by first | (with_reducible assumption) | assumption)
                              have hx13 := bt_at a0 x6_2
                              replace p13 := eq_true p13
                              replace q13 := eq_true q13
                              have p15 : 0 ≤ (x6_2 : Int) := of_decide_eq_true (by first | (with_reducible assumption) | assumption)
                              have q15 : x6_2 < (a0.size : Int) := of_decide_eq_true (by first | (with_reducible assumption) | assumption)
                              have hx15 := bt_at a0 x6_2
                              replace p15 := eq_true p15
                              replace q15 := eq_true q15
                              go_wp2
                              go_ret2
                              exact ⟨by first | rfl | (simp [errW_none, errW_some] <;> rfl) | (simp [*, errW_none, errW_some] <;> rfl), by repeat (first | (with_reducible first | exact HB.out | apply below_alloc | apply pw_below_drewN | apply below_drew1) | exact HB.out)⟩
                            · rw [if_neg c16] at H
                              have c16b0 : decide (57 < (bt a0 x6_2)) = false := decide_eq_false c16
                              clear c16
                              have H' := Aside0.mk H
                              clear H
                              have p13 : 0 ≤ (x6_2 : Int) := of_decide_eq_true (by first | (with_reducible assumption) | assumption)
                              have q13 : x6_2 < (a0.size : Int) := of_decide_eq_true (by first | (with_reducible assumption) | assumption)
                              have hx13 := bt_at a0 x6_2
                              replace p13 := eq_true p13
                              replace q13 := eq_true q13
                              have p15 : 0 ≤ (x6_2 : Int) := of_decide_eq_true (by first | (with_reducible assumption) | assumption)
                              have q15 : x6_2 < (a0.size : Int) := of_decide_eq_true (by first | (with_reducible assumption) | assumption)
                              have hx15 := bt_at a0 x6_2
                              replace p15 := eq_true p15
                              replace q15 := eq_true q15
                              have p17 : 0 ≤ (x6_2 : Int) := of_decide_eq_true (by first | (with_reducible assumption) | assumption)
                              have q17 : x6_2 < (a0.size : Int) := of_decide_eq_true (by first | (with_reducible assumption) | assumption)
                              have hx17 := bt_at a0 x6_2
                              replace p17 := eq_true p17
                              replace q17 := eq_true q17
                              go_wp2
                              go_roundg kj7
                              case measure => have := HJ1.out; have := HK2.out; have := HJ7.out; omega
                              case rel => exact ⟨(wrap64 ((wrap64 (10 * x4_2)) - (((bt a0 x6_2) - 48) % 256))), (wrap64 (x6_2 + 1)), (by first | rfl | (simp; done) | (simp [*]; done)), (by first | rfl | (simp; done) | (simp [*]; done)), H', ⟨by have := HJ1.out; have := HK2.out; have := HJ7.out; omega⟩, ⟨by repeat (first | (with_reducible first | exact HB.out | apply below_alloc | apply pw_below_drewN | apply below_drew1) | exact HB.out)⟩⟩
                        · rw [if_neg c12] at H
                          exact absurd H (by simp)
                      · rw [if_neg c11] at H
                        exact absurd H (by simp)
              · rw [if_neg c7] at H
                have c7b0 : decide (x6_2 < (a0.size : Int)) = false := decide_eq_false c7
                clear c7
                by_cases c18 : ((bt a0 0) == 45) = true
                · rw [if_pos c18] at H
                  have c18b0 : ((bt a0 0) == 45) = true := c18
                  (try (have c18b1 : decide ((bt a0 0) = 45) = true := by simpa using c18))
                  (try (have c18b2 : ((bt a0 0) == 45) = true := by simpa using c18))
                  clear c18
                  replace H := Option.bind_eq_some_iff.mp H
                  obtain ⟨t146, A190, H⟩ := H
                  replace H : (some (x4_2, (t146.toList == a0.toList))) = some (r1, r2) := H
                  have A19 := Aside0.mk A190
                  clear A190
                  simp only [Option.some.injEq, Prod.mk.injEq] at H
                  obtain ⟨rfl, rfl⟩ := H
                  go_wp2_with (first | ((with_reducible refine gate_callee (f := 9) rfl ?_); refine goesL_ (some 53) rfl rfl Tryd.func9 (by kernel_rfl) rfl #[.int .i64 x4_2] rfl (by (try simp only [List.map_toArray, List.map_cons, List.map_nil]); first | done | rfl | (simp only [List.length_drop, List.length_take]; rfl)) ?_; (with_reducible refine (ontimeref51_Number.calls k2 x4_2 t146 _ A19.out).mono ?_); rintro e w20 ⟨rfl, hb⟩; refine ⟨_, rfl, ?_⟩; have n0_ := Aside0.mk (below_step (by repeat (first | (with_reducible first | exact HB.out | apply below_alloc | apply pw_below_drewN | apply below_drew1) | exact HB.out)) hb); clear HB; have HB := n0_; clear n0_; (try clear hb); (try clear hb2); (try clear hk); (try clear hi)))
                  go_ret2
                  exact ⟨by first | rfl | (simp [errW_none, errW_some] <;> rfl) | (simp [*, errW_none, errW_some] <;> rfl), by repeat (first | (with_reducible first | exact HB.out | apply below_alloc | apply pw_below_drewN | apply below_drew1) | exact HB.out)⟩
                · rw [if_neg c18] at H
                  have c18b0 : ((bt a0 0) == 45) = false := by simpa using c18
                  (try (have c18b1 : decide ((bt a0 0) = 45) = false := by simpa using c18))
                  (try (have c18b2 : ((bt a0 0) == 45) = false := by simpa using c18))
                  (try (have c18b3 : ¬ ((bt a0 0) = 45) := by simpa using c18))
                  clear c18
                  replace H := Option.bind_eq_some_iff.mp H
                  obtain ⟨t147, A210, H⟩ := H
                  replace H : (some (wrap64 (-x4_2), (t147.toList == a0.toList))) = some (r1, r2) := H
                  have A21 := Aside0.mk A210
                  clear A210
                  simp only [Option.some.injEq, Prod.mk.injEq] at H
                  obtain ⟨rfl, rfl⟩ := H
                  go_wp2_with (first | ((with_reducible refine gate_callee (f := 9) rfl ?_); refine goesL_ (some 53) rfl rfl Tryd.func9 (by kernel_rfl) rfl #[.int .i64 (wrap64 (-x4_2))] rfl (by (try simp only [List.map_toArray, List.map_cons, List.map_nil]); first | done | rfl | (simp only [List.length_drop, List.length_take]; rfl)) ?_; (with_reducible refine (ontimeref51_Number.calls k2 (wrap64 (-x4_2)) t147 _ A21.out).mono ?_); rintro e w22 ⟨rfl, hb⟩; refine ⟨_, rfl, ?_⟩; have n0_ := Aside0.mk (below_step (by repeat (first | (with_reducible first | exact HB.out | apply below_alloc | apply pw_below_drewN | apply below_drew1) | exact HB.out)) hb); clear HB; have HB := n0_; clear n0_; (try clear hb); (try clear hb2); (try clear hk); (try clear hi)))
                  go_ret2
                  exact ⟨by first | rfl | (simp [errW_none, errW_some] <;> rfl) | (simp [*, errW_none, errW_some] <;> rfl), by repeat (first | (with_reducible first | exact HB.out | apply below_alloc | apply pw_below_drewN | apply below_drew1) | exact HB.out)⟩
        · rw [if_neg c5] at H
          exact absurd H (by simp)

end Go.Proofs.YtmciflmlpnpkaaaDoor.Pa
