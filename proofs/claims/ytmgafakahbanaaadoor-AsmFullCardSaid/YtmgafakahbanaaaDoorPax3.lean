-- Lines by a program of this session's (wip/gprint.py over the kit's printing program): the walks of plain functions. Not trusted: Lean checks it.
import Derived.Test.YtmgafakahbanaaaDoorPax0
namespace Go.Proofs.YtmgafakahbanaaaDoor.Pa
open Go.RowKit Go.Proofs.YtmgafakahbanaaaDoorW.PrintWords Go.Proofs.YtmgafakahbanaaaDoorW.PrintLast Go.Proofs.YtmgafakahbanaaaDoorW.PrintMore
attribute [local go_sem] max2_int min2_int max_two min_two max_three min_three max_four min_four   -- for this text's walks alone
set_option linter.unusedVariables false
set_option linter.unusedSimpArgs false

/-! ### slices_Index_byte_byte: function 73 -/
def slices_Index_byte_byte.l0 : Nat → List Int → Int → Int → Int → Option (Int)
  | 0, _, _, _, _ => none
  | k + 1, x0, x1, x7, x8 => if x8 < x7 then (if 0 ≤ x8 then (if x8 < (x0.length : Int) then (if x1 = (rd x0 x8) then (some x8) else (slices_Index_byte_byte.l0 k x0 x1 x7 (wrap64 (x8 + 1)))) else (none)) else (none)) else (some (-1))
def slices_Index_byte_byte.f (k : Nat) (l0 : List Int) (a1 : Int) : Option (Int) := slices_Index_byte_byte.l0 k l0 a1 (l0.length : Int) 0
theorem slices_Index_byte_byte.mono_l : ∀ k, (∀ y0 y1 y2 y3, LeO (slices_Index_byte_byte.l0 k y0 y1 y2 y3) (slices_Index_byte_byte.l0 (k + 1) y0 y1 y2 y3))
  | 0 => fun _ _ _ _ r h => by simp [slices_Index_byte_byte.l0] at h
  | k + 1 => by
    have ih0 := slices_Index_byte_byte.mono_l k
    · intro y0 y1 y2 y3
      unfold slices_Index_byte_byte.l0
      repeat' first
      | (with_reducible exact ih0 _ _ _ _)
      | (with_reducible exact LeO.refl _)
      | (with_reducible exact LeO.none _)
      | (with_reducible refine LeO.ite ?_ ?_)
      | (with_reducible refine LeO.bind ?_ (fun _ => ?_))
      | exact ih0 _ _ _ _
      | exact LeO.none _
      | refine LeO.ite ?_ ?_
      | refine LeO.bind ?_ (fun _ => ?_)
theorem slices_Index_byte_byte.mono : ∀ a0 a1 k, LeO (slices_Index_byte_byte.f k a0 a1) (slices_Index_byte_byte.f (k + 1) a0 a1) := by
  intro a0 a1 k
  have ih0 := slices_Index_byte_byte.mono_l k
  unfold slices_Index_byte_byte.f
  repeat' first
      | (with_reducible exact ih0 _ _ _ _)
      | (with_reducible exact LeO.refl _)
      | (with_reducible exact LeO.none _)
      | (with_reducible refine LeO.ite ?_ ?_)
      | (with_reducible refine LeO.bind ?_ (fun _ => ?_))
      | exact ih0 _ _ _ _
      | exact LeO.none _
      | refine LeO.ite ?_ ?_
      | refine LeO.bind ?_ (fun _ => ?_)
set_option maxHeartbeats 8000000 in
set_option maxRecDepth 100000 in
theorem slices_Index_byte_byte.calls (k : Nat) (A0 : Option Addr) (c0 : Nat) (l0 : List Int) (a1 : Int) (r : Int) (w : World) (hr0 : Kd.C (Kd.int .u8) w A0 l0.length l0) (hc0 : l0.length ≤ c0) (h : slices_Index_byte_byte.f k l0 a1 = some r) :
    Calls Tryd.prog 73 #[.slice A0 l0.length c0, .int .u8 a1] w fun e w' => e = .returned (.int .i64 r) ∧ Drawn0 w w' := by
  have HR0 := Aside0.mk hr0
  have HC0 := Aside0.mk hc0
  clear hr0 hc0
  have H : (slices_Index_byte_byte.l0 k l0 a1 (l0.length : Int) 0) = some r := h
  clear h
  have H' := Aside0.mk H
  clear H
  go_enter Tryd.func73, Tryd.ntmps73
  go_wp2
  go_loopg [8] k (fun kq v8 w' => ∃ (x8_1 : Int), v8 = .int .i64 x8_1 ∧ Aside0 (slices_Index_byte_byte.l0 kq l0 a1 (l0.length : Int) x8_1 = some r) ∧ Aside0 (kq ≤ k) ∧ Drawn0 w w')
  case atStart => exact ⟨(0), (by first | rfl | (simp; done) | (simp [*]; done)), H', ⟨Nat.le_refl _⟩, by repeat (first | exact Drawn0.refl _ | apply Drawn0.step)⟩
  case round =>
    clear H'
    try clear p2
    obtain ⟨x8_1, rfl, HA, HK1, ⟨m1, rfl⟩⟩ := hrel
    cases gk with
    | zero => exact absurd HA.out (by simp [slices_Index_byte_byte.l0])
    | succ k1 =>
      have H := HA.out
      clear HA
      simp only [slices_Index_byte_byte.l0] at H
      by_cases c3 : x8_1 < (l0.length : Int)
      · rw [if_pos c3] at H
        have c3b0 : decide (x8_1 < (l0.length : Int)) = true := decide_eq_true c3
        clear c3
        by_cases c4 : 0 ≤ x8_1
        · rw [if_pos c4] at H
          have c4b0 : decide (0 ≤ x8_1) = true := decide_eq_true c4
          clear c4
          by_cases c5 : x8_1 < (l0.length : Int)
          · rw [if_pos c5] at H
            have c5b0 : decide (x8_1 < (l0.length : Int)) = true := decide_eq_true c5
            clear c5
            by_cases c6 : a1 = (rd l0 x8_1)
            · rw [if_pos c6] at H
              have c6b0 : (a1 == (rd l0 x8_1)) = true := beq_iff_eq.mpr c6
              have c6b1 : (a1 != (rd l0 x8_1)) = false := bne_eq_false_iff_eq.mpr c6
              clear c6
              obtain rfl := Option.some.inj H
              have p130 : 0 ≤ (x8_1 : Int) := of_decide_eq_true (by first | (with_reducible assumption) | assumption)
              have q130 : x8_1 < (l0.length : Int) := of_decide_eq_true (by first | (with_reducible assumption) | assumption)
              obtain ⟨ad130, e130, hx130_0⟩ := Kd.at_int HR0.out x8_1 p130 q130
              cases e130
              replace p130 := eq_true p130
              replace q130 := eq_true q130
              go_wp2
              go_ret
              exact ⟨by first | rfl | (simp; done) | (simp [*]; done), by repeat (first | exact Drawn0.refl _ | apply Drawn0.step)⟩
            · rw [if_neg c6] at H
              have c6b0 : (a1 == (rd l0 x8_1)) = false := beq_eq_false_iff_ne.mpr c6
              have c6b1 : (a1 != (rd l0 x8_1)) = true := bne_iff_ne.mpr c6
              have H' := Aside0.mk H
              clear H
              have p130 : 0 ≤ (x8_1 : Int) := of_decide_eq_true (by first | (with_reducible assumption) | assumption)
              have q130 : x8_1 < (l0.length : Int) := of_decide_eq_true (by first | (with_reducible assumption) | assumption)
              obtain ⟨ad130, e130, hx130_0⟩ := Kd.at_int HR0.out x8_1 p130 q130
              cases e130
              replace p130 := eq_true p130
              replace q130 := eq_true q130
              go_wp2
              go_roundg k1
              case measure => have := HK1.out; omega
              case rel => exact ⟨(wrap64 (x8_1 + 1)), (by first | rfl | (simp; done) | (simp [*]; done)), H', ⟨by have := HK1.out; omega⟩, by repeat (first | exact Drawn0.refl _ | apply Drawn0.step)⟩
          · rw [if_neg c5] at H
            exact absurd H (by simp)
        · rw [if_neg c4] at H
          exact absurd H (by simp)
      · rw [if_neg c3] at H
        have c3b0 : decide (x8_1 < (l0.length : Int)) = false := decide_eq_false c3
        clear c3
        obtain rfl := Option.some.inj H
        go_wp2
        go_ret
        exact ⟨by first | rfl | (simp; done) | (simp [*]; done), by repeat (first | exact Drawn0.refl _ | apply Drawn0.step)⟩

/-! ### slices_Contains_byte_byte: function 61 -/
def slices_Contains_byte_byte.f (k : Nat) (l0 : List Int) (a1 : Int) : Option (Bool) := (slices_Index_byte_byte.f k l0 a1).bind fun t131 => (some (decide (t131 ≥ 0)))
theorem slices_Contains_byte_byte.mono : ∀ a0 a1 k, LeO (slices_Contains_byte_byte.f k a0 a1) (slices_Contains_byte_byte.f (k + 1) a0 a1) := by
  intro a0 a1 k
  unfold slices_Contains_byte_byte.f
  repeat' first
      | (with_reducible exact slices_Index_byte_byte.mono _ _ _)
      | (with_reducible exact LeO.refl _)
      | (with_reducible exact LeO.none _)
      | (with_reducible refine LeO.ite ?_ ?_)
      | (with_reducible refine LeO.bind ?_ (fun _ => ?_))
      | exact slices_Index_byte_byte.mono _ _ _
      | exact LeO.none _
      | refine LeO.ite ?_ ?_
      | refine LeO.bind ?_ (fun _ => ?_)
set_option maxHeartbeats 8000000 in
set_option maxRecDepth 100000 in
theorem slices_Contains_byte_byte.calls (k : Nat) (A0 : Option Addr) (c0 : Nat) (l0 : List Int) (a1 : Int) (r : Bool) (w : World) (hr0 : Kd.C (Kd.int .u8) w A0 l0.length l0) (hc0 : l0.length ≤ c0) (h : slices_Contains_byte_byte.f k l0 a1 = some r) :
    Calls Tryd.prog 61 #[.slice A0 l0.length c0, .int .u8 a1] w fun e w' => e = .returned (.bool r) ∧ Drawn0 w w' := by
  have HR0 := Aside0.mk hr0
  have HC0 := Aside0.mk hc0
  clear hr0 hc0
  have H : ((slices_Index_byte_byte.f k l0 a1).bind fun t131 => (some (decide (t131 ≥ 0)))) = some r := h
  clear h
  replace H := Option.bind_eq_some_iff.mp H
  obtain ⟨t131, A30, H⟩ := H
  replace H : (some (decide (t131 ≥ 0))) = some r := H
  have A3 := Aside0.mk A30
  clear A30
  obtain rfl := Option.some.inj H
  go_enter Tryd.func61, Tryd.ntmps61
  go_wp2_with (first | ((with_reducible refine gate_callee (f := 73) rfl ?_); refine goesL_ (some 7) rfl rfl Tryd.func73 (by kernel_rfl) rfl #[.slice A0 l0.length c0, .int .u8 a1] rfl (by (try simp only [List.map_toArray, List.map_cons, List.map_nil]); first | done | rfl | (simp only [List.length_drop, List.length_take]; rfl)) ?_; (with_reducible refine (slices_Index_byte_byte.calls k _ _ l0 a1 t131 _ ?side1 ?side2 A3.out).mono ?_); (case side1 => repeat (first | exact HR0.out | (with_reducible refine Kd.C_alloc ?_ _) | (with_reducible refine Kd.C_drewN ?_ _) | (with_reducible refine Kd.C_drew ?_))); (case side2 => exact HC0.out); rintro e w' ⟨rfl, ⟨nd, rfl⟩⟩; refine ⟨_, rfl, ?_⟩))
  go_ret
  exact ⟨by first | rfl | (simp; done) | (simp [*]; done), by repeat (first | exact Drawn0.refl _ | apply Drawn0.step)⟩

/-! ### ontimeref05_Names: function 46 -/
def ontimeref05_Names.f  : Option (List ByteArray) := some (([(⟨#[110, 111, 112]⟩ : ByteArray), (⟨#[104, 97, 108, 116]⟩ : ByteArray), (⟨#[97, 100, 100]⟩ : ByteArray), (⟨#[115, 117, 98]⟩ : ByteArray), (⟨#[109, 117, 108]⟩ : ByteArray), (⟨#[100, 105, 118]⟩ : ByteArray), (⟨#[109, 111, 100]⟩ : ByteArray), (⟨#[97, 110, 100]⟩ : ByteArray), (⟨#[111, 114]⟩ : ByteArray), (⟨#[120, 111, 114]⟩ : ByteArray), (⟨#[115, 104, 108]⟩ : ByteArray), (⟨#[115, 104, 114]⟩ : ByteArray), (⟨#[101, 113]⟩ : ByteArray), (⟨#[108, 116]⟩ : ByteArray), (⟨#[108, 105]⟩ : ByteArray), (⟨#[97, 100, 100, 105]⟩ : ByteArray), (⟨#[115, 104, 108, 105]⟩ : ByteArray), (⟨#[111, 114, 105]⟩ : ByteArray), (⟨#[108, 100]⟩ : ByteArray), (⟨#[115, 116]⟩ : ByteArray), (⟨#[108, 100, 115]⟩ : ByteArray), (⟨#[115, 116, 115]⟩ : ByteArray), (⟨#[98, 101, 113, 122]⟩ : ByteArray), (⟨#[98, 110, 101, 122]⟩ : ByteArray), (⟨#[106, 109, 112]⟩ : ByteArray), (⟨#[98, 111, 117, 110, 100]⟩ : ByteArray), (⟨#[105, 110]⟩ : ByteArray), (⟨#[111, 117, 116]⟩ : ByteArray), (⟨#[108, 111, 99, 107]⟩ : ByteArray), (⟨#[117, 110, 108, 111, 99, 107]⟩ : ByteArray)] : List ByteArray))
set_option maxHeartbeats 8000000 in
set_option maxRecDepth 100000 in
theorem ontimeref05_Names.calls  (r : List ByteArray) (w : World) (h : ontimeref05_Names.f  = some r) :
    Calls Tryd.prog 46 #[] w fun e w' => ∃ v0_ : Value, e = .returned (v0_) ∧ Kd.R Kd.string 9 w' w.heap.size (fun _ => True) v0_ r ∧ Below w.heap.size w w' := by
  have HB := Aside0.mk (Below.refl w.heap.size w)
  have H : (some (([(⟨#[110, 111, 112]⟩ : ByteArray), (⟨#[104, 97, 108, 116]⟩ : ByteArray), (⟨#[97, 100, 100]⟩ : ByteArray), (⟨#[115, 117, 98]⟩ : ByteArray), (⟨#[109, 117, 108]⟩ : ByteArray), (⟨#[100, 105, 118]⟩ : ByteArray), (⟨#[109, 111, 100]⟩ : ByteArray), (⟨#[97, 110, 100]⟩ : ByteArray), (⟨#[111, 114]⟩ : ByteArray), (⟨#[120, 111, 114]⟩ : ByteArray), (⟨#[115, 104, 108]⟩ : ByteArray), (⟨#[115, 104, 114]⟩ : ByteArray), (⟨#[101, 113]⟩ : ByteArray), (⟨#[108, 116]⟩ : ByteArray), (⟨#[108, 105]⟩ : ByteArray), (⟨#[97, 100, 100, 105]⟩ : ByteArray), (⟨#[115, 104, 108, 105]⟩ : ByteArray), (⟨#[111, 114, 105]⟩ : ByteArray), (⟨#[108, 100]⟩ : ByteArray), (⟨#[115, 116]⟩ : ByteArray), (⟨#[108, 100, 115]⟩ : ByteArray), (⟨#[115, 116, 115]⟩ : ByteArray), (⟨#[98, 101, 113, 122]⟩ : ByteArray), (⟨#[98, 110, 101, 122]⟩ : ByteArray), (⟨#[106, 109, 112]⟩ : ByteArray), (⟨#[98, 111, 117, 110, 100]⟩ : ByteArray), (⟨#[105, 110]⟩ : ByteArray), (⟨#[111, 117, 116]⟩ : ByteArray), (⟨#[108, 111, 99, 107]⟩ : ByteArray), (⟨#[117, 110, 108, 111, 99, 107]⟩ : ByteArray)] : List ByteArray))) = some r := h
  clear h
  obtain ⟨y132, hy132⟩ : ∃ y_ : List ByteArray, y_ = (([(⟨#[110, 111, 112]⟩ : ByteArray), (⟨#[104, 97, 108, 116]⟩ : ByteArray), (⟨#[97, 100, 100]⟩ : ByteArray), (⟨#[115, 117, 98]⟩ : ByteArray), (⟨#[109, 117, 108]⟩ : ByteArray), (⟨#[100, 105, 118]⟩ : ByteArray), (⟨#[109, 111, 100]⟩ : ByteArray), (⟨#[97, 110, 100]⟩ : ByteArray), (⟨#[111, 114]⟩ : ByteArray), (⟨#[120, 111, 114]⟩ : ByteArray), (⟨#[115, 104, 108]⟩ : ByteArray), (⟨#[115, 104, 114]⟩ : ByteArray), (⟨#[101, 113]⟩ : ByteArray), (⟨#[108, 116]⟩ : ByteArray), (⟨#[108, 105]⟩ : ByteArray), (⟨#[97, 100, 100, 105]⟩ : ByteArray), (⟨#[115, 104, 108, 105]⟩ : ByteArray), (⟨#[111, 114, 105]⟩ : ByteArray), (⟨#[108, 100]⟩ : ByteArray), (⟨#[115, 116]⟩ : ByteArray), (⟨#[108, 100, 115]⟩ : ByteArray), (⟨#[115, 116, 115]⟩ : ByteArray), (⟨#[98, 101, 113, 122]⟩ : ByteArray), (⟨#[98, 110, 101, 122]⟩ : ByteArray), (⟨#[106, 109, 112]⟩ : ByteArray), (⟨#[98, 111, 117, 110, 100]⟩ : ByteArray), (⟨#[105, 110]⟩ : ByteArray), (⟨#[111, 117, 116]⟩ : ByteArray), (⟨#[108, 111, 99, 107]⟩ : ByteArray), (⟨#[117, 110, 108, 111, 99, 107]⟩ : ByteArray)] : List ByteArray)) := ⟨_, rfl⟩
  replace H : (some y132) = some r := by first | (rw [hy132]; with_reducible exact H) | (have H2_ := (Option.bind_some _ _).symm.trans H; rw [hy132]; with_reducible exact H2_) | (have H2_ := (Option.bind_some _ _).symm.trans H; with_reducible exact H2_) | with_reducible exact H | (rw [hy132]; exact H) | exact H
  have Ny132 := Aside0.mk hy132
  clear hy132
  obtain rfl := Option.some.inj H
  go_enter Tryd.func46, Tryd.ntmps46
  go_wp2_with (first | ((with_reducible refine gate_dst (N := 1) rfl ?_); refine Kd.R_lit Kd.string _ 9 ?hg (N := 1) ?hd (xs := ([(⟨#[110, 111, 112]⟩ : ByteArray), (⟨#[104, 97, 108, 116]⟩ : ByteArray), (⟨#[97, 100, 100]⟩ : ByteArray), (⟨#[115, 117, 98]⟩ : ByteArray), (⟨#[109, 117, 108]⟩ : ByteArray), (⟨#[100, 105, 118]⟩ : ByteArray), (⟨#[109, 111, 100]⟩ : ByteArray), (⟨#[97, 110, 100]⟩ : ByteArray), (⟨#[111, 114]⟩ : ByteArray), (⟨#[120, 111, 114]⟩ : ByteArray), (⟨#[115, 104, 108]⟩ : ByteArray), (⟨#[115, 104, 114]⟩ : ByteArray), (⟨#[101, 113]⟩ : ByteArray), (⟨#[108, 116]⟩ : ByteArray), (⟨#[108, 105]⟩ : ByteArray), (⟨#[97, 100, 100, 105]⟩ : ByteArray), (⟨#[115, 104, 108, 105]⟩ : ByteArray), (⟨#[111, 114, 105]⟩ : ByteArray), (⟨#[108, 100]⟩ : ByteArray), (⟨#[115, 116]⟩ : ByteArray), (⟨#[108, 100, 115]⟩ : ByteArray), (⟨#[115, 116, 115]⟩ : ByteArray), (⟨#[98, 101, 113, 122]⟩ : ByteArray), (⟨#[98, 110, 101, 122]⟩ : ByteArray), (⟨#[106, 109, 112]⟩ : ByteArray), (⟨#[98, 111, 117, 110, 100]⟩ : ByteArray), (⟨#[105, 110]⟩ : ByteArray), (⟨#[111, 117, 116]⟩ : ByteArray), (⟨#[108, 111, 99, 107]⟩ : ByteArray), (⟨#[117, 110, 108, 111, 99, 107]⟩ : ByteArray)] : List ByteArray)) (inner := [.string (⟨#[110, 111, 112]⟩ : ByteArray), .string (⟨#[104, 97, 108, 116]⟩ : ByteArray), .string (⟨#[97, 100, 100]⟩ : ByteArray), .string (⟨#[115, 117, 98]⟩ : ByteArray), .string (⟨#[109, 117, 108]⟩ : ByteArray), .string (⟨#[100, 105, 118]⟩ : ByteArray), .string (⟨#[109, 111, 100]⟩ : ByteArray), .string (⟨#[97, 110, 100]⟩ : ByteArray), .string (⟨#[111, 114]⟩ : ByteArray), .string (⟨#[120, 111, 114]⟩ : ByteArray), .string (⟨#[115, 104, 108]⟩ : ByteArray), .string (⟨#[115, 104, 114]⟩ : ByteArray), .string (⟨#[101, 113]⟩ : ByteArray), .string (⟨#[108, 116]⟩ : ByteArray), .string (⟨#[108, 105]⟩ : ByteArray), .string (⟨#[97, 100, 100, 105]⟩ : ByteArray), .string (⟨#[115, 104, 108, 105]⟩ : ByteArray), .string (⟨#[111, 114, 105]⟩ : ByteArray), .string (⟨#[108, 100]⟩ : ByteArray), .string (⟨#[115, 116]⟩ : ByteArray), .string (⟨#[108, 100, 115]⟩ : ByteArray), .string (⟨#[115, 116, 115]⟩ : ByteArray), .string (⟨#[98, 101, 113, 122]⟩ : ByteArray), .string (⟨#[98, 110, 101, 122]⟩ : ByteArray), .string (⟨#[106, 109, 112]⟩ : ByteArray), .string (⟨#[98, 111, 117, 110, 100]⟩ : ByteArray), .string (⟨#[105, 110]⟩ : ByteArray), .string (⟨#[111, 117, 116]⟩ : ByteArray), .string (⟨#[108, 111, 99, 107]⟩ : ByteArray), .string (⟨#[117, 110, 108, 111, 99, 107]⟩ : ByteArray)]) (ok := fun _ => True) (okp := fun _ => True) ?hr ?hp (fun _ hk => hk) trivial (Below.refl _ _) (Nat.le_refl _) (by simp) ?_; (case hd => rfl); (case hg => rfl); (case hr => first | (go_simp; done) | (go_simp; rfl)); (case hp => exact (Reps.one (show Kd.M Kd.string _ _ _ (⟨#[110, 111, 112]⟩ : ByteArray) [.string (⟨#[110, 111, 112]⟩ : ByteArray)] from rfl) (Reps.one (show Kd.M Kd.string _ _ _ (⟨#[104, 97, 108, 116]⟩ : ByteArray) [.string (⟨#[104, 97, 108, 116]⟩ : ByteArray)] from rfl) (Reps.one (show Kd.M Kd.string _ _ _ (⟨#[97, 100, 100]⟩ : ByteArray) [.string (⟨#[97, 100, 100]⟩ : ByteArray)] from rfl) (Reps.one (show Kd.M Kd.string _ _ _ (⟨#[115, 117, 98]⟩ : ByteArray) [.string (⟨#[115, 117, 98]⟩ : ByteArray)] from rfl) (Reps.one (show Kd.M Kd.string _ _ _ (⟨#[109, 117, 108]⟩ : ByteArray) [.string (⟨#[109, 117, 108]⟩ : ByteArray)] from rfl) (Reps.one (show Kd.M Kd.string _ _ _ (⟨#[100, 105, 118]⟩ : ByteArray) [.string (⟨#[100, 105, 118]⟩ : ByteArray)] from rfl) (Reps.one (show Kd.M Kd.string _ _ _ (⟨#[109, 111, 100]⟩ : ByteArray) [.string (⟨#[109, 111, 100]⟩ : ByteArray)] from rfl) (Reps.one (show Kd.M Kd.string _ _ _ (⟨#[97, 110, 100]⟩ : ByteArray) [.string (⟨#[97, 110, 100]⟩ : ByteArray)] from rfl) (Reps.one (show Kd.M Kd.string _ _ _ (⟨#[111, 114]⟩ : ByteArray) [.string (⟨#[111, 114]⟩ : ByteArray)] from rfl) (Reps.one (show Kd.M Kd.string _ _ _ (⟨#[120, 111, 114]⟩ : ByteArray) [.string (⟨#[120, 111, 114]⟩ : ByteArray)] from rfl) (Reps.one (show Kd.M Kd.string _ _ _ (⟨#[115, 104, 108]⟩ : ByteArray) [.string (⟨#[115, 104, 108]⟩ : ByteArray)] from rfl) (Reps.one (show Kd.M Kd.string _ _ _ (⟨#[115, 104, 114]⟩ : ByteArray) [.string (⟨#[115, 104, 114]⟩ : ByteArray)] from rfl) (Reps.one (show Kd.M Kd.string _ _ _ (⟨#[101, 113]⟩ : ByteArray) [.string (⟨#[101, 113]⟩ : ByteArray)] from rfl) (Reps.one (show Kd.M Kd.string _ _ _ (⟨#[108, 116]⟩ : ByteArray) [.string (⟨#[108, 116]⟩ : ByteArray)] from rfl) (Reps.one (show Kd.M Kd.string _ _ _ (⟨#[108, 105]⟩ : ByteArray) [.string (⟨#[108, 105]⟩ : ByteArray)] from rfl) (Reps.one (show Kd.M Kd.string _ _ _ (⟨#[97, 100, 100, 105]⟩ : ByteArray) [.string (⟨#[97, 100, 100, 105]⟩ : ByteArray)] from rfl) (Reps.one (show Kd.M Kd.string _ _ _ (⟨#[115, 104, 108, 105]⟩ : ByteArray) [.string (⟨#[115, 104, 108, 105]⟩ : ByteArray)] from rfl) (Reps.one (show Kd.M Kd.string _ _ _ (⟨#[111, 114, 105]⟩ : ByteArray) [.string (⟨#[111, 114, 105]⟩ : ByteArray)] from rfl) (Reps.one (show Kd.M Kd.string _ _ _ (⟨#[108, 100]⟩ : ByteArray) [.string (⟨#[108, 100]⟩ : ByteArray)] from rfl) (Reps.one (show Kd.M Kd.string _ _ _ (⟨#[115, 116]⟩ : ByteArray) [.string (⟨#[115, 116]⟩ : ByteArray)] from rfl) (Reps.one (show Kd.M Kd.string _ _ _ (⟨#[108, 100, 115]⟩ : ByteArray) [.string (⟨#[108, 100, 115]⟩ : ByteArray)] from rfl) (Reps.one (show Kd.M Kd.string _ _ _ (⟨#[115, 116, 115]⟩ : ByteArray) [.string (⟨#[115, 116, 115]⟩ : ByteArray)] from rfl) (Reps.one (show Kd.M Kd.string _ _ _ (⟨#[98, 101, 113, 122]⟩ : ByteArray) [.string (⟨#[98, 101, 113, 122]⟩ : ByteArray)] from rfl) (Reps.one (show Kd.M Kd.string _ _ _ (⟨#[98, 110, 101, 122]⟩ : ByteArray) [.string (⟨#[98, 110, 101, 122]⟩ : ByteArray)] from rfl) (Reps.one (show Kd.M Kd.string _ _ _ (⟨#[106, 109, 112]⟩ : ByteArray) [.string (⟨#[106, 109, 112]⟩ : ByteArray)] from rfl) (Reps.one (show Kd.M Kd.string _ _ _ (⟨#[98, 111, 117, 110, 100]⟩ : ByteArray) [.string (⟨#[98, 111, 117, 110, 100]⟩ : ByteArray)] from rfl) (Reps.one (show Kd.M Kd.string _ _ _ (⟨#[105, 110]⟩ : ByteArray) [.string (⟨#[105, 110]⟩ : ByteArray)] from rfl) (Reps.one (show Kd.M Kd.string _ _ _ (⟨#[111, 117, 116]⟩ : ByteArray) [.string (⟨#[111, 117, 116]⟩ : ByteArray)] from rfl) (Reps.one (show Kd.M Kd.string _ _ _ (⟨#[108, 111, 99, 107]⟩ : ByteArray) [.string (⟨#[108, 111, 99, 107]⟩ : ByteArray)] from rfl) (Reps.one (show Kd.M Kd.string _ _ _ (⟨#[117, 110, 108, 111, 99, 107]⟩ : ByteArray) [.string (⟨#[117, 110, 108, 111, 99, 107]⟩ : ByteArray)] from rfl) (Reps.none _ _)))))))))))))))))))))))))))))))); intro v133 w1 ho2 hb hg_ hnew_; clear hg_ hnew_; (first | rw [← Ny132.out] at ho2 | (simp only [Int.reduceToNat] at ho2; rw [← Ny132.out] at ho2)); have n0_ := Aside0.mk (Kd.R_lower ho2 (below_size (by repeat (first | (with_reducible first | exact HB.out | apply below_alloc | apply pw_below_drewN | apply below_drew1) | exact HB.out)))); have n1_ := Aside0.mk (below_step (by repeat (first | (with_reducible first | exact HB.out | apply below_alloc | apply pw_below_drewN | apply below_drew1) | exact HB.out)) hb); clear HB; have HO134 := n0_; have HB := n1_; clear n0_ n1_; clear hb ho2))
  go_ret
  exact ⟨_, by first | rfl | (simp [errW_none, errW_some] <;> rfl) | (simp [*, errW_none, errW_some] <;> rfl), by (with_reducible repeat (first | apply Kd.R_alloc | apply Kd.R_drewN | apply Kd.R_drew)); exact HO134.out, by repeat (first | (with_reducible first | exact HB.out | apply below_alloc | apply pw_below_drewN | apply below_drew1) | exact HB.out)⟩

/-! ### ontimeref05_Shape: function 47 -/
mutual
def ontimeref05_Shape.j0 : Nat → Int → Bool → Option (ByteArray)
  | 0, _, _ => none
  | k + 1, x0, x8 => if x8 = true then (some (⟨#[97, 98, 99]⟩ : ByteArray)) else (if x0 = 14 then (ontimeref05_Shape.j1 k x0 (x0 == 14)) else (if x0 = 22 then (ontimeref05_Shape.j1 k x0 (x0 == 22)) else (if x0 = 23 then (ontimeref05_Shape.j1 k x0 (x0 == 23)) else (if x0 = 25 then (ontimeref05_Shape.j1 k x0 (x0 == 25)) else (if x0 = 26 then (ontimeref05_Shape.j1 k x0 (x0 == 26)) else (ontimeref05_Shape.j1 k x0 (x0 == 27)))))))
def ontimeref05_Shape.j1 : Nat → Int → Bool → Option (ByteArray)
  | 0, _, _ => none
  | k + 1, x9, x10 => if x10 = true then (some (⟨#[97, 105]⟩ : ByteArray)) else (if x9 = 15 then (ontimeref05_Shape.j2 k x9 (x9 == 15)) else (if x9 = 16 then (ontimeref05_Shape.j2 k x9 (x9 == 16)) else (if x9 = 17 then (ontimeref05_Shape.j2 k x9 (x9 == 17)) else (if x9 = 18 then (ontimeref05_Shape.j2 k x9 (x9 == 18)) else (if x9 = 19 then (ontimeref05_Shape.j2 k x9 (x9 == 19)) else (if x9 = 20 then (ontimeref05_Shape.j2 k x9 (x9 == 20)) else (ontimeref05_Shape.j2 k x9 (x9 == 21))))))))
def ontimeref05_Shape.j2 : Nat → Int → Bool → Option (ByteArray)
  | 0, _, _ => none
  | k + 1, x9, x17 => if x17 = true then (some (⟨#[97, 98, 105]⟩ : ByteArray)) else (if x9 = 24 then (some (⟨#[105]⟩ : ByteArray)) else (if x9 = 28 then (some (⟨#[105]⟩ : ByteArray)) else (if x9 = 29 then (some (⟨#[105]⟩ : ByteArray)) else (some (⟨#[]⟩ : ByteArray)))))
end
def ontimeref05_Shape.f (k : Nat) (a0 : Int) : Option (ByteArray) := if a0 ≥ 2 then (ontimeref05_Shape.j0 k a0 (decide (a0 ≤ 13))) else (ontimeref05_Shape.j0 k a0 false)
theorem ontimeref05_Shape.mono_l : ∀ k, (∀ y0 y1, LeO (ontimeref05_Shape.j0 k y0 y1) (ontimeref05_Shape.j0 (k + 1) y0 y1)) ∧ (∀ y0 y1, LeO (ontimeref05_Shape.j1 k y0 y1) (ontimeref05_Shape.j1 (k + 1) y0 y1)) ∧ (∀ y0 y1, LeO (ontimeref05_Shape.j2 k y0 y1) (ontimeref05_Shape.j2 (k + 1) y0 y1))
  | 0 => ⟨fun _ _ r h => by simp [ontimeref05_Shape.j0] at h, fun _ _ r h => by simp [ontimeref05_Shape.j1] at h, fun _ _ r h => by simp [ontimeref05_Shape.j2] at h⟩
  | k + 1 => by
    obtain ⟨ih0, ih1, ih2⟩ := ontimeref05_Shape.mono_l k
    refine ⟨?_, ?_, ?_⟩
    · intro y0 y1
      unfold ontimeref05_Shape.j0
      repeat' first
      | (with_reducible exact ih0 _ _)
      | (with_reducible exact ih1 _ _)
      | (with_reducible exact ih2 _ _)
      | (with_reducible exact LeO.refl _)
      | (with_reducible exact LeO.none _)
      | (with_reducible refine LeO.ite ?_ ?_)
      | (with_reducible refine LeO.bind ?_ (fun _ => ?_))
      | exact ih0 _ _
      | exact ih1 _ _
      | exact ih2 _ _
      | exact LeO.none _
      | refine LeO.ite ?_ ?_
      | refine LeO.bind ?_ (fun _ => ?_)
    · intro y0 y1
      unfold ontimeref05_Shape.j1
      repeat' first
      | (with_reducible exact ih0 _ _)
      | (with_reducible exact ih1 _ _)
      | (with_reducible exact ih2 _ _)
      | (with_reducible exact LeO.refl _)
      | (with_reducible exact LeO.none _)
      | (with_reducible refine LeO.ite ?_ ?_)
      | (with_reducible refine LeO.bind ?_ (fun _ => ?_))
      | exact ih0 _ _
      | exact ih1 _ _
      | exact ih2 _ _
      | exact LeO.none _
      | refine LeO.ite ?_ ?_
      | refine LeO.bind ?_ (fun _ => ?_)
    · intro y0 y1
      unfold ontimeref05_Shape.j2
      repeat' first
      | (with_reducible exact ih0 _ _)
      | (with_reducible exact ih1 _ _)
      | (with_reducible exact ih2 _ _)
      | (with_reducible exact LeO.refl _)
      | (with_reducible exact LeO.none _)
      | (with_reducible refine LeO.ite ?_ ?_)
      | (with_reducible refine LeO.bind ?_ (fun _ => ?_))
      | exact ih0 _ _
      | exact ih1 _ _
      | exact ih2 _ _
      | exact LeO.none _
      | refine LeO.ite ?_ ?_
      | refine LeO.bind ?_ (fun _ => ?_)
theorem ontimeref05_Shape.mono : ∀ a0 k, LeO (ontimeref05_Shape.f k a0) (ontimeref05_Shape.f (k + 1) a0) := by
  intro a0 k
  obtain ⟨ih0, ih1, ih2⟩ := ontimeref05_Shape.mono_l k
  unfold ontimeref05_Shape.f
  repeat' first
      | (with_reducible exact ih0 _ _)
      | (with_reducible exact ih1 _ _)
      | (with_reducible exact ih2 _ _)
      | (with_reducible exact LeO.refl _)
      | (with_reducible exact LeO.none _)
      | (with_reducible refine LeO.ite ?_ ?_)
      | (with_reducible refine LeO.bind ?_ (fun _ => ?_))
      | exact ih0 _ _
      | exact ih1 _ _
      | exact ih2 _ _
      | exact LeO.none _
      | refine LeO.ite ?_ ?_
      | refine LeO.bind ?_ (fun _ => ?_)
set_option maxHeartbeats 8000000 in
set_option maxRecDepth 100000 in
theorem ontimeref05_Shape.calls (k : Nat) (a0 : Int) (r : ByteArray) (w : World) (h : ontimeref05_Shape.f k a0 = some r) :
    Calls Tryd.prog 47 #[.int .u8 a0] w fun e w' => e = .returned (.string r) ∧ Drawn0 w w' := by
  have H : (if a0 ≥ 2 then (ontimeref05_Shape.j0 k a0 (decide (a0 ≤ 13))) else (ontimeref05_Shape.j0 k a0 false)) = some r := h
  clear h
  have HC2 := Aside0.mk H
  clear H
  go_enter Tryd.func47, Tryd.ntmps47
  go_upto_region 1 with (fail)
  go_cut [8] (fun v8 wc => ∃ (kq : Nat) (x8_1 : Bool), v8 = .bool x8_1 ∧ Aside0 (ontimeref05_Shape.j0 kq a0 x8_1 = some r) ∧ Aside0 (kq ≤ k) ∧ Drawn0 w wc)
  case first =>
    have H := HC2.out
    clear HC2
    by_cases c3 : a0 ≥ 2
    · rw [if_pos c3] at H
      have c3b0 : decide (2 ≤ a0) = true := decide_eq_true c3
      clear c3
      (first | rw [c3b0] | (simp only [i64_w, i32_w]; rw [c3b0]) | skip)
      have H' := Aside0.mk H
      clear H
      go_wp2
      go_meet
      case rel => exact ⟨_, (decide (a0 ≤ 13)), (by first | rfl | (simp; done) | (simp [*]; done)), H', ⟨by first | omega | exact Nat.le_refl _⟩, by repeat (first | exact Drawn0.refl _ | apply Drawn0.step)⟩
    · rw [if_neg c3] at H
      have c3b0 : decide (2 ≤ a0) = false := decide_eq_false c3
      clear c3
      (first | rw [c3b0] | (simp only [i64_w, i32_w]; rw [c3b0]) | skip)
      have H' := Aside0.mk H
      clear H
      go_wp2
      go_meet
      case rel => exact ⟨_, (false), (by first | rfl | (simp; done) | (simp [*]; done)), H', ⟨by first | omega | exact Nat.le_refl _⟩, by repeat (first | exact Drawn0.refl _ | apply Drawn0.step)⟩
  case rest =>
    clear HC2
    try clear p2
    try clear c3
    try clear c3b0
    obtain ⟨kq, x8_1, rfl, HA, HJ1, ⟨mc1, rfl⟩⟩ := hcut
    cases kq with
    | zero => exact absurd HA.out (by simp [ontimeref05_Shape.j0])
    | succ kj1 =>
      have H := HA.out
      clear HA
      simp only [ontimeref05_Shape.j0] at H
      by_cases c4 : x8_1 = true
      · subst c4
        have H1 : (some (⟨#[97, 98, 99]⟩ : ByteArray)) = some r := by rw [if_pos rfl] at H; exact H
        clear H
        have H := H1
        clear H1
        obtain rfl := Option.some.inj H
        go_wp2
        go_ret
        exact ⟨by first | rfl | (simp; done) | (simp [*]; done), by repeat (first | exact Drawn0.refl _ | apply Drawn0.step)⟩
      · replace c4 := Bool.eq_false_iff.mpr c4
        subst c4
        have H1 : (if a0 = 14 then (ontimeref05_Shape.j1 kj1 a0 (a0 == 14)) else (if a0 = 22 then (ontimeref05_Shape.j1 kj1 a0 (a0 == 22)) else (if a0 = 23 then (ontimeref05_Shape.j1 kj1 a0 (a0 == 23)) else (if a0 = 25 then (ontimeref05_Shape.j1 kj1 a0 (a0 == 25)) else (if a0 = 26 then (ontimeref05_Shape.j1 kj1 a0 (a0 == 26)) else (ontimeref05_Shape.j1 kj1 a0 (a0 == 27))))))) = some r := by rw [if_neg (show ¬ (false = true) by decide)] at H; exact H
        clear H
        have H := H1
        clear H1
        have HC5 := Aside0.mk H
        clear H
        go_upto_if 10 with (fail)
        go_cut [10] (fun v10 wc => ∃ (kq : Nat) (x10_4 : Bool), v10 = .bool x10_4 ∧ Aside0 (ontimeref05_Shape.j1 kq a0 x10_4 = some r) ∧ Aside0 (kq ≤ kj1) ∧ Drawn0 w wc)
        case first =>
          have H := HC5.out
          clear HC5
          by_cases c6 : a0 = 14
          · rw [if_pos c6] at H
            have c6b0 : (a0 == 14) = true := beq_iff_eq.mpr c6
            have c6b1 : (a0 != 14) = false := bne_eq_false_iff_eq.mpr c6
            clear c6
            (first | rw [c6b0] | (simp only [i64_w, i32_w]; rw [c6b0]) | skip)
            have H' := Aside0.mk H
            clear H
            go_wp2
            go_meet
            case rel => exact ⟨_, ((a0 == 14)), (by first | rfl | (simp; done) | (simp [*]; done)), H', ⟨by have := HJ1.out; first | omega | exact Nat.le_refl _⟩, by repeat (first | exact Drawn0.refl _ | apply Drawn0.step)⟩
          · rw [if_neg c6] at H
            have c6b0 : (a0 == 14) = false := beq_eq_false_iff_ne.mpr c6
            have c6b1 : (a0 != 14) = true := bne_iff_ne.mpr c6
            (first | rw [c6b0] | (simp only [i64_w, i32_w]; rw [c6b0]) | skip)
            by_cases c7 : a0 = 22
            · rw [if_pos c7] at H
              have c7b0 : (a0 == 22) = true := beq_iff_eq.mpr c7
              have c7b1 : (a0 != 22) = false := bne_eq_false_iff_eq.mpr c7
              clear c7
              have H' := Aside0.mk H
              clear H
              go_wp2
              go_meet
              case rel => exact ⟨_, ((a0 == 22)), (by first | rfl | (simp; done) | (simp [*]; done)), H', ⟨by have := HJ1.out; first | omega | exact Nat.le_refl _⟩, by repeat (first | exact Drawn0.refl _ | apply Drawn0.step)⟩
            · rw [if_neg c7] at H
              have c7b0 : (a0 == 22) = false := beq_eq_false_iff_ne.mpr c7
              have c7b1 : (a0 != 22) = true := bne_iff_ne.mpr c7
              by_cases c8 : a0 = 23
              · rw [if_pos c8] at H
                have c8b0 : (a0 == 23) = true := beq_iff_eq.mpr c8
                have c8b1 : (a0 != 23) = false := bne_eq_false_iff_eq.mpr c8
                clear c8
                have H' := Aside0.mk H
                clear H
                go_wp2
                go_meet
                case rel => exact ⟨_, ((a0 == 23)), (by first | rfl | (simp; done) | (simp [*]; done)), H', ⟨by have := HJ1.out; first | omega | exact Nat.le_refl _⟩, by repeat (first | exact Drawn0.refl _ | apply Drawn0.step)⟩
              · rw [if_neg c8] at H
                have c8b0 : (a0 == 23) = false := beq_eq_false_iff_ne.mpr c8
                have c8b1 : (a0 != 23) = true := bne_iff_ne.mpr c8
                by_cases c9 : a0 = 25
                · rw [if_pos c9] at H
                  have c9b0 : (a0 == 25) = true := beq_iff_eq.mpr c9
                  have c9b1 : (a0 != 25) = false := bne_eq_false_iff_eq.mpr c9
                  clear c9
                  have H' := Aside0.mk H
                  clear H
                  go_wp2
                  go_meet
                  case rel => exact ⟨_, ((a0 == 25)), (by first | rfl | (simp; done) | (simp [*]; done)), H', ⟨by have := HJ1.out; first | omega | exact Nat.le_refl _⟩, by repeat (first | exact Drawn0.refl _ | apply Drawn0.step)⟩
                · rw [if_neg c9] at H
                  have c9b0 : (a0 == 25) = false := beq_eq_false_iff_ne.mpr c9
                  have c9b1 : (a0 != 25) = true := bne_iff_ne.mpr c9
                  by_cases c10 : a0 = 26
                  · rw [if_pos c10] at H
                    have c10b0 : (a0 == 26) = true := beq_iff_eq.mpr c10
                    have c10b1 : (a0 != 26) = false := bne_eq_false_iff_eq.mpr c10
                    clear c10
                    have H' := Aside0.mk H
                    clear H
                    go_wp2
                    go_meet
                    case rel => exact ⟨_, ((a0 == 26)), (by first | rfl | (simp; done) | (simp [*]; done)), H', ⟨by have := HJ1.out; first | omega | exact Nat.le_refl _⟩, by repeat (first | exact Drawn0.refl _ | apply Drawn0.step)⟩
                  · rw [if_neg c10] at H
                    have c10b0 : (a0 == 26) = false := beq_eq_false_iff_ne.mpr c10
                    have c10b1 : (a0 != 26) = true := bne_iff_ne.mpr c10
                    have H' := Aside0.mk H
                    clear H
                    go_wp2
                    go_meet
                    case rel => exact ⟨_, ((a0 == 27)), (by first | rfl | (simp; done) | (simp [*]; done)), H', ⟨by have := HJ1.out; first | omega | exact Nat.le_refl _⟩, by repeat (first | exact Drawn0.refl _ | apply Drawn0.step)⟩
        case rest =>
          clear HC5
          try clear c1
          try clear p2
          try clear c3
          try clear c3b0
          try clear c4
          try clear c6
          try clear c6b0
          try clear c6b1
          try clear c7
          try clear c7b0
          try clear c7b1
          try clear c8
          try clear c8b0
          try clear c8b1
          try clear c9
          try clear c9b0
          try clear c9b1
          try clear c10
          try clear c10b0
          try clear c10b1
          try clear p2
          obtain ⟨kq, x10_4, rfl, HA, HJ4, ⟨mc4, rfl⟩⟩ := hcut
          cases kq with
          | zero => exact absurd HA.out (by simp [ontimeref05_Shape.j1])
          | succ kj4 =>
            have H := HA.out
            clear HA
            simp only [ontimeref05_Shape.j1] at H
            by_cases c11 : x10_4 = true
            · subst c11
              have H1 : (some (⟨#[97, 105]⟩ : ByteArray)) = some r := by rw [if_pos rfl] at H; exact H
              clear H
              have H := H1
              clear H1
              obtain rfl := Option.some.inj H
              go_wp2
              go_ret
              exact ⟨by first | rfl | (simp; done) | (simp [*]; done), by repeat (first | exact Drawn0.refl _ | apply Drawn0.step)⟩
            · replace c11 := Bool.eq_false_iff.mpr c11
              subst c11
              have H1 : (if a0 = 15 then (ontimeref05_Shape.j2 kj4 a0 (a0 == 15)) else (if a0 = 16 then (ontimeref05_Shape.j2 kj4 a0 (a0 == 16)) else (if a0 = 17 then (ontimeref05_Shape.j2 kj4 a0 (a0 == 17)) else (if a0 = 18 then (ontimeref05_Shape.j2 kj4 a0 (a0 == 18)) else (if a0 = 19 then (ontimeref05_Shape.j2 kj4 a0 (a0 == 19)) else (if a0 = 20 then (ontimeref05_Shape.j2 kj4 a0 (a0 == 20)) else (ontimeref05_Shape.j2 kj4 a0 (a0 == 21)))))))) = some r := by rw [if_neg (show ¬ (false = true) by decide)] at H; exact H
              clear H
              have H := H1
              clear H1
              have HC12 := Aside0.mk H
              clear H
              go_upto_if 17 with (fail)
              go_cut [17] (fun v17 wc => ∃ (kq : Nat) (x17_11 : Bool), v17 = .bool x17_11 ∧ Aside0 (ontimeref05_Shape.j2 kq a0 x17_11 = some r) ∧ Aside0 (kq ≤ kj4) ∧ Drawn0 w wc)
              case first =>
                have H := HC12.out
                clear HC12
                by_cases c13 : a0 = 15
                · rw [if_pos c13] at H
                  have c13b0 : (a0 == 15) = true := beq_iff_eq.mpr c13
                  have c13b1 : (a0 != 15) = false := bne_eq_false_iff_eq.mpr c13
                  clear c13
                  (first | rw [c13b0] | (simp only [i64_w, i32_w]; rw [c13b0]) | skip)
                  have H' := Aside0.mk H
                  clear H
                  go_wp2
                  go_meet
                  case rel => exact ⟨_, ((a0 == 15)), (by first | rfl | (simp; done) | (simp [*]; done)), H', ⟨by have := HJ1.out; have := HJ4.out; first | omega | exact Nat.le_refl _⟩, by repeat (first | exact Drawn0.refl _ | apply Drawn0.step)⟩
                · rw [if_neg c13] at H
                  have c13b0 : (a0 == 15) = false := beq_eq_false_iff_ne.mpr c13
                  have c13b1 : (a0 != 15) = true := bne_iff_ne.mpr c13
                  (first | rw [c13b0] | (simp only [i64_w, i32_w]; rw [c13b0]) | skip)
                  by_cases c14 : a0 = 16
                  · rw [if_pos c14] at H
                    have c14b0 : (a0 == 16) = true := beq_iff_eq.mpr c14
                    have c14b1 : (a0 != 16) = false := bne_eq_false_iff_eq.mpr c14
                    clear c14
                    have H' := Aside0.mk H
                    clear H
                    go_wp2
                    go_meet
                    case rel => exact ⟨_, ((a0 == 16)), (by first | rfl | (simp; done) | (simp [*]; done)), H', ⟨by have := HJ1.out; have := HJ4.out; first | omega | exact Nat.le_refl _⟩, by repeat (first | exact Drawn0.refl _ | apply Drawn0.step)⟩
                  · rw [if_neg c14] at H
                    have c14b0 : (a0 == 16) = false := beq_eq_false_iff_ne.mpr c14
                    have c14b1 : (a0 != 16) = true := bne_iff_ne.mpr c14
                    by_cases c15 : a0 = 17
                    · rw [if_pos c15] at H
                      have c15b0 : (a0 == 17) = true := beq_iff_eq.mpr c15
                      have c15b1 : (a0 != 17) = false := bne_eq_false_iff_eq.mpr c15
                      clear c15
                      have H' := Aside0.mk H
                      clear H
                      go_wp2
                      go_meet
                      case rel => exact ⟨_, ((a0 == 17)), (by first | rfl | (simp; done) | (simp [*]; done)), H', ⟨by have := HJ1.out; have := HJ4.out; first | omega | exact Nat.le_refl _⟩, by repeat (first | exact Drawn0.refl _ | apply Drawn0.step)⟩
                    · rw [if_neg c15] at H
                      have c15b0 : (a0 == 17) = false := beq_eq_false_iff_ne.mpr c15
                      have c15b1 : (a0 != 17) = true := bne_iff_ne.mpr c15
                      by_cases c16 : a0 = 18
                      · rw [if_pos c16] at H
                        have c16b0 : (a0 == 18) = true := beq_iff_eq.mpr c16
                        have c16b1 : (a0 != 18) = false := bne_eq_false_iff_eq.mpr c16
                        clear c16
                        have H' := Aside0.mk H
                        clear H
                        go_wp2
                        go_meet
                        case rel => exact ⟨_, ((a0 == 18)), (by first | rfl | (simp; done) | (simp [*]; done)), H', ⟨by have := HJ1.out; have := HJ4.out; first | omega | exact Nat.le_refl _⟩, by repeat (first | exact Drawn0.refl _ | apply Drawn0.step)⟩
                      · rw [if_neg c16] at H
                        have c16b0 : (a0 == 18) = false := beq_eq_false_iff_ne.mpr c16
                        have c16b1 : (a0 != 18) = true := bne_iff_ne.mpr c16
                        by_cases c17 : a0 = 19
                        · rw [if_pos c17] at H
                          have c17b0 : (a0 == 19) = true := beq_iff_eq.mpr c17
                          have c17b1 : (a0 != 19) = false := bne_eq_false_iff_eq.mpr c17
                          clear c17
                          have H' := Aside0.mk H
                          clear H
                          go_wp2
                          go_meet
                          case rel => exact ⟨_, ((a0 == 19)), (by first | rfl | (simp; done) | (simp [*]; done)), H', ⟨by have := HJ1.out; have := HJ4.out; first | omega | exact Nat.le_refl _⟩, by repeat (first | exact Drawn0.refl _ | apply Drawn0.step)⟩
                        · rw [if_neg c17] at H
                          have c17b0 : (a0 == 19) = false := beq_eq_false_iff_ne.mpr c17
                          have c17b1 : (a0 != 19) = true := bne_iff_ne.mpr c17
                          by_cases c18 : a0 = 20
                          · rw [if_pos c18] at H
                            have c18b0 : (a0 == 20) = true := beq_iff_eq.mpr c18
                            have c18b1 : (a0 != 20) = false := bne_eq_false_iff_eq.mpr c18
                            clear c18
                            have H' := Aside0.mk H
                            clear H
                            go_wp2
                            go_meet
                            case rel => exact ⟨_, ((a0 == 20)), (by first | rfl | (simp; done) | (simp [*]; done)), H', ⟨by have := HJ1.out; have := HJ4.out; first | omega | exact Nat.le_refl _⟩, by repeat (first | exact Drawn0.refl _ | apply Drawn0.step)⟩
                          · rw [if_neg c18] at H
                            have c18b0 : (a0 == 20) = false := beq_eq_false_iff_ne.mpr c18
                            have c18b1 : (a0 != 20) = true := bne_iff_ne.mpr c18
                            have H' := Aside0.mk H
                            clear H
                            go_wp2
                            go_meet
                            case rel => exact ⟨_, ((a0 == 21)), (by first | rfl | (simp; done) | (simp [*]; done)), H', ⟨by have := HJ1.out; have := HJ4.out; first | omega | exact Nat.le_refl _⟩, by repeat (first | exact Drawn0.refl _ | apply Drawn0.step)⟩
              case rest =>
                clear HC12
                try clear c1
                try clear p2
                try clear c3
                try clear c3b0
                try clear c4
                try clear c6
                try clear c6b0
                try clear c6b1
                try clear c7
                try clear c7b0
                try clear c7b1
                try clear c8
                try clear c8b0
                try clear c8b1
                try clear c9
                try clear c9b0
                try clear c9b1
                try clear c10
                try clear c10b0
                try clear c10b1
                try clear c11
                try clear c13
                try clear c13b0
                try clear c13b1
                try clear c14
                try clear c14b0
                try clear c14b1
                try clear c15
                try clear c15b0
                try clear c15b1
                try clear c16
                try clear c16b0
                try clear c16b1
                try clear c17
                try clear c17b0
                try clear c17b1
                try clear c18
                try clear c18b0
                try clear c18b1
                try clear p2
                obtain ⟨kq, x17_11, rfl, HA, HJ11, ⟨mc11, rfl⟩⟩ := hcut
                cases kq with
                | zero => exact absurd HA.out (by simp [ontimeref05_Shape.j2])
                | succ kj11 =>
                  have H := HA.out
                  clear HA
                  simp only [ontimeref05_Shape.j2] at H
                  by_cases c19 : x17_11 = true
                  · subst c19
                    have H1 : (some (⟨#[97, 98, 105]⟩ : ByteArray)) = some r := by rw [if_pos rfl] at H; exact H
                    clear H
                    have H := H1
                    clear H1
                    obtain rfl := Option.some.inj H
                    go_wp2
                    go_ret
                    exact ⟨by first | rfl | (simp; done) | (simp [*]; done), by repeat (first | exact Drawn0.refl _ | apply Drawn0.step)⟩
                  · replace c19 := Bool.eq_false_iff.mpr c19
                    subst c19
                    have H1 : (if a0 = 24 then (some (⟨#[105]⟩ : ByteArray)) else (if a0 = 28 then (some (⟨#[105]⟩ : ByteArray)) else (if a0 = 29 then (some (⟨#[105]⟩ : ByteArray)) else (some (⟨#[]⟩ : ByteArray))))) = some r := by rw [if_neg (show ¬ (false = true) by decide)] at H; exact H
                    clear H
                    have H := H1
                    clear H1
                    by_cases c20 : a0 = 24
                    · rw [if_pos c20] at H
                      have c20b0 : (a0 == 24) = true := beq_iff_eq.mpr c20
                      have c20b1 : (a0 != 24) = false := bne_eq_false_iff_eq.mpr c20
                      clear c20
                      obtain rfl := Option.some.inj H
                      go_wp2
                      go_ret
                      exact ⟨by first | rfl | (simp; done) | (simp [*]; done), by repeat (first | exact Drawn0.refl _ | apply Drawn0.step)⟩
                    · rw [if_neg c20] at H
                      have c20b0 : (a0 == 24) = false := beq_eq_false_iff_ne.mpr c20
                      have c20b1 : (a0 != 24) = true := bne_iff_ne.mpr c20
                      by_cases c21 : a0 = 28
                      · rw [if_pos c21] at H
                        have c21b0 : (a0 == 28) = true := beq_iff_eq.mpr c21
                        have c21b1 : (a0 != 28) = false := bne_eq_false_iff_eq.mpr c21
                        clear c21
                        obtain rfl := Option.some.inj H
                        go_wp2
                        go_ret
                        exact ⟨by first | rfl | (simp; done) | (simp [*]; done), by repeat (first | exact Drawn0.refl _ | apply Drawn0.step)⟩
                      · rw [if_neg c21] at H
                        have c21b0 : (a0 == 28) = false := beq_eq_false_iff_ne.mpr c21
                        have c21b1 : (a0 != 28) = true := bne_iff_ne.mpr c21
                        by_cases c22 : a0 = 29
                        · rw [if_pos c22] at H
                          have c22b0 : (a0 == 29) = true := beq_iff_eq.mpr c22
                          have c22b1 : (a0 != 29) = false := bne_eq_false_iff_eq.mpr c22
                          clear c22
                          obtain rfl := Option.some.inj H
                          go_wp2
                          go_ret
                          exact ⟨by first | rfl | (simp; done) | (simp [*]; done), by repeat (first | exact Drawn0.refl _ | apply Drawn0.step)⟩
                        · rw [if_neg c22] at H
                          have c22b0 : (a0 == 29) = false := beq_eq_false_iff_ne.mpr c22
                          have c22b1 : (a0 != 29) = true := bne_iff_ne.mpr c22
                          obtain rfl := Option.some.inj H
                          go_wp2
                          go_ret
                          exact ⟨by first | rfl | (simp; done) | (simp [*]; done), by repeat (first | exact Drawn0.refl _ | apply Drawn0.step)⟩

end Go.Proofs.YtmgafakahbanaaaDoor.Pa
