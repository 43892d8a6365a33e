-- Lines by a program of this session's (wip/gprint.py over the kit's printing program): the walks of plain functions. Not trusted: Lean checks it.
import Derived.Test.YtmciflmlpnpkaaaDoorPax1
import Derived.Test.YtmciflmlpnpkaaaDoorPax2
import Derived.Test.YtmciflmlpnpkaaaDoorPax3
import Derived.Test.YtmciflmlpnpkaaaDoorPax4
import Derived.Test.YtmciflmlpnpkaaaDoorPax5
import Derived.Test.YtmciflmlpnpkaaaDoorPbx0
import Derived.Test.YtmciflmlpnpkaaaDoorProg
import Derived.Below
import Derived.Deep.Draws
import Derived.Deep.AppendLies
import Derived.Maps.AppendAt
import Derived.OwnWalk
import Derived.Laws.BytesArg
import Derived.Laws.MakeOwn
import Derived.Laws.OwnMore
import Derived.Deep.OwnRows
import Derived.Tactics
import Derived.Lib.ConvBytes
import Derived.Laws.Slices
import Derived.WalkKit
import Derived.KernelRfl
import Derived.RowKit3
import Derived.Deep.LoopGhost
import Derived.Deep.QuietTactic
import Derived.BigQuiet
import Derived.WideLaws
import Derived.Deep.DeepCutAuto
import Derived.Deep.CutBlock
import Derived.Deep.RegionHeld3
import Derived.Laws.Rows
import Derived.Lib.AppendStr
import Derived.ArgAppend
import Derived.Laws.IdiomCopy
import Derived.OrdersHeld
import Derived.Laws.BitsLemmas
import Derived.RowKit
import Derived.Test.YtmciflmlpnpkaaaDoorWWords
import Derived.Test.YtmciflmlpnpkaaaDoorWLast
import Derived.Test.YtmciflmlpnpkaaaDoorWTab
import Derived.Test.YtmciflmlpnpkaaaDoorWFour
import Derived.Test.YtmciflmlpnpkaaaDoorWQPut
import Derived.Test.YtmciflmlpnpkaaaDoorWApart
import Derived.Test.YtmciflmlpnpkaaaDoorWArr
import Derived.Test.YtmciflmlpnpkaaaDoorWZeros
import Derived.Test.YtmciflmlpnpkaaaDoorWFoot
import Derived.Test.YtmciflmlpnpkaaaDoorWKept
import Derived.Test.YtmciflmlpnpkaaaDoorWShare
import Derived.Test.YtmciflmlpnpkaaaDoorWN
import Derived.Test.YtmciflmlpnpkaaaDoorWFootNe
import Derived.Test.YtmciflmlpnpkaaaDoorWAt
import Derived.Test.YtmciflmlpnpkaaaDoorWEqStruct
import Derived.Test.YtmciflmlpnpkaaaDoorWRepsOne
import Derived.Test.YtmciflmlpnpkaaaDoorWInv
import Derived.Test.YtmciflmlpnpkaaaDoorWInvWords
import Derived.Test.YtmciflmlpnpkaaaDoorWGuard
import Derived.Test.YtmciflmlpnpkaaaDoorWNEv
import Derived.Test.YtmciflmlpnpkaaaDoorWMore
namespace Go.Proofs.YtmciflmlpnpkaaaDoor.Pa
open Go.RowKit Go.Proofs.YtmciflmlpnpkaaaDoorW.PrintWords Go.Proofs.YtmciflmlpnpkaaaDoorW.PrintLast Go.Proofs.YtmciflmlpnpkaaaDoorW.PrintMore
attribute [local go_sem] max2_int min2_int max_two min_two max_three min_three max_four min_four   -- for this text's walks alone
set_option linter.unusedVariables false
set_option linter.unusedSimpArgs false



-- the values' own types

end Go.Proofs.YtmciflmlpnpkaaaDoor.Pa

namespace Go.Proofs.YtmciflmlpnpkaaaDoor.Pa
open Go.RowKit Go.Proofs.YtmciflmlpnpkaaaDoorW.PrintWords Go.Proofs.YtmciflmlpnpkaaaDoorW.PrintLast Go.Proofs.YtmciflmlpnpkaaaDoorW.PrintMore
attribute [local go_sem] max2_int min2_int max_two min_two max_three min_three max_four min_four   -- for this text's walks alone
set_option linter.unusedVariables false
set_option linter.unusedSimpArgs false

/-! ### ontimeref51_first: function 37 -/
mutual
def ontimeref51_first.l0 : Nat → List ByteArray → Int → Int → ByteArray → ByteArray → Option (Int × ByteArray × List Int × ByteArray × Int × Bool)
  | 0, _, _, _, _, _ => none
  | k + 1, x5, x7, x106000, x106001, x106003 => (ontimeref51_Words.f).bind fun t106 => (if x7 < (t106.length : Int) then ((ontimeref51_Words.f).bind fun t109 => (if 0 ≤ x7 then (if x7 < (t109.length : Int) then (if 0 < (x5.length : Int) then (if (rdOf ByteArray.empty t109 x7).toList = (rdOf ByteArray.empty x5 0).toList then (ontimeref51_first.l0 k x5 (wrap64 (x7 + 1)) ((wrap64 (x7 + 1)) % 256) x106001 x106003) else (ontimeref51_first.l0 k x5 (wrap64 (x7 + 1)) x106000 x106001 x106003)) else (none)) else (none)) else (none))) else (if x106000 = 0 then (some (x106000, x106001, ([] : List Int), x106003, 0, false)) else (if 1 ≤ (x5.length : Int) then ((some (x5.drop (1 : Int).toNat : List ByteArray)).bind fun y114 => ((ontimeref51_named.f x106000).bind fun t117 => (if t117 = true then (if (y114.length : Int) = 0 then (some (x106000, x106001, ([] : List Int), x106003, 0, false)) else (if 0 < (y114.length : Int) then ((ontimeref11_Name.f k (rdOf ByteArray.empty y114 0)).bind fun t119 => (if t119 = true then (if 1 ≤ (y114.length : Int) then (ontimeref51_first.j1 k (y114.drop (1 : Int).toNat) x106000 (rdOf ByteArray.empty y114 0) x106003) else (none)) else (some (x106000, x106001, ([] : List Int), x106003, 0, false)))) else (none))) else (ontimeref51_first.j1 k y114 x106000 x106001 x106003)))) else (none))))
def ontimeref51_first.j1 : Nat → List ByteArray → Int → ByteArray → ByteArray → Option (Int × ByteArray × List Int × ByteArray × Int × Bool)
  | 0, _, _, _, _ => none
  | k + 1, x5, x106000, x106001, x106003 => (ontimeref51_texted.f x106000).bind fun t124 => (if t124 = true then (if (x5.length : Int) = 0 then (some (x106000, x106001, ([] : List Int), x106003, 0, false)) else (if 0 ≤ (wrap64 ((x5.length : Int) - 1)) then (if (wrap64 ((x5.length : Int) - 1)) < (x5.length : Int) then ((ontimeref51_value.f k (rdOf ByteArray.empty x5 (wrap64 ((x5.length : Int) - 1)))).bind fun bt126 => (if bt126.2 = true then (if bt126.1 < 0 then (some (x106000, x106001, ([] : List Int), x106003, 0, false)) else (if (wrap64 ((x5.length : Int) - 1)) ≤ (x5.length : Int) then (ontimeref51_first.j2 k (x5.take ((wrap64 ((x5.length : Int) - 1)) : Int).toNat) bt126.1 x106000 x106001 x106003) else (none))) else (some (x106000, x106001, ([] : List Int), x106003, 0, false)))) else (none)) else (none))) else (ontimeref51_first.j2 k x5 0 x106000 x106001 x106003))
def ontimeref51_first.j2 : Nat → List ByteArray → Int → Int → ByteArray → ByteArray → Option (Int × ByteArray × List Int × ByteArray × Int × Bool)
  | 0, _, _, _, _, _ => none
  | k + 1, x5, x8, x106000, x106001, x106003 => ontimeref51_first.l1 k x5 x8 0 x106000 x106001 ([] : List Int) x106003
def ontimeref51_first.l1 : Nat → List ByteArray → Int → Int → Int → ByteArray → List Int → ByteArray → Option (Int × ByteArray × List Int × ByteArray × Int × Bool)
  | 0, _, _, _, _, _, _, _ => none
  | k + 1, x5, x8, x11, x106000, x106001, x106002, x106003 => if x11 < (x5.length : Int) then (if 0 ≤ x11 then ((ontimeref51_value.f k (rdOf ByteArray.empty x5 x11)).bind fun bt132 => (if bt132.2 = true then (if x106002.length < 17592186044416 then (ontimeref51_first.l1 k x5 x8 (wrap64 (x11 + 1)) x106000 x106001 (x106002 ++ [bt132.1]) x106003) else (none)) else (some (x106000, x106001, x106002, x106003, 0, false)))) else (none)) else ((ontimeref51_counts.f x106000 (x106002.length : Int)).bind fun t137 => (some (x106000, x106001, x106002, x106003, x8, t137)))
end
def ontimeref51_first.f (k : Nat) (a0 : ByteArray) : Option (Int × ByteArray × List Int × ByteArray × Int × Bool) := (ontimeref51_split.f k a0).bind fun t102 => (ontimeref51_first.l0 k t102 0 0 (⟨#[]⟩ : ByteArray) (⟨#[]⟩ : ByteArray))
theorem ontimeref51_first.mono_l : ∀ k, (∀ y0 y1 y2 y3 y4, LeO (ontimeref51_first.l0 k y0 y1 y2 y3 y4) (ontimeref51_first.l0 (k + 1) y0 y1 y2 y3 y4)) ∧ (∀ y0 y1 y2 y3, LeO (ontimeref51_first.j1 k y0 y1 y2 y3) (ontimeref51_first.j1 (k + 1) y0 y1 y2 y3)) ∧ (∀ y0 y1 y2 y3 y4, LeO (ontimeref51_first.j2 k y0 y1 y2 y3 y4) (ontimeref51_first.j2 (k + 1) y0 y1 y2 y3 y4)) ∧ (∀ y0 y1 y2 y3 y4 y5 y6, LeO (ontimeref51_first.l1 k y0 y1 y2 y3 y4 y5 y6) (ontimeref51_first.l1 (k + 1) y0 y1 y2 y3 y4 y5 y6))
  | 0 => ⟨fun _ _ _ _ _ r h => by simp [ontimeref51_first.l0] at h, fun _ _ _ _ r h => by simp [ontimeref51_first.j1] at h, fun _ _ _ _ _ r h => by simp [ontimeref51_first.j2] at h, fun _ _ _ _ _ _ _ r h => by simp [ontimeref51_first.l1] at h⟩
  | k + 1 => by
    obtain ⟨ih0, ih1, ih2, ih3⟩ := ontimeref51_first.mono_l k
    refine ⟨?_, ?_, ?_, ?_⟩
    · intro y0 y1 y2 y3 y4
      unfold ontimeref51_first.l0
      repeat' first
      | (with_reducible exact ih0 _ _ _ _ _)
      | (with_reducible exact ih1 _ _ _ _)
      | (with_reducible exact ih2 _ _ _ _ _)
      | (with_reducible exact ih3 _ _ _ _ _ _ _)
      | (with_reducible exact ontimeref11_Name.mono _ _)
      | (with_reducible exact ontimeref51_split.mono _ _)
      | (with_reducible exact ontimeref51_value.mono _ _)
      | (with_reducible exact LeO.refl _)
      | (with_reducible exact LeO.none _)
      | (with_reducible refine LeO.ite ?_ ?_)
      | (with_reducible refine LeO.bind ?_ (fun _ => ?_))
      | exact ih0 _ _ _ _ _
      | exact ih1 _ _ _ _
      | exact ih2 _ _ _ _ _
      | exact ih3 _ _ _ _ _ _ _
      | exact ontimeref11_Name.mono _ _
      | exact ontimeref51_split.mono _ _
      | exact ontimeref51_value.mono _ _
      | exact LeO.none _
      | refine LeO.ite ?_ ?_
      | refine LeO.bind ?_ (fun _ => ?_)
    · intro y0 y1 y2 y3
      unfold ontimeref51_first.j1
      repeat' first
      | (with_reducible exact ih0 _ _ _ _ _)
      | (with_reducible exact ih1 _ _ _ _)
      | (with_reducible exact ih2 _ _ _ _ _)
      | (with_reducible exact ih3 _ _ _ _ _ _ _)
      | (with_reducible exact ontimeref11_Name.mono _ _)
      | (with_reducible exact ontimeref51_split.mono _ _)
      | (with_reducible exact ontimeref51_value.mono _ _)
      | (with_reducible exact LeO.refl _)
      | (with_reducible exact LeO.none _)
      | (with_reducible refine LeO.ite ?_ ?_)
      | (with_reducible refine LeO.bind ?_ (fun _ => ?_))
      | exact ih0 _ _ _ _ _
      | exact ih1 _ _ _ _
      | exact ih2 _ _ _ _ _
      | exact ih3 _ _ _ _ _ _ _
      | exact ontimeref11_Name.mono _ _
      | exact ontimeref51_split.mono _ _
      | exact ontimeref51_value.mono _ _
      | exact LeO.none _
      | refine LeO.ite ?_ ?_
      | refine LeO.bind ?_ (fun _ => ?_)
    · intro y0 y1 y2 y3 y4
      unfold ontimeref51_first.j2
      repeat' first
      | (with_reducible exact ih0 _ _ _ _ _)
      | (with_reducible exact ih1 _ _ _ _)
      | (with_reducible exact ih2 _ _ _ _ _)
      | (with_reducible exact ih3 _ _ _ _ _ _ _)
      | (with_reducible exact ontimeref11_Name.mono _ _)
      | (with_reducible exact ontimeref51_split.mono _ _)
      | (with_reducible exact ontimeref51_value.mono _ _)
      | (with_reducible exact LeO.refl _)
      | (with_reducible exact LeO.none _)
      | (with_reducible refine LeO.ite ?_ ?_)
      | (with_reducible refine LeO.bind ?_ (fun _ => ?_))
      | exact ih0 _ _ _ _ _
      | exact ih1 _ _ _ _
      | exact ih2 _ _ _ _ _
      | exact ih3 _ _ _ _ _ _ _
      | exact ontimeref11_Name.mono _ _
      | exact ontimeref51_split.mono _ _
      | exact ontimeref51_value.mono _ _
      | exact LeO.none _
      | refine LeO.ite ?_ ?_
      | refine LeO.bind ?_ (fun _ => ?_)
    · intro y0 y1 y2 y3 y4 y5 y6
      unfold ontimeref51_first.l1
      repeat' first
      | (with_reducible exact ih0 _ _ _ _ _)
      | (with_reducible exact ih1 _ _ _ _)
      | (with_reducible exact ih2 _ _ _ _ _)
      | (with_reducible exact ih3 _ _ _ _ _ _ _)
      | (with_reducible exact ontimeref11_Name.mono _ _)
      | (with_reducible exact ontimeref51_split.mono _ _)
      | (with_reducible exact ontimeref51_value.mono _ _)
      | (with_reducible exact LeO.refl _)
      | (with_reducible exact LeO.none _)
      | (with_reducible refine LeO.ite ?_ ?_)
      | (with_reducible refine LeO.bind ?_ (fun _ => ?_))
      | exact ih0 _ _ _ _ _
      | exact ih1 _ _ _ _
      | exact ih2 _ _ _ _ _
      | exact ih3 _ _ _ _ _ _ _
      | exact ontimeref11_Name.mono _ _
      | exact ontimeref51_split.mono _ _
      | exact ontimeref51_value.mono _ _
      | exact LeO.none _
      | refine LeO.ite ?_ ?_
      | refine LeO.bind ?_ (fun _ => ?_)
theorem ontimeref51_first.mono : ∀ a0 k, LeO (ontimeref51_first.f k a0) (ontimeref51_first.f (k + 1) a0) := by
  intro a0 k
  obtain ⟨ih0, ih1, ih2, ih3⟩ := ontimeref51_first.mono_l k
  unfold ontimeref51_first.f
  repeat' first
      | (with_reducible exact ih0 _ _ _ _ _)
      | (with_reducible exact ih1 _ _ _ _)
      | (with_reducible exact ih2 _ _ _ _ _)
      | (with_reducible exact ih3 _ _ _ _ _ _ _)
      | (with_reducible exact ontimeref11_Name.mono _ _)
      | (with_reducible exact ontimeref51_split.mono _ _)
      | (with_reducible exact ontimeref51_value.mono _ _)
      | (with_reducible exact LeO.refl _)
      | (with_reducible exact LeO.none _)
      | (with_reducible refine LeO.ite ?_ ?_)
      | (with_reducible refine LeO.bind ?_ (fun _ => ?_))
      | exact ih0 _ _ _ _ _
      | exact ih1 _ _ _ _
      | exact ih2 _ _ _ _ _
      | exact ih3 _ _ _ _ _ _ _
      | exact ontimeref11_Name.mono _ _
      | exact ontimeref51_split.mono _ _
      | exact ontimeref51_value.mono _ _
      | exact LeO.none _
      | refine LeO.ite ?_ ?_
      | refine LeO.bind ?_ (fun _ => ?_)
def ontimeref51_first.T6 : Bool × List (List Nat × List Nat) := (true, [([], []), ([], []), ([0, 1], [0, 1]), ([2], [2]), ([], []), ([4], [4]), ([5], [5]), ([3, 6], [3, 6])])
def ontimeref51_first.B6 : List Nat := [0, 0, 3, 7, 0, 16, 48, 127]
theorem ontimeref51_first.tab6 : rtab .any (opsOf Tryd.f37 6) = ontimeref51_first.T6 := by kernel_rfl
theorem ontimeref51_first.bits6 : waitsOk ontimeref51_first.T6.2 ontimeref51_first.B6 = true := by kernel_rfl
def ontimeref51_first.T32 : Bool × List (List Nat × List Nat) := (true, [([], []), ([], []), ([], []), ([2], [2]), ([], []), ([4], [4]), ([5], [5]), ([3, 6], [3, 6]), ([0, 7, 0], [0]), ([1, 8, 0, 1, 8], [1]), ([7, 9, 0, 1, 2, 3, 4, 5, 6, 7, 8, 9], [7])])
def ontimeref51_first.B32 : List Nat := [0, 0, 0, 4, 0, 16, 48, 124, 253, 511, 1023]
theorem ontimeref51_first.tab32 : rtab .any (opsOf Tryd.f37 32) = ontimeref51_first.T32 := by kernel_rfl
theorem ontimeref51_first.bits32 : waitsOk ontimeref51_first.T32.2 ontimeref51_first.B32 = true := by kernel_rfl
set_option maxHeartbeats 8000000 in
set_option maxRecDepth 100000 in
theorem ontimeref51_first.calls (k : Nat) (a0 : ByteArray) (r1 : Int) (r2 : ByteArray) (r3 : List Int) (r4 : ByteArray) (r5 : Int) (r6 : Bool) (w : World) (h : ontimeref51_first.f k a0 = some (r1, r2, r3, r4, r5, r6)) :
    Calls Tryd.prog 37 #[.string a0] w fun e w' => ∃ v2_ : Value, e = .returned (.tuple #[.agg #[.int .u8 r1, .string r2, v2_, .string r4], .int .i64 r5, .bool r6]) ∧ Kd.R (Kd.int .i64) 3 w' w.heap.size (fun _ => True) v2_ r3 ∧ Below w.heap.size w w' := by
  have hu71 := Tryd.underlying71
  have HB := Aside0.mk (Below.refl w.heap.size w)
  have H : ((ontimeref51_split.f k a0).bind fun t102 => (ontimeref51_first.l0 k t102 0 0 (⟨#[]⟩ : ByteArray) (⟨#[]⟩ : ByteArray))) = some (r1, r2, r3, r4, r5, r6) := h
  clear h
  replace H := Option.bind_eq_some_iff.mp H
  obtain ⟨t102, A20, H⟩ := H
  replace H : (ontimeref51_first.l0 k t102 0 0 (⟨#[]⟩ : ByteArray) (⟨#[]⟩ : ByteArray)) = some (r1, r2, r3, r4, r5, r6) := H
  have A2 := Aside0.mk A20
  clear A20
  have H' := Aside0.mk H
  clear H
  go_enter Tryd.func37, Tryd.ntmps37
  go_wp2_with (first | ((with_reducible refine gate_dst (N := 2) rfl ?_); refine box_event ?hg (N := 2) ?hd (cs := #[.int .u8 0, .string (⟨#[]⟩ : ByteArray), .slice none 0 0, .string (⟨#[]⟩ : ByteArray)]) (t := 71) ?hr ?_; (case hd => rfl); (case hg => rfl); (case hr => first | (go_simp; done) | (go_simp; rfl)); intro gb101 hg w3 hbox hb; have n0_ := Aside0.mk (below_step (by repeat (first | (with_reducible first | exact HB.out | apply below_alloc | apply pw_below_drewN | apply below_drew1) | exact HB.out)) hb); have n1_ := Aside0.mk (hbox); have n2_ := Aside0.mk ((by rw [hg]; exact (below_size (by repeat (first | (with_reducible first | exact HB.out | apply below_alloc | apply pw_below_drewN | apply below_drew1) | exact HB.out))) : w.heap.size ≤ gb101)); have n3_ := Aside0.mk ((by rw [hg]; exact (below_size (by repeat (first | (with_reducible first | exact HB.out | apply below_alloc | apply pw_below_drewN | apply below_drew1) | exact HB.out))) : w.heap.size ≤ gb101)); clear HB; have HB := n0_; have BK101 := n1_; have GW101 := n2_; have GE101 := n3_; clear n0_ n1_ n2_ n3_; clear hb hbox hg) | ((with_reducible refine gate_callee (f := 60) rfl ?_); refine goesL_ (some 15) rfl rfl Tryd.func60 (by kernel_rfl) rfl #[.string a0] rfl (by (try simp only [List.map_toArray, List.map_cons, List.map_nil]); first | done | rfl | (simp only [List.length_drop, List.length_take]; rfl)) ?_; (with_reducible refine (ontimeref51_split.calls k a0 t102 _ A2.out).mono ?_); rintro e w4 ⟨v103, rfl, ho0, hb⟩; refine ⟨_, rfl, ?_⟩; have n0_ := Aside0.mk (Kd.R_lower ho0 (below_size (by repeat (first | (with_reducible first | exact HB.out | apply below_alloc | apply pw_below_drewN | apply below_drew1 | refine below_set ?_ GE101.out) | exact HB.out)))); have n1_ := Aside0.mk (blk_below (g := gb101) (o := .cells #[.int .u8 0, .string (⟨#[]⟩ : ByteArray), .slice none 0 0, .string (⟨#[]⟩ : ByteArray)] 71 (0, 0)) (by (with_reducible repeat (first | refine blk_drewN ?_ _ | refine blk_drew ?_ | refine blk_alloc ?_ _)); exact BK101.out) hb); have n2_ := Aside0.mk (below_step (by repeat (first | (with_reducible first | exact HB.out | apply below_alloc | apply pw_below_drewN | apply below_drew1 | refine below_set ?_ GE101.out) | exact HB.out)) hb); clear BK101; clear HB; have HO104 := n0_; have BK101 := n1_; have HB := n2_; clear n0_ n1_ n2_; (try clear hb); (try clear hb2); (try clear hk); (try clear hi); (try clear ho0)) | ((with_reducible refine gate_dst (N := 6) rfl ?_); refine box_event ?hg (N := 6) ?hd (cs := #[.int .u8 0, .string (⟨#[]⟩ : ByteArray), .slice none 0 0, .string (⟨#[]⟩ : ByteArray)]) (t := 71) ?hr ?_; (case hd => rfl); (case hg => rfl); (case hr => first | (go_simp; done) | (go_simp; rfl)); intro gb105 hg w5 hbox hb; have n0_ := Aside0.mk (Kd.R_below (by (with_reducible repeat (first | apply Kd.R_alloc | apply Kd.R_drewN | apply Kd.R_drew)); exact HO104.out) hb); have n1_ := Aside0.mk (blk_below (g := gb101) (o := .cells #[.int .u8 0, .string (⟨#[]⟩ : ByteArray), .slice none 0 0, .string (⟨#[]⟩ : ByteArray)] 71 (0, 0)) (by (with_reducible repeat (first | refine blk_drewN ?_ _ | refine blk_drew ?_ | refine blk_alloc ?_ _)); exact BK101.out) hb); have n2_ := Aside0.mk (below_step (by repeat (first | (with_reducible first | exact HB.out | apply below_alloc | apply pw_below_drewN | apply below_drew1 | refine below_set ?_ GE101.out) | exact HB.out)) hb); have n3_ := Aside0.mk (hbox); have n4_ := Aside0.mk ((by rw [hg]; exact (below_size (by repeat (first | (with_reducible first | exact HB.out | apply below_alloc | apply pw_below_drewN | apply below_drew1 | refine below_set ?_ GE101.out) | exact HB.out))) : w.heap.size ≤ gb105)); have n5_ := Aside0.mk ((by rw [hg]; exact (below_size (by repeat (first | (with_reducible first | exact HB.out | apply below_alloc | apply pw_below_drewN | apply below_drew1 | refine below_set ?_ GE101.out) | exact HB.out))) : w.heap.size ≤ gb105)); have n6_ := Aside0.mk ((by rw [hg]; exact Nat.ne_of_lt (blk_lt (g := gb101) (o := .cells #[.int .u8 0, .string (⟨#[]⟩ : ByteArray), .slice none 0 0, .string (⟨#[]⟩ : ByteArray)] 71 (0, 0)) (by (with_reducible repeat (first | refine blk_drewN ?_ _ | refine blk_drew ?_ | refine blk_alloc ?_ _)); exact BK101.out)) : gb101 ≠ gb105)); have n7_ := Aside0.mk ((by rw [hg]; exact Nat.ne_of_gt (blk_lt (g := gb101) (o := .cells #[.int .u8 0, .string (⟨#[]⟩ : ByteArray), .slice none 0 0, .string (⟨#[]⟩ : ByteArray)] 71 (0, 0)) (by (with_reducible repeat (first | refine blk_drewN ?_ _ | refine blk_drew ?_ | refine blk_alloc ?_ _)); exact BK101.out)) : gb105 ≠ gb101)); clear HO104; clear BK101; clear HB; have HO104 := n0_; have BK101 := n1_; have HB := n2_; have BK105 := n3_; have GW105 := n4_; have GE105 := n5_; have NB101_105 := n6_; have NB105_101 := n7_; clear n0_ n1_ n2_ n3_ n4_ n5_ n6_ n7_; clear hb hbox hg; have hnb6 := NB105_101.out; have hnc6 := NB101_105.out; have hcz7_0 : w5.cell? ⟨gb105, 0, none⟩ = some (.int .u8 0) := (blk_cell BK105.out 0).trans rfl; have hcz7_1 : w5.cell? ⟨gb105, 1, none⟩ = some (.string (⟨#[]⟩ : ByteArray)) := (blk_cell BK105.out 1).trans rfl; have hcz7_2 : w5.cell? ⟨gb105, 2, none⟩ = some (.slice none 0 0) := (blk_cell BK105.out 2).trans rfl; have hcz7_3 : w5.cell? ⟨gb105, 3, none⟩ = some (.string (⟨#[]⟩ : ByteArray)) := (blk_cell BK105.out 3).trans rfl; have hfz7_0 := blk_frozen BK105.out 0; have hfz7_1 := blk_frozen BK105.out 1; have hfz7_2 := blk_frozen BK105.out 2; have hfz7_3 := blk_frozen BK105.out 3))
  go_loopg [7] k (fun kq v7 w' => ∃ (x7_1 : Int) (x106000_1 : Int), v7 = .int .i64 x7_1 ∧ Aside0 (ontimeref51_first.l0 kq t102 x7_1 x106000_1 (⟨#[]⟩ : ByteArray) (⟨#[]⟩ : ByteArray) = some (r1, r2, r3, r4, r5, r6)) ∧ Aside0 (kq ≤ k) ∧ Aside0 (Kd.Q Kd.string 9 w' w.heap.size (fun _ => True) v103 t102) ∧ Aside0 (w'.heap[gb101]? = some (.cells #[.int .u8 0, .string (⟨#[]⟩ : ByteArray), (.slice none 0 0), .string (⟨#[]⟩ : ByteArray)] 71 (0, 0))) ∧ Aside0 (w'.heap[gb105]? = some (.cells #[.int .u8 x106000_1, .string (⟨#[]⟩ : ByteArray), (.slice none 0 0), .string (⟨#[]⟩ : ByteArray)] 71 (0, 0))) ∧ Aside0 (Below w.heap.size w w'))
  case atStart => exact ⟨(0), (0), (by first | rfl | (simp; done) | (simp [*]; done)), H', ⟨Nat.le_refl _⟩, ⟨Kd.Q_of_R (by (with_reducible repeat (first | apply Kd.R_alloc | apply Kd.R_drewN | apply Kd.R_drew)); exact Kd.R_mono (Kd.R_far (p := ⟨gb105, 3, none⟩) (Kd.R_far (p := ⟨gb105, 2, none⟩) (Kd.R_far (p := ⟨gb105, 1, none⟩) (Kd.R_far (p := ⟨gb105, 0, none⟩) (Kd.R_types HO104.out BK105.out (by decide)) (fun _ hk => hk.2) (.int .u8 0)) (fun _ hk => hk.2) (.string (⟨#[]⟩ : ByteArray))) (fun _ hk => hk.2) (.slice none 0 0)) (fun _ hk => hk.2) (.string (⟨#[]⟩ : ByteArray))) (fun _ hk => trivial))⟩, ⟨by (with_reducible repeat (first | refine blk_drewN ?_ _ | refine blk_drew ?_ | refine blk_alloc ?_ _)); refine blk_far ?_ NB101_105.out _; (with_reducible repeat (first | refine blk_drewN ?_ _ | refine blk_drew ?_ | refine blk_alloc ?_ _)); refine blk_far ?_ NB101_105.out _; (with_reducible repeat (first | refine blk_drewN ?_ _ | refine blk_drew ?_ | refine blk_alloc ?_ _)); refine blk_far ?_ NB101_105.out _; (with_reducible repeat (first | refine blk_drewN ?_ _ | refine blk_drew ?_ | refine blk_alloc ?_ _)); refine blk_far ?_ NB101_105.out _; (with_reducible repeat (first | refine blk_drewN ?_ _ | refine blk_drew ?_ | refine blk_alloc ?_ _)); exact BK101.out⟩, ⟨by (with_reducible repeat (first | refine blk_drewN ?_ _ | refine blk_drew ?_ | refine blk_alloc ?_ _)); refine blk_put (cs := #[.int .u8 0, .string (⟨#[]⟩ : ByteArray), .slice none 0 0, .string (⟨#[]⟩ : ByteArray)]) ?_ 3 _ rfl; (with_reducible repeat (first | refine blk_drewN ?_ _ | refine blk_drew ?_ | refine blk_alloc ?_ _)); refine blk_put (cs := #[.int .u8 0, .string (⟨#[]⟩ : ByteArray), .slice none 0 0, .string (⟨#[]⟩ : ByteArray)]) ?_ 2 _ rfl; (with_reducible repeat (first | refine blk_drewN ?_ _ | refine blk_drew ?_ | refine blk_alloc ?_ _)); refine blk_put (cs := #[.int .u8 0, .string (⟨#[]⟩ : ByteArray), .slice none 0 0, .string (⟨#[]⟩ : ByteArray)]) ?_ 1 _ rfl; (with_reducible repeat (first | refine blk_drewN ?_ _ | refine blk_drew ?_ | refine blk_alloc ?_ _)); refine blk_put (cs := #[.int .u8 0, .string (⟨#[]⟩ : ByteArray), .slice none 0 0, .string (⟨#[]⟩ : ByteArray)]) ?_ 0 _ rfl; (with_reducible repeat (first | refine blk_drewN ?_ _ | refine blk_drew ?_ | refine blk_alloc ?_ _)); exact BK105.out⟩, ⟨by repeat (first | (with_reducible first | exact HB.out | apply below_alloc | apply pw_below_drewN | apply below_drew1 | refine below_set ?_ GE101.out | refine below_set ?_ GE105.out) | exact HB.out)⟩⟩
  case round =>
    clear H'
    try clear p2
    try clear c3
    try clear c6
    try clear hcz7_0
    try clear hcz7_1
    try clear hcz7_2
    try clear hcz7_3
    try clear hfz7_0
    try clear hfz7_1
    try clear hfz7_2
    try clear hfz7_3
    obtain ⟨x7_1, x106000_1, rfl, HA, HK1, HO_5, BK101, BK105, HB⟩ := hrel
    cases gk with
    | zero => exact absurd HA.out (by simp [ontimeref51_first.l0])
    | succ k1 =>
      have H := HA.out
      clear HA
      simp only [ontimeref51_first.l0] at H
      replace H := Option.bind_eq_some_iff.mp H
      obtain ⟨t106, A80, H⟩ := H
      replace H : (if x7_1 < (t106.length : Int) then ((ontimeref51_Words.f).bind fun t109 => (if 0 ≤ x7_1 then (if x7_1 < (t109.length : Int) then (if 0 < (t102.length : Int) then (if (rdOf ByteArray.empty t109 x7_1).toList = (rdOf ByteArray.empty t102 0).toList then (ontimeref51_first.l0 k1 t102 (wrap64 (x7_1 + 1)) ((wrap64 (x7_1 + 1)) % 256) (⟨#[]⟩ : ByteArray) (⟨#[]⟩ : ByteArray)) else (ontimeref51_first.l0 k1 t102 (wrap64 (x7_1 + 1)) x106000_1 (⟨#[]⟩ : ByteArray) (⟨#[]⟩ : ByteArray))) else (none)) else (none)) else (none))) else (if x106000_1 = 0 then (some (x106000_1, (⟨#[]⟩ : ByteArray), ([] : List Int), (⟨#[]⟩ : ByteArray), 0, false)) else (if 1 ≤ (t102.length : Int) then ((some (t102.drop (1 : Int).toNat : List ByteArray)).bind fun y114 => ((ontimeref51_named.f x106000_1).bind fun t117 => (if t117 = true then (if (y114.length : Int) = 0 then (some (x106000_1, (⟨#[]⟩ : ByteArray), ([] : List Int), (⟨#[]⟩ : ByteArray), 0, false)) else (if 0 < (y114.length : Int) then ((ontimeref11_Name.f k1 (rdOf ByteArray.empty y114 0)).bind fun t119 => (if t119 = true then (if 1 ≤ (y114.length : Int) then (ontimeref51_first.j1 k1 (y114.drop (1 : Int).toNat) x106000_1 (rdOf ByteArray.empty y114 0) (⟨#[]⟩ : ByteArray)) else (none)) else (some (x106000_1, (⟨#[]⟩ : ByteArray), ([] : List Int), (⟨#[]⟩ : ByteArray), 0, false)))) else (none))) else (ontimeref51_first.j1 k1 y114 x106000_1 (⟨#[]⟩ : ByteArray) (⟨#[]⟩ : ByteArray))))) else (none)))) = some (r1, r2, r3, r4, r5, r6) := H
      have A8 := Aside0.mk A80
      clear A80
      by_cases c9 : x7_1 < (t106.length : Int)
      · rw [if_pos c9] at H
        have c9b0 : decide (x7_1 < (t106.length : Int)) = true := decide_eq_true c9
        clear c9
        replace H := Option.bind_eq_some_iff.mp H
        obtain ⟨t109, A100, H⟩ := H
        replace H : (if 0 ≤ x7_1 then (if x7_1 < (t109.length : Int) then (if 0 < (t102.length : Int) then (if (rdOf ByteArray.empty t109 x7_1).toList = (rdOf ByteArray.empty t102 0).toList then (ontimeref51_first.l0 k1 t102 (wrap64 (x7_1 + 1)) ((wrap64 (x7_1 + 1)) % 256) (⟨#[]⟩ : ByteArray) (⟨#[]⟩ : ByteArray)) else (ontimeref51_first.l0 k1 t102 (wrap64 (x7_1 + 1)) x106000_1 (⟨#[]⟩ : ByteArray) (⟨#[]⟩ : ByteArray))) else (none)) else (none)) else (none)) = some (r1, r2, r3, r4, r5, r6) := H
        have A10 := Aside0.mk A100
        clear A100
        by_cases c11 : 0 ≤ x7_1
        · rw [if_pos c11] at H
          have c11b0 : decide (0 ≤ x7_1) = true := decide_eq_true c11
          clear c11
          by_cases c12 : x7_1 < (t109.length : Int)
          · rw [if_pos c12] at H
            have c12b0 : decide (x7_1 < (t109.length : Int)) = true := decide_eq_true c12
            clear c12
            by_cases c13 : 0 < (t102.length : Int)
            · rw [if_pos c13] at H
              have c13b0 : decide (0 < (t102.length : Int)) = true := decide_eq_true c13
              have c13b1 : decide (0 < t102.length) = true := decide_eq_true (by omega)
              clear c13
              by_cases c14 : (rdOf ByteArray.empty t109 x7_1).toList = (rdOf ByteArray.empty t102 0).toList
              · rw [if_pos c14] at H
                have c14b0 : ((rdOf ByteArray.empty t109 x7_1).toList == (rdOf ByteArray.empty t102 0).toList) = true := beq_iff_eq.mpr c14
                have c14b1 : ((rdOf ByteArray.empty t109 x7_1).toList != (rdOf ByteArray.empty t102 0).toList) = false := bne_eq_false_iff_eq.mpr c14
                clear c14
                have H' := Aside0.mk H
                clear H
                try go_wp2_with (first | ((with_reducible refine gate_callee (f := 61) rfl ?_); refine goesL_ (some 18) rfl rfl Tryd.func61 (by kernel_rfl) rfl #[] rfl (by (try simp only [List.map_toArray, List.map_cons, List.map_nil]); first | done | rfl | (simp only [List.length_drop, List.length_take]; rfl)) ?_; (with_reducible refine (ontimeref51_Words.calls  t106 _ A8.out).mono ?_); rintro e w15 ⟨v107, rfl, ho0, hb⟩; refine ⟨_, rfl, ?_⟩; have n0_ := Aside0.mk (Kd.Q_elder' (by (with_reducible repeat (first | apply Kd.Q_alloc | apply Kd.Q_drewN | apply Kd.Q_drew)); exact HO_5.out) (Kd.R_base ho0) hb); have n1_ := Aside0.mk (Kd.R_lower (Kd.R_new' ho0 (Kd.Q_lt (by (with_reducible repeat (first | apply Kd.Q_alloc | apply Kd.Q_drewN | apply Kd.Q_drew)); exact HO_5.out))) (below_size (by repeat (first | (with_reducible first | exact HB.out | apply below_alloc | apply pw_below_drewN | apply below_drew1 | refine below_set ?_ GE101.out | refine below_set ?_ GE105.out) | exact HB.out)))); have n2_ := Aside0.mk (blk_below (g := gb101) (o := .cells #[.int .u8 0, .string (⟨#[]⟩ : ByteArray), .slice none 0 0, .string (⟨#[]⟩ : ByteArray)] 71 (0, 0)) (by (with_reducible repeat (first | refine blk_drewN ?_ _ | refine blk_drew ?_ | refine blk_alloc ?_ _)); exact BK101.out) hb); have n3_ := Aside0.mk (blk_below (g := gb105) (o := .cells #[.int .u8 x106000_1, .string (⟨#[]⟩ : ByteArray), .slice none 0 0, .string (⟨#[]⟩ : ByteArray)] 71 (0, 0)) (by (with_reducible repeat (first | refine blk_drewN ?_ _ | refine blk_drew ?_ | refine blk_alloc ?_ _)); exact BK105.out) hb); have n4_ := Aside0.mk (below_step (by repeat (first | (with_reducible first | exact HB.out | apply below_alloc | apply pw_below_drewN | apply below_drew1 | refine below_set ?_ GE101.out | refine below_set ?_ GE105.out) | exact HB.out)) hb); clear HO_5; clear BK101; clear BK105; clear HB; have HO_5 := n0_; have HO108 := n1_; have BK101 := n2_; have BK105 := n3_; have HB := n4_; clear n0_ n1_ n2_ n3_ n4_; (try clear hb); (try clear hb2); (try clear hk); (try clear hi); (try clear ho0); obtain ⟨Ao16, co16, eo16⟩ := Kd.R_slice HO108.out; subst eo16))
                have n0_ := Aside0.mk (Kd.Q_drew HO_5.out)
                have n1_ := Aside0.mk (Kd.R_drew HO108.out)
                have n2_ := Aside0.mk (blk_drew BK101.out)
                have n3_ := Aside0.mk (blk_drew BK105.out)
                have n4_ := Aside0.mk (below_drew1 HB.out)
                clear HO_5
                clear HO108
                clear BK101
                clear BK105
                clear HB
                have HO_5 := n0_
                have HO108 := n1_
                have BK101 := n2_
                have BK105 := n3_
                have HB := n4_
                clear n0_ n1_ n2_ n3_ n4_
                obtain ⟨Ao18, co18, eo18, _⟩ := Kd.Q_slice HO_5.out
                (first | subst eo18 | (injection eo18 with f1_ f2_ f3_; have f4_ := f1_.symm; have f5_ := f3_.symm; clear f1_ f2_ f3_; subst f4_; subst f5_))
                have p113 : 0 ≤ (0 : Int) := (by omega)
                have q113 : 0 < (t102.length : Int) := of_decide_eq_true (by first | (with_reducible assumption) | assumption)
                obtain ⟨ad113, e113, hx113_0⟩ := Kd.at_string (Kd.Q_reads' HO_5.out).2.2 0 p113 q113
                cases e113
                have qi113 : (0 < t102.length) = True := eq_true (by omega)
                (try rw [show ((0 : Int)).toNat = 0 from rfl] at hx113_0)
                (try rw [Addr.add_zero'] at hx113_0)
                replace p113 := eq_true p113
                replace q113 := eq_true q113
                refine start_ (n := 8) (S := fun w' => w'.cell? ad113 = some (.string (rdOf ByteArray.empty t102 0))) (ds := []) #[false, false, false, false, false, false, false, false] (by kernel_rfl) rfl rfl (hx113_0) (fun hHeld => ?_)
                generalize w15.drew = w17 at HO_5 HO108 BK101 BK105 HB hx113_0 hHeld ⊢
                refine pure_ (i := 1) (N := some 24) (v := ?_) (a' := ?_) #[false, true, false, false, false, false, false, false] rfl rfl (by kernel_rfl) (fun _ _ _ h => h) (Or.inl ⟨by rfl, ?_⟩) ?_ ?_
                rotate_left
                · intro w'
                  go_simp
                  with_reducible rfl
                rotate_left
                · simp only [Act.put, List.setIfInBounds_toArray, List.set_cons_zero, List.set_cons_succ, i64_w, i32_w]
                  rfl
                refine pure_ (i := 4) (N := some 27) (v := ?_) (a' := ?_) #[false, true, false, false, true, false, false, false] rfl rfl (by kernel_rfl) (fun _ _ _ h => h) (Or.inl ⟨by rfl, ?_⟩) ?_ ?_
                rotate_left
                · intro w'
                  go_simp
                  with_reducible rfl
                rotate_left
                · simp only [Act.put, List.setIfInBounds_toArray, List.set_cons_zero, List.set_cons_succ, i64_w, i32_w]
                  rfl
                refine pure_ (i := 5) (N := some 28) (v := ?_) (a' := ?_) #[false, true, false, false, true, true, false, false] rfl rfl (by kernel_rfl) (fun _ _ _ h => h) (Or.inl ⟨by rfl, ?_⟩) ?_ ?_
                rotate_left
                · intro w'
                  go_simp
                  with_reducible rfl
                rotate_left
                · simp only [Act.put, List.setIfInBounds_toArray, List.set_cons_zero, List.set_cons_succ, i64_w, i32_w]
                  rfl
                refine take_ (i := 6) (N := some 29) (v := ?_) (a' := ?_) #[false, true, false, false, true, true, true, false] rfl rfl (by kernel_rfl) (fun _ _ _ h => h) (Or.inl ⟨by rfl, ?_⟩) hHeld ?_ ?_
                rotate_left
                · intro w' s0
                  go_simp
                  with_reducible rfl
                rotate_left
                · simp only [Act.put, List.setIfInBounds_toArray, List.set_cons_zero, List.set_cons_succ, i64_w, i32_w]
                  rfl
                refine one_ (i := 0) (N := some 23) #[true, true, false, false, true, true, true, false] rfl rfl (by kernel_rfl) (by decide) (fun K hK => ?_)
                refine goes_ Tryd.func61 (by kernel_rfl) rfl #[] (by rfl) rfl rfl (by (try simp only [List.map_toArray, List.map_cons, List.map_nil]); first | done | rfl | (simp only [List.length_drop, List.length_take]; rfl)) ?_
                with_reducible refine (ontimeref51_Words.calls  t109 _ A10.out).mono ?_
                rintro e w19 ⟨v110, rfl, ho0, hb⟩
                have HS0_ := (hb.cell (World.block_lt_of_cell? _ _ hHeld)).trans hHeld
                refine ⟨_, rfl, ?_⟩
                have n0_ := Aside0.mk (Kd.Q_elder' (by (with_reducible repeat (first | apply Kd.Q_alloc | apply Kd.Q_drewN | apply Kd.Q_drew)); exact HO_5.out) (Kd.R_base ho0) hb)
                have n1_ := Aside0.mk (Kd.R_elder' (by (with_reducible repeat (first | apply Kd.R_alloc | apply Kd.R_drewN | apply Kd.R_drew)); exact HO108.out) (Kd.R_base ho0) hb)
                have n2_ := Aside0.mk (Kd.R_lower (Kd.R_new' (Kd.R_new' ho0 (Kd.Q_lt (by (with_reducible repeat (first | apply Kd.Q_alloc | apply Kd.Q_drewN | apply Kd.Q_drew)); exact HO_5.out))) (Kd.R_lt (by (with_reducible repeat (first | apply Kd.R_alloc | apply Kd.R_drewN | apply Kd.R_drew)); exact HO108.out))) (below_size (by repeat (first | (with_reducible first | exact HB.out | apply below_alloc | apply pw_below_drewN | apply below_drew1 | refine below_set ?_ GE101.out | refine below_set ?_ GE105.out) | exact HB.out))))
                have n3_ := Aside0.mk (blk_below (g := gb101) (o := .cells #[.int .u8 0, .string (⟨#[]⟩ : ByteArray), .slice none 0 0, .string (⟨#[]⟩ : ByteArray)] 71 (0, 0)) (by (with_reducible repeat (first | refine blk_drewN ?_ _ | refine blk_drew ?_ | refine blk_alloc ?_ _)); exact BK101.out) hb)
                have n4_ := Aside0.mk (blk_below (g := gb105) (o := .cells #[.int .u8 x106000_1, .string (⟨#[]⟩ : ByteArray), .slice none 0 0, .string (⟨#[]⟩ : ByteArray)] 71 (0, 0)) (by (with_reducible repeat (first | refine blk_drewN ?_ _ | refine blk_drew ?_ | refine blk_alloc ?_ _)); exact BK105.out) hb)
                have n5_ := Aside0.mk (below_step (by repeat (first | (with_reducible first | exact HB.out | apply below_alloc | apply pw_below_drewN | apply below_drew1 | refine below_set ?_ GE101.out | refine below_set ?_ GE105.out) | exact HB.out)) hb)
                clear HO_5
                clear HO108
                clear BK101
                clear BK105
                clear HB
                have HO_5 := n0_
                have HO108 := n1_
                have HO111 := n2_
                have BK101 := n3_
                have BK105 := n4_
                have HB := n5_
                clear n0_ n1_ n2_ n3_ n4_ n5_
                (try clear hb)
                (try clear hb2)
                (try clear hk)
                (try clear hi)
                (try clear ho0)
                obtain ⟨Ao20, co20, eo20⟩ := Kd.R_slice HO111.out
                (first | subst eo20 | (injection eo20 with f1_ f2_ f3_; have f4_ := f1_.symm; have f5_ := f3_.symm; clear f1_ f2_ f3_; subst f4_; subst f5_))
                have p112 : 0 ≤ (x7_1 : Int) := of_decide_eq_true (by first | (with_reducible assumption) | assumption)
                have q112 : x7_1 < (t109.length : Int) := of_decide_eq_true (by first | (with_reducible assumption) | assumption)
                obtain ⟨ad112, e112, hx112_0⟩ := Kd.at_string (Kd.R_reads' HO111.out).2.2 x7_1 p112 q112
                cases e112
                replace p112 := eq_true p112
                replace q112 := eq_true q112
                refine hK.out _ _ (HS0_) (fun hHeld => ?_)
                clear hK K
                refine norm_ (a' := ?_) ?_ ?_
                rotate_left
                · show Act.put _ (some 23) _ = _
                  simp only [Act.put, List.setIfInBounds_toArray, List.set_cons_zero, List.set_cons_succ, i64_w, i32_w]
                  rfl
                refine pure_ (i := 2) (N := some 25) (v := ?_) (a' := ?_) #[true, true, true, false, true, true, true, false] rfl rfl (by kernel_rfl) (fun _ _ _ h => h) (Or.inl ⟨by rfl, ?_⟩) ?_ ?_
                rotate_left
                · intro w'
                  go_simp
                  with_reducible rfl
                rotate_left
                · simp only [Act.put, List.setIfInBounds_toArray, List.set_cons_zero, List.set_cons_succ, i64_w, i32_w]
                  rfl
                refine one_ (i := 3) (N := some 26) #[true, true, true, true, true, true, true, false] rfl rfl (by kernel_rfl) (by decide) (fun K hK => ?_)
                refine value_ (w1 := ?_) (v := ?_) (by rfl) rfl ?_ ?_
                rotate_left 2
                · go_simp
                  constructor
                  · rfl
                  · rfl
                refine hK.out _ _ (hHeld) (fun hHeld => ?_)
                clear hK K
                refine norm_ (a' := ?_) ?_ ?_
                rotate_left
                · show Act.put _ (some 26) _ = _
                  simp only [Act.put, List.setIfInBounds_toArray, List.set_cons_zero, List.set_cons_succ, i64_w, i32_w]
                  rfl
                refine pure_ (i := 7) (N := some 30) (v := ?_) (a' := ?_) #[true, true, true, true, true, true, true, true] rfl rfl (by kernel_rfl) (fun _ _ _ h => h) (Or.inl ⟨by rfl, ?_⟩) ?_ ?_
                rotate_left
                · intro w'
                  go_simp
                  with_reducible rfl
                rotate_left
                · simp only [Act.put, List.setIfInBounds_toArray, List.set_cons_zero, List.set_cons_succ, i64_w, i32_w]
                  rfl
                refine done_ (by kernel_rfl) ?_
                have hnb21 := NB105_101.out
                have hnc21 := NB101_105.out
                have hcz22_0 : w19.cell? ⟨gb105, 0, none⟩ = some (.int .u8 x106000_1) := (blk_cell BK105.out 0).trans rfl
                have hcz22_1 : w19.cell? ⟨gb105, 1, none⟩ = some (.string (⟨#[]⟩ : ByteArray)) := (blk_cell BK105.out 1).trans rfl
                have hcz22_2 : w19.cell? ⟨gb105, 2, none⟩ = some (.slice none 0 0) := (blk_cell BK105.out 2).trans rfl
                have hcz22_3 : w19.cell? ⟨gb105, 3, none⟩ = some (.string (⟨#[]⟩ : ByteArray)) := (blk_cell BK105.out 3).trans rfl
                have hfz22_0 := blk_frozen BK105.out 0
                have hfz22_1 := blk_frozen BK105.out 1
                have hfz22_2 := blk_frozen BK105.out 2
                have hfz22_3 := blk_frozen BK105.out 3
                try go_wp2
                go_roundg k1
                case measure => have := HK1.out; omega
                case rel => exact ⟨(wrap64 (x7_1 + 1)), ((wrap64 (x7_1 + 1)) % 256), (by first | rfl | (simp; done) | (simp [*]; done)), H', ⟨by have := HK1.out; omega⟩, ⟨by (with_reducible repeat (first | apply Kd.Q_alloc | apply Kd.Q_drewN | apply Kd.Q_drew)); exact Kd.Q_mono (Kd.Q_far (p := ⟨gb105, 0, none⟩) (Kd.Q_types HO_5.out BK105.out (by decide)) (fun _ hk => hk.2) (.int .u8 ((wrap64 (x7_1 + 1)) % 256))) (fun _ hk => trivial)⟩, ⟨by (with_reducible repeat (first | refine blk_drewN ?_ _ | refine blk_drew ?_ | refine blk_alloc ?_ _)); refine blk_far ?_ NB101_105.out _; (with_reducible repeat (first | refine blk_drewN ?_ _ | refine blk_drew ?_ | refine blk_alloc ?_ _)); exact BK101.out⟩, ⟨by (with_reducible repeat (first | refine blk_drewN ?_ _ | refine blk_drew ?_ | refine blk_alloc ?_ _)); refine blk_put (cs := #[.int .u8 x106000_1, .string (⟨#[]⟩ : ByteArray), .slice none 0 0, .string (⟨#[]⟩ : ByteArray)]) ?_ 0 _ rfl; (with_reducible repeat (first | refine blk_drewN ?_ _ | refine blk_drew ?_ | refine blk_alloc ?_ _)); exact BK105.out⟩, ⟨by repeat (first | (with_reducible first | exact HB.out | apply below_alloc | apply pw_below_drewN | apply below_drew1 | refine below_set ?_ GE101.out | refine below_set ?_ GE105.out) | exact HB.out)⟩⟩
              · rw [if_neg c14] at H
                have c14b0 : ((rdOf ByteArray.empty t109 x7_1).toList == (rdOf ByteArray.empty t102 0).toList) = false := beq_eq_false_iff_ne.mpr c14
                have c14b1 : ((rdOf ByteArray.empty t109 x7_1).toList != (rdOf ByteArray.empty t102 0).toList) = true := bne_iff_ne.mpr c14
                have H' := Aside0.mk H
                clear H
                try go_wp2_with (first | ((with_reducible refine gate_callee (f := 61) rfl ?_); refine goesL_ (some 18) rfl rfl Tryd.func61 (by kernel_rfl) rfl #[] rfl (by (try simp only [List.map_toArray, List.map_cons, List.map_nil]); first | done | rfl | (simp only [List.length_drop, List.length_take]; rfl)) ?_; (with_reducible refine (ontimeref51_Words.calls  t106 _ A8.out).mono ?_); rintro e w23 ⟨v107, rfl, ho0, hb⟩; refine ⟨_, rfl, ?_⟩; have n0_ := Aside0.mk (Kd.Q_elder' (by (with_reducible repeat (first | apply Kd.Q_alloc | apply Kd.Q_drewN | apply Kd.Q_drew)); exact HO_5.out) (Kd.R_base ho0) hb); have n1_ := Aside0.mk (Kd.R_lower (Kd.R_new' ho0 (Kd.Q_lt (by (with_reducible repeat (first | apply Kd.Q_alloc | apply Kd.Q_drewN | apply Kd.Q_drew)); exact HO_5.out))) (below_size (by repeat (first | (with_reducible first | exact HB.out | apply below_alloc | apply pw_below_drewN | apply below_drew1 | refine below_set ?_ GE101.out | refine below_set ?_ GE105.out) | exact HB.out)))); have n2_ := Aside0.mk (blk_below (g := gb101) (o := .cells #[.int .u8 0, .string (⟨#[]⟩ : ByteArray), .slice none 0 0, .string (⟨#[]⟩ : ByteArray)] 71 (0, 0)) (by (with_reducible repeat (first | refine blk_drewN ?_ _ | refine blk_drew ?_ | refine blk_alloc ?_ _)); exact BK101.out) hb); have n3_ := Aside0.mk (blk_below (g := gb105) (o := .cells #[.int .u8 x106000_1, .string (⟨#[]⟩ : ByteArray), .slice none 0 0, .string (⟨#[]⟩ : ByteArray)] 71 (0, 0)) (by (with_reducible repeat (first | refine blk_drewN ?_ _ | refine blk_drew ?_ | refine blk_alloc ?_ _)); exact BK105.out) hb); have n4_ := Aside0.mk (below_step (by repeat (first | (with_reducible first | exact HB.out | apply below_alloc | apply pw_below_drewN | apply below_drew1 | refine below_set ?_ GE101.out | refine below_set ?_ GE105.out) | exact HB.out)) hb); clear HO_5; clear BK101; clear BK105; clear HB; have HO_5 := n0_; have HO108 := n1_; have BK101 := n2_; have BK105 := n3_; have HB := n4_; clear n0_ n1_ n2_ n3_ n4_; (try clear hb); (try clear hb2); (try clear hk); (try clear hi); (try clear ho0); obtain ⟨Ao24, co24, eo24⟩ := Kd.R_slice HO108.out; subst eo24))
                have n0_ := Aside0.mk (Kd.Q_drew HO_5.out)
                have n1_ := Aside0.mk (Kd.R_drew HO108.out)
                have n2_ := Aside0.mk (blk_drew BK101.out)
                have n3_ := Aside0.mk (blk_drew BK105.out)
                have n4_ := Aside0.mk (below_drew1 HB.out)
                clear HO_5
                clear HO108
                clear BK101
                clear BK105
                clear HB
                have HO_5 := n0_
                have HO108 := n1_
                have BK101 := n2_
                have BK105 := n3_
                have HB := n4_
                clear n0_ n1_ n2_ n3_ n4_
                obtain ⟨Ao26, co26, eo26, _⟩ := Kd.Q_slice HO_5.out
                (first | subst eo26 | (injection eo26 with f1_ f2_ f3_; have f4_ := f1_.symm; have f5_ := f3_.symm; clear f1_ f2_ f3_; subst f4_; subst f5_))
                have p113 : 0 ≤ (0 : Int) := (by omega)
                have q113 : 0 < (t102.length : Int) := of_decide_eq_true (by first | (with_reducible assumption) | assumption)
                obtain ⟨ad113, e113, hx113_0⟩ := Kd.at_string (Kd.Q_reads' HO_5.out).2.2 0 p113 q113
                cases e113
                have qi113 : (0 < t102.length) = True := eq_true (by omega)
                (try rw [show ((0 : Int)).toNat = 0 from rfl] at hx113_0)
                (try rw [Addr.add_zero'] at hx113_0)
                replace p113 := eq_true p113
                replace q113 := eq_true q113
                refine start_ (n := 8) (S := fun w' => w'.cell? ad113 = some (.string (rdOf ByteArray.empty t102 0))) (ds := []) #[false, false, false, false, false, false, false, false] (by kernel_rfl) rfl rfl (hx113_0) (fun hHeld => ?_)
                generalize w23.drew = w25 at HO_5 HO108 BK101 BK105 HB hx113_0 hHeld ⊢
                refine pure_ (i := 1) (N := some 24) (v := ?_) (a' := ?_) #[false, true, false, false, false, false, false, false] rfl rfl (by kernel_rfl) (fun _ _ _ h => h) (Or.inl ⟨by rfl, ?_⟩) ?_ ?_
                rotate_left
                · intro w'
                  go_simp
                  with_reducible rfl
                rotate_left
                · simp only [Act.put, List.setIfInBounds_toArray, List.set_cons_zero, List.set_cons_succ, i64_w, i32_w]
                  rfl
                refine pure_ (i := 4) (N := some 27) (v := ?_) (a' := ?_) #[false, true, false, false, true, false, false, false] rfl rfl (by kernel_rfl) (fun _ _ _ h => h) (Or.inl ⟨by rfl, ?_⟩) ?_ ?_
                rotate_left
                · intro w'
                  go_simp
                  with_reducible rfl
                rotate_left
                · simp only [Act.put, List.setIfInBounds_toArray, List.set_cons_zero, List.set_cons_succ, i64_w, i32_w]
                  rfl
                refine pure_ (i := 5) (N := some 28) (v := ?_) (a' := ?_) #[false, true, false, false, true, true, false, false] rfl rfl (by kernel_rfl) (fun _ _ _ h => h) (Or.inl ⟨by rfl, ?_⟩) ?_ ?_
                rotate_left
                · intro w'
                  go_simp
                  with_reducible rfl
                rotate_left
                · simp only [Act.put, List.setIfInBounds_toArray, List.set_cons_zero, List.set_cons_succ, i64_w, i32_w]
                  rfl
                refine take_ (i := 6) (N := some 29) (v := ?_) (a' := ?_) #[false, true, false, false, true, true, true, false] rfl rfl (by kernel_rfl) (fun _ _ _ h => h) (Or.inl ⟨by rfl, ?_⟩) hHeld ?_ ?_
                rotate_left
                · intro w' s0
                  go_simp
                  with_reducible rfl
                rotate_left
                · simp only [Act.put, List.setIfInBounds_toArray, List.set_cons_zero, List.set_cons_succ, i64_w, i32_w]
                  rfl
                refine one_ (i := 0) (N := some 23) #[true, true, false, false, true, true, true, false] rfl rfl (by kernel_rfl) (by decide) (fun K hK => ?_)
                refine goes_ Tryd.func61 (by kernel_rfl) rfl #[] (by rfl) rfl rfl (by (try simp only [List.map_toArray, List.map_cons, List.map_nil]); first | done | rfl | (simp only [List.length_drop, List.length_take]; rfl)) ?_
                with_reducible refine (ontimeref51_Words.calls  t109 _ A10.out).mono ?_
                rintro e w27 ⟨v110, rfl, ho0, hb⟩
                have HS0_ := (hb.cell (World.block_lt_of_cell? _ _ hHeld)).trans hHeld
                refine ⟨_, rfl, ?_⟩
                have n0_ := Aside0.mk (Kd.Q_elder' (by (with_reducible repeat (first | apply Kd.Q_alloc | apply Kd.Q_drewN | apply Kd.Q_drew)); exact HO_5.out) (Kd.R_base ho0) hb)
                have n1_ := Aside0.mk (Kd.R_elder' (by (with_reducible repeat (first | apply Kd.R_alloc | apply Kd.R_drewN | apply Kd.R_drew)); exact HO108.out) (Kd.R_base ho0) hb)
                have n2_ := Aside0.mk (Kd.R_lower (Kd.R_new' (Kd.R_new' ho0 (Kd.Q_lt (by (with_reducible repeat (first | apply Kd.Q_alloc | apply Kd.Q_drewN | apply Kd.Q_drew)); exact HO_5.out))) (Kd.R_lt (by (with_reducible repeat (first | apply Kd.R_alloc | apply Kd.R_drewN | apply Kd.R_drew)); exact HO108.out))) (below_size (by repeat (first | (with_reducible first | exact HB.out | apply below_alloc | apply pw_below_drewN | apply below_drew1 | refine below_set ?_ GE101.out | refine below_set ?_ GE105.out) | exact HB.out))))
                have n3_ := Aside0.mk (blk_below (g := gb101) (o := .cells #[.int .u8 0, .string (⟨#[]⟩ : ByteArray), .slice none 0 0, .string (⟨#[]⟩ : ByteArray)] 71 (0, 0)) (by (with_reducible repeat (first | refine blk_drewN ?_ _ | refine blk_drew ?_ | refine blk_alloc ?_ _)); exact BK101.out) hb)
                have n4_ := Aside0.mk (blk_below (g := gb105) (o := .cells #[.int .u8 x106000_1, .string (⟨#[]⟩ : ByteArray), .slice none 0 0, .string (⟨#[]⟩ : ByteArray)] 71 (0, 0)) (by (with_reducible repeat (first | refine blk_drewN ?_ _ | refine blk_drew ?_ | refine blk_alloc ?_ _)); exact BK105.out) hb)
                have n5_ := Aside0.mk (below_step (by repeat (first | (with_reducible first | exact HB.out | apply below_alloc | apply pw_below_drewN | apply below_drew1 | refine below_set ?_ GE101.out | refine below_set ?_ GE105.out) | exact HB.out)) hb)
                clear HO_5
                clear HO108
                clear BK101
                clear BK105
                clear HB
                have HO_5 := n0_
                have HO108 := n1_
                have HO111 := n2_
                have BK101 := n3_
                have BK105 := n4_
                have HB := n5_
                clear n0_ n1_ n2_ n3_ n4_ n5_
                (try clear hb)
                (try clear hb2)
                (try clear hk)
                (try clear hi)
                (try clear ho0)
                obtain ⟨Ao28, co28, eo28⟩ := Kd.R_slice HO111.out
                (first | subst eo28 | (injection eo28 with f1_ f2_ f3_; have f4_ := f1_.symm; have f5_ := f3_.symm; clear f1_ f2_ f3_; subst f4_; subst f5_))
                have p112 : 0 ≤ (x7_1 : Int) := of_decide_eq_true (by first | (with_reducible assumption) | assumption)
                have q112 : x7_1 < (t109.length : Int) := of_decide_eq_true (by first | (with_reducible assumption) | assumption)
                obtain ⟨ad112, e112, hx112_0⟩ := Kd.at_string (Kd.R_reads' HO111.out).2.2 x7_1 p112 q112
                cases e112
                replace p112 := eq_true p112
                replace q112 := eq_true q112
                refine hK.out _ _ (HS0_) (fun hHeld => ?_)
                clear hK K
                refine norm_ (a' := ?_) ?_ ?_
                rotate_left
                · show Act.put _ (some 23) _ = _
                  simp only [Act.put, List.setIfInBounds_toArray, List.set_cons_zero, List.set_cons_succ, i64_w, i32_w]
                  rfl
                refine pure_ (i := 2) (N := some 25) (v := ?_) (a' := ?_) #[true, true, true, false, true, true, true, false] rfl rfl (by kernel_rfl) (fun _ _ _ h => h) (Or.inl ⟨by rfl, ?_⟩) ?_ ?_
                rotate_left
                · intro w'
                  go_simp
                  with_reducible rfl
                rotate_left
                · simp only [Act.put, List.setIfInBounds_toArray, List.set_cons_zero, List.set_cons_succ, i64_w, i32_w]
                  rfl
                refine one_ (i := 3) (N := some 26) #[true, true, true, true, true, true, true, false] rfl rfl (by kernel_rfl) (by decide) (fun K hK => ?_)
                refine value_ (w1 := ?_) (v := ?_) (by rfl) rfl ?_ ?_
                rotate_left 2
                · go_simp
                  constructor
                  · rfl
                  · rfl
                refine hK.out _ _ (hHeld) (fun hHeld => ?_)
                clear hK K
                refine norm_ (a' := ?_) ?_ ?_
                rotate_left
                · show Act.put _ (some 26) _ = _
                  simp only [Act.put, List.setIfInBounds_toArray, List.set_cons_zero, List.set_cons_succ, i64_w, i32_w]
                  rfl
                refine pure_ (i := 7) (N := some 30) (v := ?_) (a' := ?_) #[true, true, true, true, true, true, true, true] rfl rfl (by kernel_rfl) (fun _ _ _ h => h) (Or.inl ⟨by rfl, ?_⟩) ?_ ?_
                rotate_left
                · intro w'
                  go_simp
                  with_reducible rfl
                rotate_left
                · simp only [Act.put, List.setIfInBounds_toArray, List.set_cons_zero, List.set_cons_succ, i64_w, i32_w]
                  rfl
                refine done_ (by kernel_rfl) ?_
                try go_wp2
                go_roundg k1
                case measure => have := HK1.out; omega
                case rel => exact ⟨(wrap64 (x7_1 + 1)), (x106000_1), (by first | rfl | (simp; done) | (simp [*]; done)), H', ⟨by have := HK1.out; omega⟩, ⟨by (with_reducible repeat (first | apply Kd.Q_alloc | apply Kd.Q_drewN | apply Kd.Q_drew)); exact Kd.Q_mono HO_5.out (fun _ hk => trivial)⟩, ⟨by (with_reducible repeat (first | refine blk_drewN ?_ _ | refine blk_drew ?_ | refine blk_alloc ?_ _)); exact BK101.out⟩, ⟨by (with_reducible repeat (first | refine blk_drewN ?_ _ | refine blk_drew ?_ | refine blk_alloc ?_ _)); exact BK105.out⟩, ⟨by repeat (first | (with_reducible first | exact HB.out | apply below_alloc | apply pw_below_drewN | apply below_drew1 | refine below_set ?_ GE101.out | refine below_set ?_ GE105.out) | exact HB.out)⟩⟩
            · rw [if_neg c13] at H
              exact absurd H (by simp)
          · rw [if_neg c12] at H
            exact absurd H (by simp)
        · rw [if_neg c11] at H
          exact absurd H (by simp)
      · rw [if_neg c9] at H
        have c9b0 : decide (x7_1 < (t106.length : Int)) = false := decide_eq_false c9
        clear c9
        by_cases c29 : x106000_1 = 0
        · rw [if_pos c29] at H
          have c29b0 : (x106000_1 == 0) = true := beq_iff_eq.mpr c29
          have c29b1 : (x106000_1 != 0) = false := bne_eq_false_iff_eq.mpr c29
          clear c29
          simp only [Option.some.injEq, Prod.mk.injEq] at H
          obtain ⟨rfl, rfl, rfl, rfl, rfl, rfl⟩ := H
          go_wp2_with (first | ((with_reducible refine gate_callee (f := 61) rfl ?_); refine goesL_ (some 18) rfl rfl Tryd.func61 (by kernel_rfl) rfl #[] rfl (by (try simp only [List.map_toArray, List.map_cons, List.map_nil]); first | done | rfl | (simp only [List.length_drop, List.length_take]; rfl)) ?_; (with_reducible refine (ontimeref51_Words.calls  t106 _ A8.out).mono ?_); rintro e w30 ⟨v107, rfl, ho0, hb⟩; refine ⟨_, rfl, ?_⟩; have n0_ := Aside0.mk (Kd.Q_elder' (by (with_reducible repeat (first | apply Kd.Q_alloc | apply Kd.Q_drewN | apply Kd.Q_drew)); exact HO_5.out) (Kd.R_base ho0) hb); have n1_ := Aside0.mk (Kd.R_lower (Kd.R_new' ho0 (Kd.Q_lt (by (with_reducible repeat (first | apply Kd.Q_alloc | apply Kd.Q_drewN | apply Kd.Q_drew)); exact HO_5.out))) (below_size (by repeat (first | (with_reducible first | exact HB.out | apply below_alloc | apply pw_below_drewN | apply below_drew1 | refine below_set ?_ GE101.out | refine below_set ?_ GE105.out) | exact HB.out)))); have n2_ := Aside0.mk (blk_below (g := gb101) (o := .cells #[.int .u8 0, .string (⟨#[]⟩ : ByteArray), .slice none 0 0, .string (⟨#[]⟩ : ByteArray)] 71 (0, 0)) (by (with_reducible repeat (first | refine blk_drewN ?_ _ | refine blk_drew ?_ | refine blk_alloc ?_ _)); exact BK101.out) hb); have n3_ := Aside0.mk (blk_below (g := gb105) (o := .cells #[.int .u8 x106000_1, .string (⟨#[]⟩ : ByteArray), .slice none 0 0, .string (⟨#[]⟩ : ByteArray)] 71 (0, 0)) (by (with_reducible repeat (first | refine blk_drewN ?_ _ | refine blk_drew ?_ | refine blk_alloc ?_ _)); exact BK105.out) hb); have n4_ := Aside0.mk (below_step (by repeat (first | (with_reducible first | exact HB.out | apply below_alloc | apply pw_below_drewN | apply below_drew1 | refine below_set ?_ GE101.out | refine below_set ?_ GE105.out) | exact HB.out)) hb); clear HO_5; clear BK101; clear BK105; clear HB; have HO_5 := n0_; have HO108 := n1_; have BK101 := n2_; have BK105 := n3_; have HB := n4_; clear n0_ n1_ n2_ n3_ n4_; (try clear hb); (try clear hb2); (try clear hk); (try clear hi); (try clear ho0); obtain ⟨Ao31, co31, eo31⟩ := Kd.R_slice HO108.out; subst eo31; have hnb32 := NB105_101.out; have hnc32 := NB101_105.out; have hcz33_0 : w30.cell? ⟨gb105, 0, none⟩ = some (.int .u8 x106000_1) := (blk_cell BK105.out 0).trans rfl; have hcz33_1 : w30.cell? ⟨gb105, 1, none⟩ = some (.string (⟨#[]⟩ : ByteArray)) := (blk_cell BK105.out 1).trans rfl; have hcz33_2 : w30.cell? ⟨gb105, 2, none⟩ = some (.slice none 0 0) := (blk_cell BK105.out 2).trans rfl; have hcz33_3 : w30.cell? ⟨gb105, 3, none⟩ = some (.string (⟨#[]⟩ : ByteArray)) := (blk_cell BK105.out 3).trans rfl; have hfz33_0 := blk_frozen BK105.out 0; have hfz33_1 := blk_frozen BK105.out 1; have hfz33_2 := blk_frozen BK105.out 2; have hfz33_3 := blk_frozen BK105.out 3; have hcz34_0 : w30.cell? ⟨gb101, 0, none⟩ = some (.int .u8 0) := (blk_cell BK101.out 0).trans rfl; have hcz34_1 : w30.cell? ⟨gb101, 1, none⟩ = some (.string (⟨#[]⟩ : ByteArray)) := (blk_cell BK101.out 1).trans rfl; have hcz34_2 : w30.cell? ⟨gb101, 2, none⟩ = some (.slice none 0 0) := (blk_cell BK101.out 2).trans rfl; have hcz34_3 : w30.cell? ⟨gb101, 3, none⟩ = some (.string (⟨#[]⟩ : ByteArray)) := (blk_cell BK101.out 3).trans rfl; have hfz34_0 := blk_frozen BK101.out 0; have hfz34_1 := blk_frozen BK101.out 1; have hfz34_2 := blk_frozen BK101.out 2; have hfz34_3 := blk_frozen BK101.out 3))
          refine bodyPost_ret (results_ctt rfl _ _ gb101 71 #[.int .u8 x106000_1, .string (⟨#[]⟩ : ByteArray), .slice none 0 0, .string (⟨#[]⟩ : ByteArray)] (0, 0) _ rfl (by (with_reducible repeat (first | refine blk_drewN ?_ _ | refine blk_drew ?_ | refine blk_alloc ?_ _)); refine blk_put (cs := #[.int .u8 x106000_1, .string (⟨#[]⟩ : ByteArray), .slice none 0 0, .string (⟨#[]⟩ : ByteArray)]) ?_ 3 _ rfl; (with_reducible repeat (first | refine blk_drewN ?_ _ | refine blk_drew ?_ | refine blk_alloc ?_ _)); refine blk_put (cs := #[.int .u8 x106000_1, .string (⟨#[]⟩ : ByteArray), .slice none 0 0, .string (⟨#[]⟩ : ByteArray)]) ?_ 2 _ rfl; (with_reducible repeat (first | refine blk_drewN ?_ _ | refine blk_drew ?_ | refine blk_alloc ?_ _)); refine blk_put (cs := #[.int .u8 x106000_1, .string (⟨#[]⟩ : ByteArray), .slice none 0 0, .string (⟨#[]⟩ : ByteArray)]) ?_ 1 _ rfl; (with_reducible repeat (first | refine blk_drewN ?_ _ | refine blk_drew ?_ | refine blk_alloc ?_ _)); refine blk_put (cs := #[.int .u8 0, .string (⟨#[]⟩ : ByteArray), .slice none 0 0, .string (⟨#[]⟩ : ByteArray)]) ?_ 0 _ rfl; (with_reducible repeat (first | refine blk_drewN ?_ _ | refine blk_drew ?_ | refine blk_alloc ?_ _)); exact BK101.out) Tryd.underlying71 rfl (by kernel_rfl)) rfl ?_
          exact ⟨_, by first | rfl | (simp [errW_none, errW_some] <;> rfl) | (simp [*, errW_none, errW_some] <;> rfl), by first | exact Kd.R_nil _ _ _ _ _ | exact Kd.N_nil _ _ _ _ _ | exact Kd.V_nil _ _ _ _ _ | exact Kd.Q_nil _ _ _ _ _ | exact Kd.S_nil _ _ _ _ _, by repeat (first | (with_reducible first | exact HB.out | apply below_alloc | apply pw_below_drewN | apply below_drew1 | refine below_set ?_ GE101.out | refine below_set ?_ GE105.out) | exact HB.out)⟩
        · rw [if_neg c29] at H
          have c29b0 : (x106000_1 == 0) = false := beq_eq_false_iff_ne.mpr c29
          have c29b1 : (x106000_1 != 0) = true := bne_iff_ne.mpr c29
          by_cases c35 : 1 ≤ (t102.length : Int)
          · rw [if_pos c35] at H
            have c35b0 := eq_true c35
            have c35b1 : decide (1 ≤ (t102.length : Int)) = true := decide_eq_true c35
            clear c35
            obtain ⟨y114, hy114⟩ : ∃ y_ : List ByteArray, y_ = (t102.drop (1 : Int).toNat) := ⟨_, rfl⟩
            replace H : ((ontimeref51_named.f x106000_1).bind fun t117 => (if t117 = true then (if (y114.length : Int) = 0 then (some (x106000_1, (⟨#[]⟩ : ByteArray), ([] : List Int), (⟨#[]⟩ : ByteArray), 0, false)) else (if 0 < (y114.length : Int) then ((ontimeref11_Name.f k1 (rdOf ByteArray.empty y114 0)).bind fun t119 => (if t119 = true then (if 1 ≤ (y114.length : Int) then (ontimeref51_first.j1 k1 (y114.drop (1 : Int).toNat) x106000_1 (rdOf ByteArray.empty y114 0) (⟨#[]⟩ : ByteArray)) else (none)) else (some (x106000_1, (⟨#[]⟩ : ByteArray), ([] : List Int), (⟨#[]⟩ : ByteArray), 0, false)))) else (none))) else (ontimeref51_first.j1 k1 y114 x106000_1 (⟨#[]⟩ : ByteArray) (⟨#[]⟩ : ByteArray)))) = some (r1, r2, r3, r4, r5, r6) := by first | (rw [hy114]; with_reducible exact H) | (have H2_ := (Option.bind_some _ _).symm.trans H; rw [hy114]; with_reducible exact H2_) | (have H2_ := (Option.bind_some _ _).symm.trans H; with_reducible exact H2_) | with_reducible exact H | (rw [hy114]; exact H) | exact H
            have Ny114 := Aside0.mk hy114
            clear hy114
            replace H := Option.bind_eq_some_iff.mp H
            obtain ⟨t117, A360, H⟩ := H
            replace H : (if t117 = true then (if (y114.length : Int) = 0 then (some (x106000_1, (⟨#[]⟩ : ByteArray), ([] : List Int), (⟨#[]⟩ : ByteArray), 0, false)) else (if 0 < (y114.length : Int) then ((ontimeref11_Name.f k1 (rdOf ByteArray.empty y114 0)).bind fun t119 => (if t119 = true then (if 1 ≤ (y114.length : Int) then (ontimeref51_first.j1 k1 (y114.drop (1 : Int).toNat) x106000_1 (rdOf ByteArray.empty y114 0) (⟨#[]⟩ : ByteArray)) else (none)) else (some (x106000_1, (⟨#[]⟩ : ByteArray), ([] : List Int), (⟨#[]⟩ : ByteArray), 0, false)))) else (none))) else (ontimeref51_first.j1 k1 y114 x106000_1 (⟨#[]⟩ : ByteArray) (⟨#[]⟩ : ByteArray))) = some (r1, r2, r3, r4, r5, r6) := H
            have A36 := Aside0.mk A360
            clear A360
            have HC37 := Aside0.mk H
            clear H
            go_upto_if 43 with (first | ((with_reducible refine gate_callee (f := 61) rfl ?_); refine goesL_ (some 18) rfl rfl Tryd.func61 (by kernel_rfl) rfl #[] rfl (by (try simp only [List.map_toArray, List.map_cons, List.map_nil]); first | done | rfl | (simp only [List.length_drop, List.length_take]; rfl)) ?_; (with_reducible refine (ontimeref51_Words.calls  t106 _ A8.out).mono ?_); rintro e w38 ⟨v107, rfl, ho0, hb⟩; refine ⟨_, rfl, ?_⟩; have n0_ := Aside0.mk (Kd.Q_elder' (by (with_reducible repeat (first | apply Kd.Q_alloc | apply Kd.Q_drewN | apply Kd.Q_drew)); exact HO_5.out) (Kd.R_base ho0) hb); have n1_ := Aside0.mk (Kd.R_lower (Kd.R_new' ho0 (Kd.Q_lt (by (with_reducible repeat (first | apply Kd.Q_alloc | apply Kd.Q_drewN | apply Kd.Q_drew)); exact HO_5.out))) (below_size (by repeat (first | (with_reducible first | exact HB.out | apply below_alloc | apply pw_below_drewN | apply below_drew1 | refine below_set ?_ GE101.out | refine below_set ?_ GE105.out) | exact HB.out)))); have n2_ := Aside0.mk (blk_below (g := gb101) (o := .cells #[.int .u8 0, .string (⟨#[]⟩ : ByteArray), .slice none 0 0, .string (⟨#[]⟩ : ByteArray)] 71 (0, 0)) (by (with_reducible repeat (first | refine blk_drewN ?_ _ | refine blk_drew ?_ | refine blk_alloc ?_ _)); exact BK101.out) hb); have n3_ := Aside0.mk (blk_below (g := gb105) (o := .cells #[.int .u8 x106000_1, .string (⟨#[]⟩ : ByteArray), .slice none 0 0, .string (⟨#[]⟩ : ByteArray)] 71 (0, 0)) (by (with_reducible repeat (first | refine blk_drewN ?_ _ | refine blk_drew ?_ | refine blk_alloc ?_ _)); exact BK105.out) hb); have n4_ := Aside0.mk (below_step (by repeat (first | (with_reducible first | exact HB.out | apply below_alloc | apply pw_below_drewN | apply below_drew1 | refine below_set ?_ GE101.out | refine below_set ?_ GE105.out) | exact HB.out)) hb); clear HO_5; clear BK101; clear BK105; clear HB; have HO_5 := n0_; have HO108 := n1_; have BK101 := n2_; have BK105 := n3_; have HB := n4_; clear n0_ n1_ n2_ n3_ n4_; (try clear hb); (try clear hb2); (try clear hk); (try clear hi); (try clear ho0); obtain ⟨Ao39, co39, eo39⟩ := Kd.R_slice HO108.out; subst eo39; have hnb40 := NB105_101.out; have hnc40 := NB101_105.out; have hcz41_0 : w38.cell? ⟨gb105, 0, none⟩ = some (.int .u8 x106000_1) := (blk_cell BK105.out 0).trans rfl; have hcz41_1 : w38.cell? ⟨gb105, 1, none⟩ = some (.string (⟨#[]⟩ : ByteArray)) := (blk_cell BK105.out 1).trans rfl; have hcz41_2 : w38.cell? ⟨gb105, 2, none⟩ = some (.slice none 0 0) := (blk_cell BK105.out 2).trans rfl; have hcz41_3 : w38.cell? ⟨gb105, 3, none⟩ = some (.string (⟨#[]⟩ : ByteArray)) := (blk_cell BK105.out 3).trans rfl; have hfz41_0 := blk_frozen BK105.out 0; have hfz41_1 := blk_frozen BK105.out 1; have hfz41_2 := blk_frozen BK105.out 2; have hfz41_3 := blk_frozen BK105.out 3; obtain ⟨Ao42, co42, eo42, _⟩ := Kd.Q_slice HO_5.out; subst eo42; have n_ := Aside0.mk (Kd.Q_mono (ok' := (fun k_ => some k_ ≠ (.slice Ao39 t106.length co39 : Value).ownBlock)) HO_5.out (fun k_ hk => hk.2)); clear HO_5; have HO_5 := n_; clear n_; have q43 : (1 : Int) ≤ ((t102.length : Int) : Int) := of_decide_eq_true (by first | (with_reducible assumption) | assumption); obtain ⟨i043, hi043, _, hsz43, _⟩ := info_parts info9; have hcut43 := cut_from (P := Tryd.prog) 34 9 .i64 Tryd.underlying34 hi043 1 hsz43 Ao42 t102.length co42 1 (by omega) q43; have hr43 := Kd.Q_drop (k := (1 : Int).toNat) HO_5.out (by omega); obtain ⟨A43, hA43⟩ : ∃ A1, A1 = (if co42 = (1 : Int).toNat then Ao42 else (Ao42 : Option Addr).map (·.add ((1 : Int).toNat * 1))) := ⟨_, rfl⟩; obtain ⟨c43, hc43⟩ : ∃ c1, c1 = co42 - (1 : Int).toNat := ⟨_, rfl⟩; have hy43 : y114.length = t102.length - (1 : Int).toNat := (by rw [Ny114.out, List.length_drop]); rw [← Ny114.out] at hr43; rw [← hy43, ← hA43, ← hc43] at hcut43; replace hr43 : Kd.Q Kd.string 9 w38 w.heap.size (fun k_ => some k_ ≠ (.slice Ao39 t106.length co39 : Value).ownBlock) (.slice A43 y114.length c43) y114 := (by rw [hA43, hc43, hy43]; exact hr43); have HE43 : Aside0 ((Value.slice A43 y114.length c43).ownBlock = (.slice Ao42 t102.length co42 : Value).ownBlock) := ⟨by rw [hA43]; split <;> (cases (Ao42 : Option Addr) <;> rfl)⟩; clear hy43 hi043 hsz43 HO_5 hA43 hc43; have HO116 := Aside0.mk hr43; clear hr43; replace q43 := eq_true q43; have n_ := Aside0.mk (Kd.R_mono (ok' := fun k_ => (True ∧ some k_ ≠ (.slice A43 y114.length c43 : Value).ownBlock)) HO108.out (fun k_ hk => ⟨trivial, (by rw [HE43.out]; exact hk.2)⟩)); clear HO108; have HO108 := n_; clear n_) | ((with_reducible refine gate_callee (f := 62) rfl ?_); refine goesL_ (some 43) rfl rfl Tryd.func62 (by kernel_rfl) rfl #[.int .u8 x106000_1] rfl (by (try simp only [List.map_toArray, List.map_cons, List.map_nil]); first | done | rfl | (simp only [List.length_drop, List.length_take]; rfl)) ?_; (with_reducible refine (ontimeref51_named.calls x106000_1 t117 _ A36.out).mono ?_); rintro e w' ⟨rfl, ⟨nd, rfl⟩⟩; refine ⟨_, rfl, ?_⟩))
            (try simp only [Act.put, List.setIfInBounds_toArray, List.set_cons_zero, List.set_cons_succ])
            go_cut [5] (fun v5 wc => ∃ (kq : Nat) (x5_36 : List ByteArray) (x102000_36 : Int) (x102001_36 : ByteArray) (x102003_36 : ByteArray) (x106001_36 : ByteArray), Aside0 (ontimeref51_first.j1 kq x5_36 x106000_1 x106001_36 (⟨#[]⟩ : ByteArray) = some (r1, r2, r3, r4, r5, r6)) ∧ Aside0 (kq ≤ k1) ∧ Aside0 (Kd.Q Kd.string 9 wc w.heap.size (fun _ => True) v5 x5_36) ∧ Aside0 (wc.heap[gb101]? = some (.cells #[.int .u8 x102000_36, .string x102001_36, (.slice none 0 0), .string x102003_36] 71 (0, 0))) ∧ Aside0 (wc.heap[gb105]? = some (.cells #[.int .u8 x106000_1, .string x106001_36, (.slice none 0 0), .string (⟨#[]⟩ : ByteArray)] 71 (0, 0))) ∧ Aside0 (Below w.heap.size w wc))
            case first =>
              have H := HC37.out
              clear HC37
              by_cases c44 : t117 = true
              · subst c44
                have H1 : (if (y114.length : Int) = 0 then (some (x106000_1, (⟨#[]⟩ : ByteArray), ([] : List Int), (⟨#[]⟩ : ByteArray), 0, false)) else (if 0 < (y114.length : Int) then ((ontimeref11_Name.f k1 (rdOf ByteArray.empty y114 0)).bind fun t119 => (if t119 = true then (if 1 ≤ (y114.length : Int) then (ontimeref51_first.j1 k1 (y114.drop (1 : Int).toNat) x106000_1 (rdOf ByteArray.empty y114 0) (⟨#[]⟩ : ByteArray)) else (none)) else (some (x106000_1, (⟨#[]⟩ : ByteArray), ([] : List Int), (⟨#[]⟩ : ByteArray), 0, false)))) else (none))) = some (r1, r2, r3, r4, r5, r6) := by rw [if_pos rfl] at H; exact H
                clear H
                have H := H1
                clear H1
                by_cases c45 : (y114.length : Int) = 0
                · rw [if_pos c45] at H
                  have c45b0 : ((y114.length : Int) == 0) = true := beq_iff_eq.mpr c45
                  have c45b1 : ((y114.length : Int) != 0) = false := bne_eq_false_iff_eq.mpr c45
                  clear c45
                  (first | rw [c45b0] | (simp only [i64_w, i32_w]; rw [c45b0]) | skip)
                  simp only [Option.some.injEq, Prod.mk.injEq] at H
                  obtain ⟨rfl, rfl, rfl, rfl, rfl, rfl⟩ := H
                  have hnb46 := NB105_101.out
                  have hnc46 := NB101_105.out
                  have hcz47_0 : w38.cell? ⟨gb105, 0, none⟩ = some (.int .u8 x106000_1) := (blk_cell BK105.out 0).trans rfl
                  have hcz47_1 : w38.cell? ⟨gb105, 1, none⟩ = some (.string (⟨#[]⟩ : ByteArray)) := (blk_cell BK105.out 1).trans rfl
                  have hcz47_2 : w38.cell? ⟨gb105, 2, none⟩ = some (.slice none 0 0) := (blk_cell BK105.out 2).trans rfl
                  have hcz47_3 : w38.cell? ⟨gb105, 3, none⟩ = some (.string (⟨#[]⟩ : ByteArray)) := (blk_cell BK105.out 3).trans rfl
                  have hfz47_0 := blk_frozen BK105.out 0
                  have hfz47_1 := blk_frozen BK105.out 1
                  have hfz47_2 := blk_frozen BK105.out 2
                  have hfz47_3 := blk_frozen BK105.out 3
                  have hcz48_0 : w38.cell? ⟨gb101, 0, none⟩ = some (.int .u8 0) := (blk_cell BK101.out 0).trans rfl
                  have hcz48_1 : w38.cell? ⟨gb101, 1, none⟩ = some (.string (⟨#[]⟩ : ByteArray)) := (blk_cell BK101.out 1).trans rfl
                  have hcz48_2 : w38.cell? ⟨gb101, 2, none⟩ = some (.slice none 0 0) := (blk_cell BK101.out 2).trans rfl
                  have hcz48_3 : w38.cell? ⟨gb101, 3, none⟩ = some (.string (⟨#[]⟩ : ByteArray)) := (blk_cell BK101.out 3).trans rfl
                  have hfz48_0 := blk_frozen BK101.out 0
                  have hfz48_1 := blk_frozen BK101.out 1
                  have hfz48_2 := blk_frozen BK101.out 2
                  have hfz48_3 := blk_frozen BK101.out 3
                  go_wp2
                  refine bodyPost_ret (results_ctt rfl _ _ gb101 71 #[.int .u8 x106000_1, .string (⟨#[]⟩ : ByteArray), .slice none 0 0, .string (⟨#[]⟩ : ByteArray)] (0, 0) _ rfl (by (with_reducible repeat (first | refine blk_drewN ?_ _ | refine blk_drew ?_ | refine blk_alloc ?_ _)); refine blk_put (cs := #[.int .u8 x106000_1, .string (⟨#[]⟩ : ByteArray), .slice none 0 0, .string (⟨#[]⟩ : ByteArray)]) ?_ 3 _ rfl; (with_reducible repeat (first | refine blk_drewN ?_ _ | refine blk_drew ?_ | refine blk_alloc ?_ _)); refine blk_put (cs := #[.int .u8 x106000_1, .string (⟨#[]⟩ : ByteArray), .slice none 0 0, .string (⟨#[]⟩ : ByteArray)]) ?_ 2 _ rfl; (with_reducible repeat (first | refine blk_drewN ?_ _ | refine blk_drew ?_ | refine blk_alloc ?_ _)); refine blk_put (cs := #[.int .u8 x106000_1, .string (⟨#[]⟩ : ByteArray), .slice none 0 0, .string (⟨#[]⟩ : ByteArray)]) ?_ 1 _ rfl; (with_reducible repeat (first | refine blk_drewN ?_ _ | refine blk_drew ?_ | refine blk_alloc ?_ _)); refine blk_put (cs := #[.int .u8 0, .string (⟨#[]⟩ : ByteArray), .slice none 0 0, .string (⟨#[]⟩ : ByteArray)]) ?_ 0 _ rfl; (with_reducible repeat (first | refine blk_drewN ?_ _ | refine blk_drew ?_ | refine blk_alloc ?_ _)); exact BK101.out) Tryd.underlying71 rfl (by kernel_rfl)) rfl ?_
                  exact ⟨_, by first | rfl | (simp [errW_none, errW_some] <;> rfl) | (simp [*, errW_none, errW_some] <;> rfl), by first | exact Kd.R_nil _ _ _ _ _ | exact Kd.N_nil _ _ _ _ _ | exact Kd.V_nil _ _ _ _ _ | exact Kd.Q_nil _ _ _ _ _ | exact Kd.S_nil _ _ _ _ _, by repeat (first | (with_reducible first | exact HB.out | apply below_alloc | apply pw_below_drewN | apply below_drew1 | refine below_set ?_ GE101.out | refine below_set ?_ GE105.out) | exact HB.out)⟩
                · rw [if_neg c45] at H
                  have c45b0 : ((y114.length : Int) == 0) = false := beq_eq_false_iff_ne.mpr c45
                  have c45b1 : ((y114.length : Int) != 0) = true := bne_iff_ne.mpr c45
                  have c45b2 : ¬ (y114 = []) := fun h_ => c45 (by rw [h_]; rfl)
                  (first | rw [c45b0] | (simp only [i64_w, i32_w]; rw [c45b0]) | skip)
                  by_cases c49 : 0 < (y114.length : Int)
                  · rw [if_pos c49] at H
                    have c49b0 : decide (0 < (y114.length : Int)) = true := decide_eq_true c49
                    have c49b1 : decide (0 < y114.length) = true := decide_eq_true (by omega)
                    clear c49
                    replace H := Option.bind_eq_some_iff.mp H
                    obtain ⟨t119, A500, H⟩ := H
                    replace H : (if t119 = true then (if 1 ≤ (y114.length : Int) then (ontimeref51_first.j1 k1 (y114.drop (1 : Int).toNat) x106000_1 (rdOf ByteArray.empty y114 0) (⟨#[]⟩ : ByteArray)) else (none)) else (some (x106000_1, (⟨#[]⟩ : ByteArray), ([] : List Int), (⟨#[]⟩ : ByteArray), 0, false))) = some (r1, r2, r3, r4, r5, r6) := H
                    have A50 := Aside0.mk A500
                    clear A500
                    by_cases c51 : t119 = true
                    · subst c51
                      have H1 : (if 1 ≤ (y114.length : Int) then (ontimeref51_first.j1 k1 (y114.drop (1 : Int).toNat) x106000_1 (rdOf ByteArray.empty y114 0) (⟨#[]⟩ : ByteArray)) else (none)) = some (r1, r2, r3, r4, r5, r6) := by rw [if_pos rfl] at H; exact H
                      clear H
                      have H := H1
                      clear H1
                      by_cases c52 : 1 ≤ (y114.length : Int)
                      · rw [if_pos c52] at H
                        have c52b0 := eq_true c52
                        have c52b1 : decide (1 ≤ (y114.length : Int)) = true := decide_eq_true c52
                        clear c52
                        obtain ⟨y121, hy121⟩ : ∃ y_ : List ByteArray, y_ = (y114.drop (1 : Int).toNat) := ⟨_, rfl⟩
                        replace H : (ontimeref51_first.j1 k1 y121 x106000_1 (rdOf ByteArray.empty y114 0) (⟨#[]⟩ : ByteArray)) = some (r1, r2, r3, r4, r5, r6) := by first | (rw [hy121]; with_reducible exact H) | (have H2_ := (Option.bind_some _ _).symm.trans H; rw [hy121]; with_reducible exact H2_) | (have H2_ := (Option.bind_some _ _).symm.trans H; with_reducible exact H2_) | with_reducible exact H | (rw [hy121]; exact H) | exact H
                        have Ny121 := Aside0.mk hy121
                        clear hy121
                        have H' := Aside0.mk H
                        clear H
                        have p118 : 0 ≤ (0 : Int) := (by omega)
                        have q118 : 0 < (y114.length : Int) := of_decide_eq_true (by first | (with_reducible assumption) | assumption)
                        obtain ⟨ad118, e118, hx118_0⟩ := Kd.at_string (Kd.Q_reads' HO116.out).2.2 0 p118 q118
                        cases e118
                        have qi118 : (0 < y114.length) = True := eq_true (by omega)
                        (try rw [show ((0 : Int)).toNat = 0 from rfl] at hx118_0)
                        (try rw [Addr.add_zero'] at hx118_0)
                        replace p118 := eq_true p118
                        replace q118 := eq_true q118
                        go_wp2_with (first | (go_at_call 63; (with_reducible refine (ontimeref11_Name.calls k1 (rdOf ByteArray.empty y114 0) true _ A50.out).mono ?_); rintro e w53 ⟨rfl, hb⟩; have n0_ := Aside0.mk (Kd.Q_below (by (with_reducible repeat (first | apply Kd.Q_alloc | apply Kd.Q_drewN | apply Kd.Q_drew)); exact HO116.out) hb); have n1_ := Aside0.mk (Kd.R_below (by (with_reducible repeat (first | apply Kd.R_alloc | apply Kd.R_drewN | apply Kd.R_drew)); exact HO108.out) hb); have n2_ := Aside0.mk (blk_below (g := gb101) (o := .cells #[.int .u8 0, .string (⟨#[]⟩ : ByteArray), .slice none 0 0, .string (⟨#[]⟩ : ByteArray)] 71 (0, 0)) (by (with_reducible repeat (first | refine blk_drewN ?_ _ | refine blk_drew ?_ | refine blk_alloc ?_ _)); exact BK101.out) hb); have n3_ := Aside0.mk (blk_below (g := gb105) (o := .cells #[.int .u8 x106000_1, .string (⟨#[]⟩ : ByteArray), .slice none 0 0, .string (⟨#[]⟩ : ByteArray)] 71 (0, 0)) (by (with_reducible repeat (first | refine blk_drewN ?_ _ | refine blk_drew ?_ | refine blk_alloc ?_ _)); exact BK105.out) hb); have n4_ := Aside0.mk (below_step (by repeat (first | (with_reducible first | exact HB.out | apply below_alloc | apply pw_below_drewN | apply below_drew1 | refine below_set ?_ GE101.out | refine below_set ?_ GE105.out) | exact HB.out)) hb); clear HO116; clear HO108; clear BK101; clear BK105; clear HB; have HO116 := n0_; have HO108 := n1_; have BK101 := n2_; have BK105 := n3_; have HB := n4_; clear n0_ n1_ n2_ n3_ n4_; (try clear hb); (try clear hb2); (try clear hk); (try clear hi); have p120 : 0 ≤ (0 : Int) := (by omega); have q120 : 0 < (y114.length : Int) := of_decide_eq_true (by first | (with_reducible assumption) | assumption); obtain ⟨ad120, e120, hx120_0⟩ := Kd.at_string (Kd.Q_reads' HO116.out).2.2 0 p120 q120; obtain rfl : ad118 = ad120 := (by injection e120); have qi120 : (0 < y114.length) = True := eq_true (by omega); (try rw [show ((0 : Int)).toNat = 0 from rfl] at hx120_0); (try rw [Addr.add_zero'] at hx120_0); replace p120 := eq_true p120; replace q120 := eq_true q120; have hnb54 := NB105_101.out; have hnc54 := NB101_105.out; have hcz55_0 : w53.cell? ⟨gb105, 0, none⟩ = some (.int .u8 x106000_1) := (blk_cell BK105.out 0).trans rfl; have hcz55_1 : w53.cell? ⟨gb105, 1, none⟩ = some (.string (⟨#[]⟩ : ByteArray)) := (blk_cell BK105.out 1).trans rfl; have hcz55_2 : w53.cell? ⟨gb105, 2, none⟩ = some (.slice none 0 0) := (blk_cell BK105.out 2).trans rfl; have hcz55_3 : w53.cell? ⟨gb105, 3, none⟩ = some (.string (⟨#[]⟩ : ByteArray)) := (blk_cell BK105.out 3).trans rfl; have hfz55_0 := blk_frozen BK105.out 0; have hfz55_1 := blk_frozen BK105.out 1; have hfz55_2 := blk_frozen BK105.out 2; have hfz55_3 := blk_frozen BK105.out 3) | ((with_reducible refine gate_store (t := 9) (p := 58) rfl ?_); refine store_event (t := 9) (p := 58) (v := ?vo_w56) (w1 := (w53.setCell ⟨gb105, 1, none⟩ (.string (rdOf ByteArray.empty y114 0)))) ?hg ?ho ?hn ?hr ?_; (case ho => rfl); (case hg => rfl); (case hn => rfl); (case hr => first | (go_simp; done) | (go_simp; rfl)); intro w56 hw; have n0_ : Aside0 (Kd.Q Kd.string 9 w56 w.heap.size (fun k_ => some k_ ≠ (.slice Ao39 t106.length co39 : Value).ownBlock) (.slice (some ad118) y114.length c43) y114) := ⟨(by rw [hw]; exact (by (with_reducible repeat (first | apply Kd.Q_alloc | apply Kd.Q_drewN | apply Kd.Q_drew)); exact Kd.Q_mono (Kd.Q_far (p := ⟨gb105, 1, none⟩) (Kd.Q_types HO116.out BK105.out (by decide)) (fun _ hk => hk.2) (.string (rdOf ByteArray.empty y114 0))) (fun _ hk => hk.1)))⟩; have n1_ : Aside0 (Kd.R Kd.string 9 w56 w.heap.size (fun k_ => some k_ ≠ (.slice (some ad118) y114.length c43 : Value).ownBlock) (.slice Ao39 t106.length co39) t106) := ⟨(by rw [hw]; exact (by (with_reducible repeat (first | apply Kd.R_alloc | apply Kd.R_drewN | apply Kd.R_drew)); exact Kd.R_mono (Kd.R_far (p := ⟨gb105, 1, none⟩) (Kd.R_types HO108.out BK105.out (by decide)) (fun _ hk => hk.2) (.string (rdOf ByteArray.empty y114 0))) (fun _ hk => hk.1.2)))⟩; have n2_ : Aside0 (w56.heap[gb101]? = some (.cells #[.int .u8 0, .string (⟨#[]⟩ : ByteArray), .slice none 0 0, .string (⟨#[]⟩ : ByteArray)] 71 (0, 0))) := ⟨(by rw [hw]; exact (by (with_reducible repeat (first | refine blk_drewN ?_ _ | refine blk_drew ?_ | refine blk_alloc ?_ _)); refine blk_far ?_ NB101_105.out _; (with_reducible repeat (first | refine blk_drewN ?_ _ | refine blk_drew ?_ | refine blk_alloc ?_ _)); exact BK101.out))⟩; have n3_ : Aside0 (w56.heap[gb105]? = some (.cells #[.int .u8 x106000_1, .string (rdOf ByteArray.empty y114 0), .slice none 0 0, .string (⟨#[]⟩ : ByteArray)] 71 (0, 0))) := ⟨(by rw [hw]; exact (by (with_reducible repeat (first | refine blk_drewN ?_ _ | refine blk_drew ?_ | refine blk_alloc ?_ _)); refine blk_put (cs := #[.int .u8 x106000_1, .string (⟨#[]⟩ : ByteArray), .slice none 0 0, .string (⟨#[]⟩ : ByteArray)]) ?_ 1 _ rfl; (with_reducible repeat (first | refine blk_drewN ?_ _ | refine blk_drew ?_ | refine blk_alloc ?_ _)); exact BK105.out))⟩; have n4_ : Aside0 (Below w.heap.size w w56) := ⟨(by rw [hw]; exact (by repeat (first | (with_reducible first | exact HB.out | apply below_alloc | apply pw_below_drewN | apply below_drew1 | refine below_set ?_ GE101.out | refine below_set ?_ GE105.out) | exact HB.out)))⟩; clear hw; clear HO116; clear HO108; clear BK101; clear BK105; clear HB; have HO116 := n0_; have HO108 := n1_; have BK101 := n2_; have BK105 := n3_; have HB := n4_; clear n0_ n1_ n2_ n3_ n4_; have q57 : (1 : Int) ≤ ((y114.length : Int) : Int) := of_decide_eq_true (by first | (with_reducible assumption) | assumption); obtain ⟨i057, hi057, _, hsz57, _⟩ := info_parts info9; have hcut57 := cut_from (P := Tryd.prog) 34 9 .i64 Tryd.underlying34 hi057 1 hsz57 (some ad118) y114.length c43 1 (by omega) q57; have hr57 := Kd.Q_drop (k := (1 : Int).toNat) HO116.out (by omega); obtain ⟨A57, hA57⟩ : ∃ A1, A1 = (if c43 = (1 : Int).toNat then (some ad118) else ((some ad118) : Option Addr).map (·.add ((1 : Int).toNat * 1))) := ⟨_, rfl⟩; obtain ⟨c57, hc57⟩ : ∃ c1, c1 = c43 - (1 : Int).toNat := ⟨_, rfl⟩; have hy57 : y121.length = y114.length - (1 : Int).toNat := (by rw [Ny121.out, List.length_drop]); rw [← Ny121.out] at hr57; rw [← hy57, ← hA57, ← hc57] at hcut57; replace hr57 : Kd.Q Kd.string 9 w56 w.heap.size (fun k_ => some k_ ≠ (.slice Ao39 t106.length co39 : Value).ownBlock) (.slice A57 y121.length c57) y121 := (by rw [hA57, hc57, hy57]; exact hr57); have HE57 : Aside0 ((Value.slice A57 y121.length c57).ownBlock = (.slice (some ad118) y114.length c43 : Value).ownBlock) := ⟨by rw [hA57]; split <;> (cases ((some ad118) : Option Addr) <;> rfl)⟩; clear hy57 hi057 hsz57 HO116 hA57 hc57; have HO123 := Aside0.mk hr57; clear hr57; replace q57 := eq_true q57; have n_ := Aside0.mk (Kd.R_mono (ok' := fun k_ => some k_ ≠ (.slice A57 y121.length c57 : Value).ownBlock) HO108.out (fun k_ hk => (by rw [HE57.out]; exact hk))); clear HO108; have HO108 := n_; clear n_))
                        go_meet
                        case rel => exact ⟨_, (y121), (0), ((⟨#[]⟩ : ByteArray)), ((⟨#[]⟩ : ByteArray)), (rdOf ByteArray.empty y114 0), H', ⟨by have := HK1.out; first | omega | exact Nat.le_refl _⟩, ⟨by (with_reducible repeat (first | apply Kd.Q_alloc | apply Kd.Q_drewN | apply Kd.Q_drew)); exact Kd.Q_mono HO123.out (fun _ hk => trivial)⟩, ⟨by (with_reducible repeat (first | refine blk_drewN ?_ _ | refine blk_drew ?_ | refine blk_alloc ?_ _)); exact BK101.out⟩, ⟨by (with_reducible repeat (first | refine blk_drewN ?_ _ | refine blk_drew ?_ | refine blk_alloc ?_ _)); exact BK105.out⟩, ⟨by repeat (first | (with_reducible first | exact HB.out | apply below_alloc | apply pw_below_drewN | apply below_drew1 | refine below_set ?_ GE101.out | refine below_set ?_ GE105.out) | exact HB.out)⟩⟩
                      · rw [if_neg c52] at H
                        exact absurd H (by simp)
                    · replace c51 := Bool.eq_false_iff.mpr c51
                      subst c51
                      have H1 : (some (x106000_1, (⟨#[]⟩ : ByteArray), ([] : List Int), (⟨#[]⟩ : ByteArray), 0, false)) = some (r1, r2, r3, r4, r5, r6) := by rw [if_neg (show ¬ (false = true) by decide)] at H; exact H
                      clear H
                      have H := H1
                      clear H1
                      simp only [Option.some.injEq, Prod.mk.injEq] at H
                      obtain ⟨rfl, rfl, rfl, rfl, rfl, rfl⟩ := H
                      have p118 : 0 ≤ (0 : Int) := (by omega)
                      have q118 : 0 < (y114.length : Int) := of_decide_eq_true (by first | (with_reducible assumption) | assumption)
                      obtain ⟨ad118, e118, hx118_0⟩ := Kd.at_string (Kd.Q_reads' HO116.out).2.2 0 p118 q118
                      cases e118
                      have qi118 : (0 < y114.length) = True := eq_true (by omega)
                      (try rw [show ((0 : Int)).toNat = 0 from rfl] at hx118_0)
                      (try rw [Addr.add_zero'] at hx118_0)
                      replace p118 := eq_true p118
                      replace q118 := eq_true q118
                      go_wp2_with (first | (go_at_call 63; (with_reducible refine (ontimeref11_Name.calls k1 (rdOf ByteArray.empty y114 0) false _ A50.out).mono ?_); rintro e w58 ⟨rfl, hb⟩; have n0_ := Aside0.mk (Kd.Q_below (by (with_reducible repeat (first | apply Kd.Q_alloc | apply Kd.Q_drewN | apply Kd.Q_drew)); exact HO116.out) hb); have n1_ := Aside0.mk (Kd.R_below (by (with_reducible repeat (first | apply Kd.R_alloc | apply Kd.R_drewN | apply Kd.R_drew)); exact HO108.out) hb); have n2_ := Aside0.mk (blk_below (g := gb101) (o := .cells #[.int .u8 0, .string (⟨#[]⟩ : ByteArray), .slice none 0 0, .string (⟨#[]⟩ : ByteArray)] 71 (0, 0)) (by (with_reducible repeat (first | refine blk_drewN ?_ _ | refine blk_drew ?_ | refine blk_alloc ?_ _)); exact BK101.out) hb); have n3_ := Aside0.mk (blk_below (g := gb105) (o := .cells #[.int .u8 x106000_1, .string (⟨#[]⟩ : ByteArray), .slice none 0 0, .string (⟨#[]⟩ : ByteArray)] 71 (0, 0)) (by (with_reducible repeat (first | refine blk_drewN ?_ _ | refine blk_drew ?_ | refine blk_alloc ?_ _)); exact BK105.out) hb); have n4_ := Aside0.mk (below_step (by repeat (first | (with_reducible first | exact HB.out | apply below_alloc | apply pw_below_drewN | apply below_drew1 | refine below_set ?_ GE101.out | refine below_set ?_ GE105.out) | exact HB.out)) hb); clear HO116; clear HO108; clear BK101; clear BK105; clear HB; have HO116 := n0_; have HO108 := n1_; have BK101 := n2_; have BK105 := n3_; have HB := n4_; clear n0_ n1_ n2_ n3_ n4_; (try clear hb); (try clear hb2); (try clear hk); (try clear hi); have hnb59 := NB105_101.out; have hnc59 := NB101_105.out; have hcz60_0 : w58.cell? ⟨gb105, 0, none⟩ = some (.int .u8 x106000_1) := (blk_cell BK105.out 0).trans rfl; have hcz60_1 : w58.cell? ⟨gb105, 1, none⟩ = some (.string (⟨#[]⟩ : ByteArray)) := (blk_cell BK105.out 1).trans rfl; have hcz60_2 : w58.cell? ⟨gb105, 2, none⟩ = some (.slice none 0 0) := (blk_cell BK105.out 2).trans rfl; have hcz60_3 : w58.cell? ⟨gb105, 3, none⟩ = some (.string (⟨#[]⟩ : ByteArray)) := (blk_cell BK105.out 3).trans rfl; have hfz60_0 := blk_frozen BK105.out 0; have hfz60_1 := blk_frozen BK105.out 1; have hfz60_2 := blk_frozen BK105.out 2; have hfz60_3 := blk_frozen BK105.out 3; have hcz61_0 : w58.cell? ⟨gb101, 0, none⟩ = some (.int .u8 0) := (blk_cell BK101.out 0).trans rfl; have hcz61_1 : w58.cell? ⟨gb101, 1, none⟩ = some (.string (⟨#[]⟩ : ByteArray)) := (blk_cell BK101.out 1).trans rfl; have hcz61_2 : w58.cell? ⟨gb101, 2, none⟩ = some (.slice none 0 0) := (blk_cell BK101.out 2).trans rfl; have hcz61_3 : w58.cell? ⟨gb101, 3, none⟩ = some (.string (⟨#[]⟩ : ByteArray)) := (blk_cell BK101.out 3).trans rfl; have hfz61_0 := blk_frozen BK101.out 0; have hfz61_1 := blk_frozen BK101.out 1; have hfz61_2 := blk_frozen BK101.out 2; have hfz61_3 := blk_frozen BK101.out 3))
                      refine bodyPost_ret (results_ctt rfl _ _ gb101 71 #[.int .u8 x106000_1, .string (⟨#[]⟩ : ByteArray), .slice none 0 0, .string (⟨#[]⟩ : ByteArray)] (0, 0) _ rfl (by (with_reducible repeat (first | refine blk_drewN ?_ _ | refine blk_drew ?_ | refine blk_alloc ?_ _)); refine blk_put (cs := #[.int .u8 x106000_1, .string (⟨#[]⟩ : ByteArray), .slice none 0 0, .string (⟨#[]⟩ : ByteArray)]) ?_ 3 _ rfl; (with_reducible repeat (first | refine blk_drewN ?_ _ | refine blk_drew ?_ | refine blk_alloc ?_ _)); refine blk_put (cs := #[.int .u8 x106000_1, .string (⟨#[]⟩ : ByteArray), .slice none 0 0, .string (⟨#[]⟩ : ByteArray)]) ?_ 2 _ rfl; (with_reducible repeat (first | refine blk_drewN ?_ _ | refine blk_drew ?_ | refine blk_alloc ?_ _)); refine blk_put (cs := #[.int .u8 x106000_1, .string (⟨#[]⟩ : ByteArray), .slice none 0 0, .string (⟨#[]⟩ : ByteArray)]) ?_ 1 _ rfl; (with_reducible repeat (first | refine blk_drewN ?_ _ | refine blk_drew ?_ | refine blk_alloc ?_ _)); refine blk_put (cs := #[.int .u8 0, .string (⟨#[]⟩ : ByteArray), .slice none 0 0, .string (⟨#[]⟩ : ByteArray)]) ?_ 0 _ rfl; (with_reducible repeat (first | refine blk_drewN ?_ _ | refine blk_drew ?_ | refine blk_alloc ?_ _)); exact BK101.out) Tryd.underlying71 rfl (by kernel_rfl)) rfl ?_
                      exact ⟨_, by first | rfl | (simp [errW_none, errW_some] <;> rfl) | (simp [*, errW_none, errW_some] <;> rfl), by first | exact Kd.R_nil _ _ _ _ _ | exact Kd.N_nil _ _ _ _ _ | exact Kd.V_nil _ _ _ _ _ | exact Kd.Q_nil _ _ _ _ _ | exact Kd.S_nil _ _ _ _ _, by repeat (first | (with_reducible first | exact HB.out | apply below_alloc | apply pw_below_drewN | apply below_drew1 | refine below_set ?_ GE101.out | refine below_set ?_ GE105.out) | exact HB.out)⟩
                  · rw [if_neg c49] at H
                    exact absurd H (by simp)
              · replace c44 := Bool.eq_false_iff.mpr c44
                subst c44
                have H1 : (ontimeref51_first.j1 k1 y114 x106000_1 (⟨#[]⟩ : ByteArray) (⟨#[]⟩ : ByteArray)) = some (r1, r2, r3, r4, r5, r6) := by rw [if_neg (show ¬ (false = true) by decide)] at H; exact H
                clear H
                have H := H1
                clear H1
                have H' := Aside0.mk H
                clear H
                go_wp2
                go_meet
                case rel => exact ⟨_, (y114), (0), ((⟨#[]⟩ : ByteArray)), ((⟨#[]⟩ : ByteArray)), ((⟨#[]⟩ : ByteArray)), H', ⟨by have := HK1.out; first | omega | exact Nat.le_refl _⟩, ⟨by (with_reducible repeat (first | apply Kd.Q_alloc | apply Kd.Q_drewN | apply Kd.Q_drew)); exact Kd.Q_mono HO116.out (fun _ hk => trivial)⟩, ⟨by (with_reducible repeat (first | refine blk_drewN ?_ _ | refine blk_drew ?_ | refine blk_alloc ?_ _)); exact BK101.out⟩, ⟨by (with_reducible repeat (first | refine blk_drewN ?_ _ | refine blk_drew ?_ | refine blk_alloc ?_ _)); exact BK105.out⟩, ⟨by repeat (first | (with_reducible first | exact HB.out | apply below_alloc | apply pw_below_drewN | apply below_drew1 | refine below_set ?_ GE101.out | refine below_set ?_ GE105.out) | exact HB.out)⟩⟩
            case rest =>
              clear HC37
              try clear c1
              try clear p1
              try clear q1
              try clear hx1
              try clear qi1
              try clear c2
              try clear p2
              try clear c3
              try clear c4
              try clear q4
              try clear c5
              try clear q5
              try clear c6
              try clear p6
              try clear c9
              try clear c9b0
              try clear c11
              try clear c11b0
              try clear p11
              try clear q11
              try clear hx11
              try clear qi11
              try clear c12
              try clear c12b0
              try clear p12
              try clear q12
              try clear hx12
              try clear qi12
              try clear c13
              try clear c13b0
              try clear c13b1
              try clear c14
              try clear c14b0
              try clear c14b1
              try clear c21
              try clear c29
              try clear c29b0
              try clear c29b1
              try clear c32
              try clear c35
              try clear c35b0
              try clear c35b1
              try clear c37
              try clear c40
              try clear c43
              try clear q43
              try clear c44
              try clear c45
              try clear c45b0
              try clear c45b1
              try clear c45b2
              try clear c46
              try clear c49
              try clear c49b0
              try clear c49b1
              try clear c51
              try clear c52
              try clear c52b0
              try clear c52b1
              try clear c54
              try clear c57
              try clear q57
              try clear c59
              try clear c60
              try clear c61
              try clear hcz22_0
              try clear hcz22_1
              try clear hcz22_2
              try clear hcz22_3
              try clear hcz33_0
              try clear hcz33_1
              try clear hcz33_2
              try clear hcz33_3
              try clear hcz34_0
              try clear hcz34_1
              try clear hcz34_2
              try clear hcz34_3
              try clear hcz41_0
              try clear hcz41_1
              try clear hcz41_2
              try clear hcz41_3
              try clear hcz47_0
              try clear hcz47_1
              try clear hcz47_2
              try clear hcz47_3
              try clear hcz48_0
              try clear hcz48_1
              try clear hcz48_2
              try clear hcz48_3
              try clear hcz55_0
              try clear hcz55_1
              try clear hcz55_2
              try clear hcz55_3
              try clear hcz60_0
              try clear hcz60_1
              try clear hcz60_2
              try clear hcz60_3
              try clear hcz61_0
              try clear hcz61_1
              try clear hcz61_2
              try clear hcz61_3
              try clear hcz7_0
              try clear hcz7_1
              try clear hcz7_2
              try clear hcz7_3
              try clear hfz22_0
              try clear hfz22_1
              try clear hfz22_2
              try clear hfz22_3
              try clear hfz33_0
              try clear hfz33_1
              try clear hfz33_2
              try clear hfz33_3
              try clear hfz34_0
              try clear hfz34_1
              try clear hfz34_2
              try clear hfz34_3
              try clear hfz41_0
              try clear hfz41_1
              try clear hfz41_2
              try clear hfz41_3
              try clear hfz47_0
              try clear hfz47_1
              try clear hfz47_2
              try clear hfz47_3
              try clear hfz48_0
              try clear hfz48_1
              try clear hfz48_2
              try clear hfz48_3
              try clear hfz55_0
              try clear hfz55_1
              try clear hfz55_2
              try clear hfz55_3
              try clear hfz60_0
              try clear hfz60_1
              try clear hfz60_2
              try clear hfz60_3
              try clear hfz61_0
              try clear hfz61_1
              try clear hfz61_2
              try clear hfz61_3
              try clear hfz7_0
              try clear hfz7_1
              try clear hfz7_2
              try clear hfz7_3
              try clear hx112_0
              try clear hx113_0
              try clear hx118_0
              try clear hx120_0
              try clear p112
              try clear p113
              try clear p118
              try clear p120
              try clear p2
              try clear q112
              try clear q113
              try clear q118
              try clear q120
              try clear q43
              try clear q57
              obtain ⟨kq, x5_36, x102000_36, x102001_36, x102003_36, x106001_36, HA, HJ36, HO_5, BK101, BK105, HB⟩ := hcut
              cases kq with
              | zero => exact absurd HA.out (by simp [ontimeref51_first.j1])
              | succ kj36 =>
                have H := HA.out
                clear HA
                simp only [ontimeref51_first.j1] at H
                replace H := Option.bind_eq_some_iff.mp H
                obtain ⟨t124, A620, H⟩ := H
                replace H : (if t124 = true then (if (x5_36.length : Int) = 0 then (some (x106000_1, x106001_36, ([] : List Int), (⟨#[]⟩ : ByteArray), 0, false)) else (if 0 ≤ (wrap64 ((x5_36.length : Int) - 1)) then (if (wrap64 ((x5_36.length : Int) - 1)) < (x5_36.length : Int) then ((ontimeref51_value.f kj36 (rdOf ByteArray.empty x5_36 (wrap64 ((x5_36.length : Int) - 1)))).bind fun bt126 => (if bt126.2 = true then (if bt126.1 < 0 then (some (x106000_1, x106001_36, ([] : List Int), (⟨#[]⟩ : ByteArray), 0, false)) else (if (wrap64 ((x5_36.length : Int) - 1)) ≤ (x5_36.length : Int) then (ontimeref51_first.j2 kj36 (x5_36.take ((wrap64 ((x5_36.length : Int) - 1)) : Int).toNat) bt126.1 x106000_1 x106001_36 (⟨#[]⟩ : ByteArray)) else (none))) else (some (x106000_1, x106001_36, ([] : List Int), (⟨#[]⟩ : ByteArray), 0, false)))) else (none)) else (none))) else (ontimeref51_first.j2 kj36 x5_36 0 x106000_1 x106001_36 (⟨#[]⟩ : ByteArray))) = some (r1, r2, r3, r4, r5, r6) := H
                have A62 := Aside0.mk A620
                clear A620
                have HC63 := Aside0.mk H
                clear H
                have hnb64 := NB105_101.out
                have hnc64 := NB101_105.out
                have hcz65_0 : wc.cell? ⟨gb105, 0, none⟩ = some (.int .u8 x106000_1) := (blk_cell BK105.out 0).trans rfl
                have hcz65_1 : wc.cell? ⟨gb105, 1, none⟩ = some (.string x106001_36) := (blk_cell BK105.out 1).trans rfl
                have hcz65_2 : wc.cell? ⟨gb105, 2, none⟩ = some (.slice none 0 0) := (blk_cell BK105.out 2).trans rfl
                have hcz65_3 : wc.cell? ⟨gb105, 3, none⟩ = some (.string (⟨#[]⟩ : ByteArray)) := (blk_cell BK105.out 3).trans rfl
                have hfz65_0 := blk_frozen BK105.out 0
                have hfz65_1 := blk_frozen BK105.out 1
                have hfz65_2 := blk_frozen BK105.out 2
                have hfz65_3 := blk_frozen BK105.out 3
                go_upto_if 63 with (first | ((with_reducible refine gate_callee (f := 64) rfl ?_); refine goesL_ (some 63) rfl rfl Tryd.func64 (by kernel_rfl) rfl #[.int .u8 x106000_1] rfl (by (try simp only [List.map_toArray, List.map_cons, List.map_nil]); first | done | rfl | (simp only [List.length_drop, List.length_take]; rfl)) ?_; (with_reducible refine (ontimeref51_texted.calls x106000_1 t124 _ A62.out).mono ?_); rintro e w' ⟨rfl, ⟨nd, rfl⟩⟩; refine ⟨_, rfl, ?_⟩))
                (try simp only [Act.put, List.setIfInBounds_toArray, List.set_cons_zero, List.set_cons_succ])
                go_cut [5, 8] (fun v5 v8 wc => ∃ (kq : Nat) (x5_62 : List ByteArray) (x8_62 : Int) (x102000_62 : Int) (x102001_62 : ByteArray) (x102003_62 : ByteArray), v8 = .int .i64 x8_62 ∧ Aside0 (ontimeref51_first.j2 kq x5_62 x8_62 x106000_1 x106001_36 (⟨#[]⟩ : ByteArray) = some (r1, r2, r3, r4, r5, r6)) ∧ Aside0 (kq ≤ kj36) ∧ Aside0 (Kd.Q Kd.string 9 wc w.heap.size (fun _ => True) v5 x5_62) ∧ Aside0 (wc.heap[gb101]? = some (.cells #[.int .u8 x102000_62, .string x102001_62, (.slice none 0 0), .string x102003_62] 71 (0, 0))) ∧ Aside0 (wc.heap[gb105]? = some (.cells #[.int .u8 x106000_1, .string x106001_36, (.slice none 0 0), .string (⟨#[]⟩ : ByteArray)] 71 (0, 0))) ∧ Aside0 (Below w.heap.size w wc))
                case first =>
                  have H := HC63.out
                  clear HC63
                  by_cases c66 : t124 = true
                  · subst c66
                    have H1 : (if (x5_36.length : Int) = 0 then (some (x106000_1, x106001_36, ([] : List Int), (⟨#[]⟩ : ByteArray), 0, false)) else (if 0 ≤ (wrap64 ((x5_36.length : Int) - 1)) then (if (wrap64 ((x5_36.length : Int) - 1)) < (x5_36.length : Int) then ((ontimeref51_value.f kj36 (rdOf ByteArray.empty x5_36 (wrap64 ((x5_36.length : Int) - 1)))).bind fun bt126 => (if bt126.2 = true then (if bt126.1 < 0 then (some (x106000_1, x106001_36, ([] : List Int), (⟨#[]⟩ : ByteArray), 0, false)) else (if (wrap64 ((x5_36.length : Int) - 1)) ≤ (x5_36.length : Int) then (ontimeref51_first.j2 kj36 (x5_36.take ((wrap64 ((x5_36.length : Int) - 1)) : Int).toNat) bt126.1 x106000_1 x106001_36 (⟨#[]⟩ : ByteArray)) else (none))) else (some (x106000_1, x106001_36, ([] : List Int), (⟨#[]⟩ : ByteArray), 0, false)))) else (none)) else (none))) = some (r1, r2, r3, r4, r5, r6) := by rw [if_pos rfl] at H; exact H
                    clear H
                    have H := H1
                    clear H1
                    by_cases c67 : (x5_36.length : Int) = 0
                    · rw [if_pos c67] at H
                      have c67b0 : ((x5_36.length : Int) == 0) = true := beq_iff_eq.mpr c67
                      have c67b1 : ((x5_36.length : Int) != 0) = false := bne_eq_false_iff_eq.mpr c67
                      clear c67
                      (first | rw [c67b0] | (simp only [i64_w, i32_w]; rw [c67b0]) | skip)
                      simp only [Option.some.injEq, Prod.mk.injEq] at H
                      obtain ⟨rfl, rfl, rfl, rfl, rfl, rfl⟩ := H
                      obtain ⟨Ao68, co68, eo68, _⟩ := Kd.Q_slice HO_5.out
                      subst eo68
                      have hnb69 := NB105_101.out
                      have hnc69 := NB101_105.out
                      have hcz70_0 : wc.cell? ⟨gb105, 0, none⟩ = some (.int .u8 x106000_1) := (blk_cell BK105.out 0).trans rfl
                      have hcz70_1 : wc.cell? ⟨gb105, 1, none⟩ = some (.string x106001_36) := (blk_cell BK105.out 1).trans rfl
                      have hcz70_2 : wc.cell? ⟨gb105, 2, none⟩ = some (.slice none 0 0) := (blk_cell BK105.out 2).trans rfl
                      have hcz70_3 : wc.cell? ⟨gb105, 3, none⟩ = some (.string (⟨#[]⟩ : ByteArray)) := (blk_cell BK105.out 3).trans rfl
                      have hfz70_0 := blk_frozen BK105.out 0
                      have hfz70_1 := blk_frozen BK105.out 1
                      have hfz70_2 := blk_frozen BK105.out 2
                      have hfz70_3 := blk_frozen BK105.out 3
                      have hcz71_0 : wc.cell? ⟨gb101, 0, none⟩ = some (.int .u8 x102000_36) := (blk_cell BK101.out 0).trans rfl
                      have hcz71_1 : wc.cell? ⟨gb101, 1, none⟩ = some (.string x102001_36) := (blk_cell BK101.out 1).trans rfl
                      have hcz71_2 : wc.cell? ⟨gb101, 2, none⟩ = some (.slice none 0 0) := (blk_cell BK101.out 2).trans rfl
                      have hcz71_3 : wc.cell? ⟨gb101, 3, none⟩ = some (.string x102003_36) := (blk_cell BK101.out 3).trans rfl
                      have hfz71_0 := blk_frozen BK101.out 0
                      have hfz71_1 := blk_frozen BK101.out 1
                      have hfz71_2 := blk_frozen BK101.out 2
                      have hfz71_3 := blk_frozen BK101.out 3
                      go_wp2
                      refine bodyPost_ret (results_ctt rfl _ _ gb101 71 #[.int .u8 x106000_1, .string x106001_36, .slice none 0 0, .string (⟨#[]⟩ : ByteArray)] (0, 0) _ rfl (by (with_reducible repeat (first | refine blk_drewN ?_ _ | refine blk_drew ?_ | refine blk_alloc ?_ _)); refine blk_put (cs := #[.int .u8 x106000_1, .string x106001_36, .slice none 0 0, .string x102003_36]) ?_ 3 _ rfl; (with_reducible repeat (first | refine blk_drewN ?_ _ | refine blk_drew ?_ | refine blk_alloc ?_ _)); refine blk_put (cs := #[.int .u8 x106000_1, .string x106001_36, .slice none 0 0, .string x102003_36]) ?_ 2 _ rfl; (with_reducible repeat (first | refine blk_drewN ?_ _ | refine blk_drew ?_ | refine blk_alloc ?_ _)); refine blk_put (cs := #[.int .u8 x106000_1, .string x102001_36, .slice none 0 0, .string x102003_36]) ?_ 1 _ rfl; (with_reducible repeat (first | refine blk_drewN ?_ _ | refine blk_drew ?_ | refine blk_alloc ?_ _)); refine blk_put (cs := #[.int .u8 x102000_36, .string x102001_36, .slice none 0 0, .string x102003_36]) ?_ 0 _ rfl; (with_reducible repeat (first | refine blk_drewN ?_ _ | refine blk_drew ?_ | refine blk_alloc ?_ _)); exact BK101.out) Tryd.underlying71 rfl (by kernel_rfl)) rfl ?_
                      exact ⟨_, by first | rfl | (simp [errW_none, errW_some] <;> rfl) | (simp [*, errW_none, errW_some] <;> rfl), by first | exact Kd.R_nil _ _ _ _ _ | exact Kd.N_nil _ _ _ _ _ | exact Kd.V_nil _ _ _ _ _ | exact Kd.Q_nil _ _ _ _ _ | exact Kd.S_nil _ _ _ _ _, by repeat (first | (with_reducible first | exact HB.out | apply below_alloc | apply pw_below_drewN | apply below_drew1 | refine below_set ?_ GE101.out | refine below_set ?_ GE105.out) | exact HB.out)⟩
                    · rw [if_neg c67] at H
                      have c67b0 : ((x5_36.length : Int) == 0) = false := beq_eq_false_iff_ne.mpr c67
                      have c67b1 : ((x5_36.length : Int) != 0) = true := bne_iff_ne.mpr c67
                      have c67b2 : ¬ (x5_36 = []) := fun h_ => c67 (by rw [h_]; rfl)
                      (first | rw [c67b0] | (simp only [i64_w, i32_w]; rw [c67b0]) | skip)
                      obtain ⟨ji72, hji72⟩ : ∃ j_ : Int, (wrap64 ((x5_36.length : Int) - 1)) = j_ := ⟨_, rfl⟩
                      replace H : (if 0 ≤ (ji72) then (if (ji72) < (x5_36.length : Int) then ((ontimeref51_value.f kj36 (rdOf ByteArray.empty x5_36 (ji72))).bind fun bt126 => (if bt126.2 = true then (if bt126.1 < 0 then (some (x106000_1, x106001_36, ([] : List Int), (⟨#[]⟩ : ByteArray), 0, false)) else (if (ji72) ≤ (x5_36.length : Int) then (ontimeref51_first.j2 kj36 (x5_36.take ((ji72) : Int).toNat) bt126.1 x106000_1 x106001_36 (⟨#[]⟩ : ByteArray)) else (none))) else (some (x106000_1, x106001_36, ([] : List Int), (⟨#[]⟩ : ByteArray), 0, false)))) else (none)) else (none)) = some (r1, r2, r3, r4, r5, r6) := by first | (rw [hji72] at H; exact H) | (simp only [hji72] at H ⊢; exact H)
                      have hji72w : (IntKind.i64.wrap ((x5_36.length : Int) - 1)) = ji72 := (i64_w _).trans hji72
                      by_cases c73 : 0 ≤ (ji72)
                      · rw [if_pos c73] at H
                        have c73b0 : decide (0 ≤ (ji72)) = true := decide_eq_true c73
                        clear c73
                        by_cases c74 : (ji72) < (x5_36.length : Int)
                        · rw [if_pos c74] at H
                          have c74b0 : decide ((ji72) < (x5_36.length : Int)) = true := decide_eq_true c74
                          clear c74
                          replace H := Option.bind_eq_some_iff.mp H
                          obtain ⟨⟨t126, t127⟩, A750, H⟩ := H
                          replace H : (if t127 = true then (if t126 < 0 then (some (x106000_1, x106001_36, ([] : List Int), (⟨#[]⟩ : ByteArray), 0, false)) else (if (ji72) ≤ (x5_36.length : Int) then (ontimeref51_first.j2 kj36 (x5_36.take ((ji72) : Int).toNat) t126 x106000_1 x106001_36 (⟨#[]⟩ : ByteArray)) else (none))) else (some (x106000_1, x106001_36, ([] : List Int), (⟨#[]⟩ : ByteArray), 0, false))) = some (r1, r2, r3, r4, r5, r6) := H
                          have A75 := Aside0.mk A750
                          clear A750
                          by_cases c76 : t127 = true
                          · subst c76
                            have H1 : (if t126 < 0 then (some (x106000_1, x106001_36, ([] : List Int), (⟨#[]⟩ : ByteArray), 0, false)) else (if (ji72) ≤ (x5_36.length : Int) then (ontimeref51_first.j2 kj36 (x5_36.take ((ji72) : Int).toNat) t126 x106000_1 x106001_36 (⟨#[]⟩ : ByteArray)) else (none))) = some (r1, r2, r3, r4, r5, r6) := by rw [if_pos rfl] at H; exact H
                            clear H
                            have H := H1
                            clear H1
                            by_cases c77 : t126 < 0
                            · rw [if_pos c77] at H
                              have c77b0 : decide (t126 < 0) = true := decide_eq_true c77
                              clear c77
                              simp only [Option.some.injEq, Prod.mk.injEq] at H
                              obtain ⟨rfl, rfl, rfl, rfl, rfl, rfl⟩ := H
                              obtain ⟨Ao78, co78, eo78, _⟩ := Kd.Q_slice HO_5.out
                              subst eo78
                              have p125 : 0 ≤ ((ji72) : Int) := of_decide_eq_true (by first | (with_reducible assumption) | assumption)
                              have q125 : (ji72) < (x5_36.length : Int) := of_decide_eq_true (by first | (with_reducible assumption) | assumption)
                              obtain ⟨ad125, e125, hx125_0⟩ := Kd.at_string (Kd.Q_reads' HO_5.out).2.2 (ji72) p125 q125
                              cases e125
                              replace p125 := eq_true p125
                              replace q125 := eq_true q125
                              go_wp2_with (first | ((with_reducible refine gate_callee (f := 65) rfl ?_); refine goesL_ (some 75) rfl rfl Tryd.func65 (by kernel_rfl) rfl #[.string (rdOf ByteArray.empty x5_36 (ji72))] rfl (by (try simp only [List.map_toArray, List.map_cons, List.map_nil]); first | done | (simp only [hji72]; rfl) | rfl | (simp only [List.length_drop, List.length_take]; rfl)) ?_; (with_reducible refine (ontimeref51_value.calls kj36 (rdOf ByteArray.empty x5_36 (ji72)) t126 true _ A75.out).mono ?_); rintro e w79 ⟨rfl, hb⟩; refine ⟨_, rfl, ?_⟩; have n0_ := Aside0.mk (Kd.Q_below (by (with_reducible repeat (first | apply Kd.Q_alloc | apply Kd.Q_drewN | apply Kd.Q_drew)); exact HO_5.out) hb); have n1_ := Aside0.mk (blk_below (g := gb101) (o := .cells #[.int .u8 x102000_36, .string x102001_36, .slice none 0 0, .string x102003_36] 71 (0, 0)) (by (with_reducible repeat (first | refine blk_drewN ?_ _ | refine blk_drew ?_ | refine blk_alloc ?_ _)); exact BK101.out) hb); have n2_ := Aside0.mk (blk_below (g := gb105) (o := .cells #[.int .u8 x106000_1, .string x106001_36, .slice none 0 0, .string (⟨#[]⟩ : ByteArray)] 71 (0, 0)) (by (with_reducible repeat (first | refine blk_drewN ?_ _ | refine blk_drew ?_ | refine blk_alloc ?_ _)); exact BK105.out) hb); have n3_ := Aside0.mk (below_step (by repeat (first | (with_reducible first | exact HB.out | apply below_alloc | apply pw_below_drewN | apply below_drew1 | refine below_set ?_ GE101.out | refine below_set ?_ GE105.out) | exact HB.out)) hb); clear HO_5; clear BK101; clear BK105; clear HB; have HO_5 := n0_; have BK101 := n1_; have BK105 := n2_; have HB := n3_; clear n0_ n1_ n2_ n3_; (try clear hb); (try clear hb2); (try clear hk); (try clear hi); have hnb80 := NB105_101.out; have hnc80 := NB101_105.out; have hcz81_0 : w79.cell? ⟨gb105, 0, none⟩ = some (.int .u8 x106000_1) := (blk_cell BK105.out 0).trans rfl; have hcz81_1 : w79.cell? ⟨gb105, 1, none⟩ = some (.string x106001_36) := (blk_cell BK105.out 1).trans rfl; have hcz81_2 : w79.cell? ⟨gb105, 2, none⟩ = some (.slice none 0 0) := (blk_cell BK105.out 2).trans rfl; have hcz81_3 : w79.cell? ⟨gb105, 3, none⟩ = some (.string (⟨#[]⟩ : ByteArray)) := (blk_cell BK105.out 3).trans rfl; have hfz81_0 := blk_frozen BK105.out 0; have hfz81_1 := blk_frozen BK105.out 1; have hfz81_2 := blk_frozen BK105.out 2; have hfz81_3 := blk_frozen BK105.out 3; have hcz82_0 : w79.cell? ⟨gb101, 0, none⟩ = some (.int .u8 x102000_36) := (blk_cell BK101.out 0).trans rfl; have hcz82_1 : w79.cell? ⟨gb101, 1, none⟩ = some (.string x102001_36) := (blk_cell BK101.out 1).trans rfl; have hcz82_2 : w79.cell? ⟨gb101, 2, none⟩ = some (.slice none 0 0) := (blk_cell BK101.out 2).trans rfl; have hcz82_3 : w79.cell? ⟨gb101, 3, none⟩ = some (.string x102003_36) := (blk_cell BK101.out 3).trans rfl; have hfz82_0 := blk_frozen BK101.out 0; have hfz82_1 := blk_frozen BK101.out 1; have hfz82_2 := blk_frozen BK101.out 2; have hfz82_3 := blk_frozen BK101.out 3))
                              refine bodyPost_ret (results_ctt rfl _ _ gb101 71 #[.int .u8 x106000_1, .string x106001_36, .slice none 0 0, .string (⟨#[]⟩ : ByteArray)] (0, 0) _ rfl (by (with_reducible repeat (first | refine blk_drewN ?_ _ | refine blk_drew ?_ | refine blk_alloc ?_ _)); refine blk_put (cs := #[.int .u8 x106000_1, .string x106001_36, .slice none 0 0, .string x102003_36]) ?_ 3 _ rfl; (with_reducible repeat (first | refine blk_drewN ?_ _ | refine blk_drew ?_ | refine blk_alloc ?_ _)); refine blk_put (cs := #[.int .u8 x106000_1, .string x106001_36, .slice none 0 0, .string x102003_36]) ?_ 2 _ rfl; (with_reducible repeat (first | refine blk_drewN ?_ _ | refine blk_drew ?_ | refine blk_alloc ?_ _)); refine blk_put (cs := #[.int .u8 x106000_1, .string x102001_36, .slice none 0 0, .string x102003_36]) ?_ 1 _ rfl; (with_reducible repeat (first | refine blk_drewN ?_ _ | refine blk_drew ?_ | refine blk_alloc ?_ _)); refine blk_put (cs := #[.int .u8 x102000_36, .string x102001_36, .slice none 0 0, .string x102003_36]) ?_ 0 _ rfl; (with_reducible repeat (first | refine blk_drewN ?_ _ | refine blk_drew ?_ | refine blk_alloc ?_ _)); exact BK101.out) Tryd.underlying71 rfl (by kernel_rfl)) rfl ?_
                              exact ⟨_, by first | rfl | (simp [errW_none, errW_some] <;> rfl) | (simp only [← hji72]; first | rfl | (simp [errW_none, errW_some] <;> rfl)) | (simp [*, errW_none, errW_some] <;> rfl), by first | exact Kd.R_nil _ _ _ _ _ | exact Kd.N_nil _ _ _ _ _ | exact Kd.V_nil _ _ _ _ _ | exact Kd.Q_nil _ _ _ _ _ | exact Kd.S_nil _ _ _ _ _, by repeat (first | (with_reducible first | exact HB.out | apply below_alloc | apply pw_below_drewN | apply below_drew1 | refine below_set ?_ GE101.out | refine below_set ?_ GE105.out) | exact HB.out)⟩
                            · rw [if_neg c77] at H
                              have c77b0 : decide (t126 < 0) = false := decide_eq_false c77
                              clear c77
                              by_cases c83 : (ji72) ≤ (x5_36.length : Int)
                              · rw [if_pos c83] at H
                                have c83b0 := eq_true c83
                                have c83b1 : decide ((ji72) ≤ (x5_36.length : Int)) = true := decide_eq_true c83
                                clear c83
                                obtain ⟨y128, hy128⟩ : ∃ y_ : List ByteArray, y_ = (x5_36.take ((ji72) : Int).toNat) := ⟨_, rfl⟩
                                replace H : (ontimeref51_first.j2 kj36 y128 t126 x106000_1 x106001_36 (⟨#[]⟩ : ByteArray)) = some (r1, r2, r3, r4, r5, r6) := by first | (rw [hy128]; with_reducible exact H) | (have H2_ := (Option.bind_some _ _).symm.trans H; rw [hy128]; with_reducible exact H2_) | (have H2_ := (Option.bind_some _ _).symm.trans H; with_reducible exact H2_) | with_reducible exact H | (rw [hy128]; exact H) | exact H
                                have Ny128 := Aside0.mk hy128
                                clear hy128
                                have H' := Aside0.mk H
                                clear H
                                obtain ⟨Ao84, co84, eo84, _⟩ := Kd.Q_slice HO_5.out
                                subst eo84
                                have p125 : 0 ≤ ((ji72) : Int) := of_decide_eq_true (by first | (with_reducible assumption) | assumption)
                                have q125 : (ji72) < (x5_36.length : Int) := of_decide_eq_true (by first | (with_reducible assumption) | assumption)
                                obtain ⟨ad125, e125, hx125_0⟩ := Kd.at_string (Kd.Q_reads' HO_5.out).2.2 (ji72) p125 q125
                                cases e125
                                replace p125 := eq_true p125
                                replace q125 := eq_true q125
                                go_wp2_with (first | ((with_reducible refine gate_callee (f := 65) rfl ?_); refine goesL_ (some 75) rfl rfl Tryd.func65 (by kernel_rfl) rfl #[.string (rdOf ByteArray.empty x5_36 (ji72))] rfl (by (try simp only [List.map_toArray, List.map_cons, List.map_nil]); first | done | (simp only [hji72]; rfl) | rfl | (simp only [List.length_drop, List.length_take]; rfl)) ?_; (with_reducible refine (ontimeref51_value.calls kj36 (rdOf ByteArray.empty x5_36 (ji72)) t126 true _ A75.out).mono ?_); rintro e w85 ⟨rfl, hb⟩; refine ⟨_, rfl, ?_⟩; have n0_ := Aside0.mk (Kd.Q_below (by (with_reducible repeat (first | apply Kd.Q_alloc | apply Kd.Q_drewN | apply Kd.Q_drew)); exact HO_5.out) hb); have n1_ := Aside0.mk (blk_below (g := gb101) (o := .cells #[.int .u8 x102000_36, .string x102001_36, .slice none 0 0, .string x102003_36] 71 (0, 0)) (by (with_reducible repeat (first | refine blk_drewN ?_ _ | refine blk_drew ?_ | refine blk_alloc ?_ _)); exact BK101.out) hb); have n2_ := Aside0.mk (blk_below (g := gb105) (o := .cells #[.int .u8 x106000_1, .string x106001_36, .slice none 0 0, .string (⟨#[]⟩ : ByteArray)] 71 (0, 0)) (by (with_reducible repeat (first | refine blk_drewN ?_ _ | refine blk_drew ?_ | refine blk_alloc ?_ _)); exact BK105.out) hb); have n3_ := Aside0.mk (below_step (by repeat (first | (with_reducible first | exact HB.out | apply below_alloc | apply pw_below_drewN | apply below_drew1 | refine below_set ?_ GE101.out | refine below_set ?_ GE105.out) | exact HB.out)) hb); clear HO_5; clear BK101; clear BK105; clear HB; have HO_5 := n0_; have BK101 := n1_; have BK105 := n2_; have HB := n3_; clear n0_ n1_ n2_ n3_; (try clear hb); (try clear hb2); (try clear hk); (try clear hi); have q86 : ((ji72) : Int) ≤ ((x5_36.length : Int) : Int) := of_decide_eq_true (by first | (with_reducible assumption) | assumption); obtain ⟨i086, hi086, _, hsz86, _⟩ := info_parts info9; have hcut86 := cut_to (P := Tryd.prog) 34 9 .i64 Tryd.underlying34 hi086 (some ad125) x5_36.length co84 (ji72) (of_decide_eq_true (by first | (with_reducible assumption) | assumption)) q86 (Kd.Q_reads' HO_5.out).2.1; have hr86 := Kd.Q_take (m := ((ji72) : Int).toNat) HO_5.out (by omega); have hy86 : y128.length = ((ji72) : Int).toNat := (by rw [Ny128.out, List.length_take]; omega); rw [← Ny128.out] at hr86; rw [← hy86] at hr86 hcut86; clear hy86 hi086 hsz86 HO_5; have HO130 := Aside0.mk hr86; clear hr86; replace q86 := eq_true q86))
                                go_meet
                                case rel => exact ⟨_, (y128), (t126), (x102000_36), (x102001_36), (x102003_36), (by first | rfl | (simp; done) | (simp [*]; done)), H', ⟨by have := HK1.out; have := HJ36.out; first | omega | exact Nat.le_refl _⟩, ⟨by (with_reducible repeat (first | apply Kd.Q_alloc | apply Kd.Q_drewN | apply Kd.Q_drew)); exact HO130.out⟩, ⟨by (with_reducible repeat (first | refine blk_drewN ?_ _ | refine blk_drew ?_ | refine blk_alloc ?_ _)); exact BK101.out⟩, ⟨by (with_reducible repeat (first | refine blk_drewN ?_ _ | refine blk_drew ?_ | refine blk_alloc ?_ _)); exact BK105.out⟩, ⟨by repeat (first | (with_reducible first | exact HB.out | apply below_alloc | apply pw_below_drewN | apply below_drew1 | refine below_set ?_ GE101.out | refine below_set ?_ GE105.out) | exact HB.out)⟩⟩
                              · rw [if_neg c83] at H
                                exact absurd H (by simp)
                          · replace c76 := Bool.eq_false_iff.mpr c76
                            subst c76
                            have H1 : (some (x106000_1, x106001_36, ([] : List Int), (⟨#[]⟩ : ByteArray), 0, false)) = some (r1, r2, r3, r4, r5, r6) := by rw [if_neg (show ¬ (false = true) by decide)] at H; exact H
                            clear H
                            have H := H1
                            clear H1
                            simp only [Option.some.injEq, Prod.mk.injEq] at H
                            obtain ⟨rfl, rfl, rfl, rfl, rfl, rfl⟩ := H
                            obtain ⟨Ao87, co87, eo87, _⟩ := Kd.Q_slice HO_5.out
                            subst eo87
                            have p125 : 0 ≤ ((ji72) : Int) := of_decide_eq_true (by first | (with_reducible assumption) | assumption)
                            have q125 : (ji72) < (x5_36.length : Int) := of_decide_eq_true (by first | (with_reducible assumption) | assumption)
                            obtain ⟨ad125, e125, hx125_0⟩ := Kd.at_string (Kd.Q_reads' HO_5.out).2.2 (ji72) p125 q125
                            cases e125
                            replace p125 := eq_true p125
                            replace q125 := eq_true q125
                            go_wp2_with (first | ((with_reducible refine gate_callee (f := 65) rfl ?_); refine goesL_ (some 75) rfl rfl Tryd.func65 (by kernel_rfl) rfl #[.string (rdOf ByteArray.empty x5_36 (ji72))] rfl (by (try simp only [List.map_toArray, List.map_cons, List.map_nil]); first | done | (simp only [hji72]; rfl) | rfl | (simp only [List.length_drop, List.length_take]; rfl)) ?_; (with_reducible refine (ontimeref51_value.calls kj36 (rdOf ByteArray.empty x5_36 (ji72)) t126 false _ A75.out).mono ?_); rintro e w88 ⟨rfl, hb⟩; refine ⟨_, rfl, ?_⟩; have n0_ := Aside0.mk (Kd.Q_below (by (with_reducible repeat (first | apply Kd.Q_alloc | apply Kd.Q_drewN | apply Kd.Q_drew)); exact HO_5.out) hb); have n1_ := Aside0.mk (blk_below (g := gb101) (o := .cells #[.int .u8 x102000_36, .string x102001_36, .slice none 0 0, .string x102003_36] 71 (0, 0)) (by (with_reducible repeat (first | refine blk_drewN ?_ _ | refine blk_drew ?_ | refine blk_alloc ?_ _)); exact BK101.out) hb); have n2_ := Aside0.mk (blk_below (g := gb105) (o := .cells #[.int .u8 x106000_1, .string x106001_36, .slice none 0 0, .string (⟨#[]⟩ : ByteArray)] 71 (0, 0)) (by (with_reducible repeat (first | refine blk_drewN ?_ _ | refine blk_drew ?_ | refine blk_alloc ?_ _)); exact BK105.out) hb); have n3_ := Aside0.mk (below_step (by repeat (first | (with_reducible first | exact HB.out | apply below_alloc | apply pw_below_drewN | apply below_drew1 | refine below_set ?_ GE101.out | refine below_set ?_ GE105.out) | exact HB.out)) hb); clear HO_5; clear BK101; clear BK105; clear HB; have HO_5 := n0_; have BK101 := n1_; have BK105 := n2_; have HB := n3_; clear n0_ n1_ n2_ n3_; (try clear hb); (try clear hb2); (try clear hk); (try clear hi); have hnb89 := NB105_101.out; have hnc89 := NB101_105.out; have hcz90_0 : w88.cell? ⟨gb105, 0, none⟩ = some (.int .u8 x106000_1) := (blk_cell BK105.out 0).trans rfl; have hcz90_1 : w88.cell? ⟨gb105, 1, none⟩ = some (.string x106001_36) := (blk_cell BK105.out 1).trans rfl; have hcz90_2 : w88.cell? ⟨gb105, 2, none⟩ = some (.slice none 0 0) := (blk_cell BK105.out 2).trans rfl; have hcz90_3 : w88.cell? ⟨gb105, 3, none⟩ = some (.string (⟨#[]⟩ : ByteArray)) := (blk_cell BK105.out 3).trans rfl; have hfz90_0 := blk_frozen BK105.out 0; have hfz90_1 := blk_frozen BK105.out 1; have hfz90_2 := blk_frozen BK105.out 2; have hfz90_3 := blk_frozen BK105.out 3; have hcz91_0 : w88.cell? ⟨gb101, 0, none⟩ = some (.int .u8 x102000_36) := (blk_cell BK101.out 0).trans rfl; have hcz91_1 : w88.cell? ⟨gb101, 1, none⟩ = some (.string x102001_36) := (blk_cell BK101.out 1).trans rfl; have hcz91_2 : w88.cell? ⟨gb101, 2, none⟩ = some (.slice none 0 0) := (blk_cell BK101.out 2).trans rfl; have hcz91_3 : w88.cell? ⟨gb101, 3, none⟩ = some (.string x102003_36) := (blk_cell BK101.out 3).trans rfl; have hfz91_0 := blk_frozen BK101.out 0; have hfz91_1 := blk_frozen BK101.out 1; have hfz91_2 := blk_frozen BK101.out 2; have hfz91_3 := blk_frozen BK101.out 3))
                            refine bodyPost_ret (results_ctt rfl _ _ gb101 71 #[.int .u8 x106000_1, .string x106001_36, .slice none 0 0, .string (⟨#[]⟩ : ByteArray)] (0, 0) _ rfl (by (with_reducible repeat (first | refine blk_drewN ?_ _ | refine blk_drew ?_ | refine blk_alloc ?_ _)); refine blk_put (cs := #[.int .u8 x106000_1, .string x106001_36, .slice none 0 0, .string x102003_36]) ?_ 3 _ rfl; (with_reducible repeat (first | refine blk_drewN ?_ _ | refine blk_drew ?_ | refine blk_alloc ?_ _)); refine blk_put (cs := #[.int .u8 x106000_1, .string x106001_36, .slice none 0 0, .string x102003_36]) ?_ 2 _ rfl; (with_reducible repeat (first | refine blk_drewN ?_ _ | refine blk_drew ?_ | refine blk_alloc ?_ _)); refine blk_put (cs := #[.int .u8 x106000_1, .string x102001_36, .slice none 0 0, .string x102003_36]) ?_ 1 _ rfl; (with_reducible repeat (first | refine blk_drewN ?_ _ | refine blk_drew ?_ | refine blk_alloc ?_ _)); refine blk_put (cs := #[.int .u8 x102000_36, .string x102001_36, .slice none 0 0, .string x102003_36]) ?_ 0 _ rfl; (with_reducible repeat (first | refine blk_drewN ?_ _ | refine blk_drew ?_ | refine blk_alloc ?_ _)); exact BK101.out) Tryd.underlying71 rfl (by kernel_rfl)) rfl ?_
                            exact ⟨_, by first | rfl | (simp [errW_none, errW_some] <;> rfl) | (simp only [← hji72]; first | rfl | (simp [errW_none, errW_some] <;> rfl)) | (simp [*, errW_none, errW_some] <;> rfl), by first | exact Kd.R_nil _ _ _ _ _ | exact Kd.N_nil _ _ _ _ _ | exact Kd.V_nil _ _ _ _ _ | exact Kd.Q_nil _ _ _ _ _ | exact Kd.S_nil _ _ _ _ _, by repeat (first | (with_reducible first | exact HB.out | apply below_alloc | apply pw_below_drewN | apply below_drew1 | refine below_set ?_ GE101.out | refine below_set ?_ GE105.out) | exact HB.out)⟩
                        · rw [if_neg c74] at H
                          exact absurd H (by simp)
                      · rw [if_neg c73] at H
                        exact absurd H (by simp)
                  · replace c66 := Bool.eq_false_iff.mpr c66
                    subst c66
                    have H1 : (ontimeref51_first.j2 kj36 x5_36 0 x106000_1 x106001_36 (⟨#[]⟩ : ByteArray)) = some (r1, r2, r3, r4, r5, r6) := by rw [if_neg (show ¬ (false = true) by decide)] at H; exact H
                    clear H
                    have H := H1
                    clear H1
                    have H' := Aside0.mk H
                    clear H
                    go_wp2
                    go_meet
                    case rel => exact ⟨_, (x5_36), (0), (x102000_36), (x102001_36), (x102003_36), (by first | rfl | (simp; done) | (simp [*]; done)), H', ⟨by have := HK1.out; have := HJ36.out; first | omega | exact Nat.le_refl _⟩, ⟨by (with_reducible repeat (first | apply Kd.Q_alloc | apply Kd.Q_drewN | apply Kd.Q_drew)); exact HO_5.out⟩, ⟨by (with_reducible repeat (first | refine blk_drewN ?_ _ | refine blk_drew ?_ | refine blk_alloc ?_ _)); exact BK101.out⟩, ⟨by (with_reducible repeat (first | refine blk_drewN ?_ _ | refine blk_drew ?_ | refine blk_alloc ?_ _)); exact BK105.out⟩, ⟨by repeat (first | (with_reducible first | exact HB.out | apply below_alloc | apply pw_below_drewN | apply below_drew1 | refine below_set ?_ GE101.out | refine below_set ?_ GE105.out) | exact HB.out)⟩⟩
                case rest =>
                  clear HC63
                  try clear c1
                  try clear p1
                  try clear q1
                  try clear hx1
                  try clear qi1
                  try clear c2
                  try clear p2
                  try clear c3
                  try clear c4
                  try clear q4
                  try clear c5
                  try clear q5
                  try clear c6
                  try clear p6
                  try clear c7
                  try clear c8
                  try clear q8
                  try clear c9
                  try clear c9b0
                  try clear c11
                  try clear c11b0
                  try clear p11
                  try clear q11
                  try clear hx11
                  try clear qi11
                  try clear c12
                  try clear c12b0
                  try clear p12
                  try clear q12
                  try clear hx12
                  try clear qi12
                  try clear c13
                  try clear c13b0
                  try clear c13b1
                  try clear c14
                  try clear c14b0
                  try clear c14b1
                  try clear c21
                  try clear c29
                  try clear c29b0
                  try clear c29b1
                  try clear c32
                  try clear c35
                  try clear c35b0
                  try clear c35b1
                  try clear c37
                  try clear c40
                  try clear c43
                  try clear q43
                  try clear c44
                  try clear c45
                  try clear c45b0
                  try clear c45b1
                  try clear c45b2
                  try clear c46
                  try clear c49
                  try clear c49b0
                  try clear c49b1
                  try clear c51
                  try clear c52
                  try clear c52b0
                  try clear c52b1
                  try clear c54
                  try clear c57
                  try clear q57
                  try clear c59
                  try clear c60
                  try clear c61
                  try clear c62
                  try clear c64
                  try clear p64
                  try clear c65
                  try clear c66
                  try clear c67
                  try clear c67b0
                  try clear c67b1
                  try clear c67b2
                  try clear c69
                  try clear c73
                  try clear c73b0
                  try clear c74
                  try clear c74b0
                  try clear c76
                  try clear c77
                  try clear c77b0
                  try clear c80
                  try clear c83
                  try clear c83b0
                  try clear c83b1
                  try clear q86
                  try clear c89
                  try clear hcz22_0
                  try clear hcz22_1
                  try clear hcz22_2
                  try clear hcz22_3
                  try clear hcz33_0
                  try clear hcz33_1
                  try clear hcz33_2
                  try clear hcz33_3
                  try clear hcz34_0
                  try clear hcz34_1
                  try clear hcz34_2
                  try clear hcz34_3
                  try clear hcz41_0
                  try clear hcz41_1
                  try clear hcz41_2
                  try clear hcz41_3
                  try clear hcz47_0
                  try clear hcz47_1
                  try clear hcz47_2
                  try clear hcz47_3
                  try clear hcz48_0
                  try clear hcz48_1
                  try clear hcz48_2
                  try clear hcz48_3
                  try clear hcz55_0
                  try clear hcz55_1
                  try clear hcz55_2
                  try clear hcz55_3
                  try clear hcz60_0
                  try clear hcz60_1
                  try clear hcz60_2
                  try clear hcz60_3
                  try clear hcz61_0
                  try clear hcz61_1
                  try clear hcz61_2
                  try clear hcz61_3
                  try clear hcz65_0
                  try clear hcz65_1
                  try clear hcz65_2
                  try clear hcz65_3
                  try clear hcz70_0
                  try clear hcz70_1
                  try clear hcz70_2
                  try clear hcz70_3
                  try clear hcz71_0
                  try clear hcz71_1
                  try clear hcz71_2
                  try clear hcz71_3
                  try clear hcz7_0
                  try clear hcz7_1
                  try clear hcz7_2
                  try clear hcz7_3
                  try clear hcz81_0
                  try clear hcz81_1
                  try clear hcz81_2
                  try clear hcz81_3
                  try clear hcz82_0
                  try clear hcz82_1
                  try clear hcz82_2
                  try clear hcz82_3
                  try clear hcz90_0
                  try clear hcz90_1
                  try clear hcz90_2
                  try clear hcz90_3
                  try clear hcz91_0
                  try clear hcz91_1
                  try clear hcz91_2
                  try clear hcz91_3
                  try clear hfz22_0
                  try clear hfz22_1
                  try clear hfz22_2
                  try clear hfz22_3
                  try clear hfz33_0
                  try clear hfz33_1
                  try clear hfz33_2
                  try clear hfz33_3
                  try clear hfz34_0
                  try clear hfz34_1
                  try clear hfz34_2
                  try clear hfz34_3
                  try clear hfz41_0
                  try clear hfz41_1
                  try clear hfz41_2
                  try clear hfz41_3
                  try clear hfz47_0
                  try clear hfz47_1
                  try clear hfz47_2
                  try clear hfz47_3
                  try clear hfz48_0
                  try clear hfz48_1
                  try clear hfz48_2
                  try clear hfz48_3
                  try clear hfz55_0
                  try clear hfz55_1
                  try clear hfz55_2
                  try clear hfz55_3
                  try clear hfz60_0
                  try clear hfz60_1
                  try clear hfz60_2
                  try clear hfz60_3
                  try clear hfz61_0
                  try clear hfz61_1
                  try clear hfz61_2
                  try clear hfz61_3
                  try clear hfz65_0
                  try clear hfz65_1
                  try clear hfz65_2
                  try clear hfz65_3
                  try clear hfz70_0
                  try clear hfz70_1
                  try clear hfz70_2
                  try clear hfz70_3
                  try clear hfz71_0
                  try clear hfz71_1
                  try clear hfz71_2
                  try clear hfz71_3
                  try clear hfz7_0
                  try clear hfz7_1
                  try clear hfz7_2
                  try clear hfz7_3
                  try clear hfz81_0
                  try clear hfz81_1
                  try clear hfz81_2
                  try clear hfz81_3
                  try clear hfz82_0
                  try clear hfz82_1
                  try clear hfz82_2
                  try clear hfz82_3
                  try clear hfz90_0
                  try clear hfz90_1
                  try clear hfz90_2
                  try clear hfz90_3
                  try clear hfz91_0
                  try clear hfz91_1
                  try clear hfz91_2
                  try clear hfz91_3
                  try clear hx112_0
                  try clear hx113_0
                  try clear hx118_0
                  try clear hx120_0
                  try clear hx125_0
                  try clear p1
                  try clear p11
                  try clear p112
                  try clear p113
                  try clear p118
                  try clear p12
                  try clear p120
                  try clear p125
                  try clear p2
                  try clear p6
                  try clear q1
                  try clear q11
                  try clear q112
                  try clear q113
                  try clear q118
                  try clear q12
                  try clear q120
                  try clear q125
                  try clear q4
                  try clear q43
                  try clear q5
                  try clear q57
                  try clear q86
                  obtain ⟨kq, x5_62, x8_62, x102000_62, x102001_62, x102003_62, rfl, HA, HJ62, HO_5, BK101, BK105, HB⟩ := hcut
                  cases kq with
                  | zero => exact absurd HA.out (by simp [ontimeref51_first.j2])
                  | succ kj62 =>
                    have H := HA.out
                    clear HA
                    simp only [ontimeref51_first.j2] at H
                    have H' := Aside0.mk H
                    clear H
                    go_wp2
                    go_loopg [11] kj62 (fun kq v11 w' => ∃ (x11_4 : Int) (x102000_4 : Int) (x102001_4 : ByteArray) (x102003_4 : ByteArray) (x106002_4 : List Int) (u106002 : Value), v11 = .int .i64 x11_4 ∧ Aside0 (ontimeref51_first.l1 kq x5_62 x8_62 x11_4 x106000_1 x106001_36 x106002_4 (⟨#[]⟩ : ByteArray) = some (r1, r2, r3, r4, r5, r6)) ∧ Aside0 (kq ≤ kj62) ∧ Aside0 (Kd.Q Kd.string 9 w' w.heap.size (fun _ => True) u5 x5_62) ∧ Aside0 (Kd.R (Kd.int .i64) 3 w' w.heap.size (fun _ => True) u106002 x106002_4) ∧ Aside0 (w'.heap[gb101]? = some (.cells #[.int .u8 x102000_4, .string x102001_4, (.slice none 0 0), .string x102003_4] 71 (0, 0))) ∧ Aside0 (w'.heap[gb105]? = some (.cells #[.int .u8 x106000_1, .string x106001_36, u106002, .string (⟨#[]⟩ : ByteArray)] 71 (0, 0))) ∧ Aside0 (Below w.heap.size w w'))
                    case atStart => exact ⟨(0), (x102000_62), (x102001_62), (x102003_62), (([] : List Int)), (.slice none 0 0), (by first | rfl | (simp; done) | (simp [*]; done)), H', ⟨Nat.le_refl _⟩, ⟨by (with_reducible repeat (first | apply Kd.Q_alloc | apply Kd.Q_drewN | apply Kd.Q_drew)); exact HO_5.out⟩, ⟨by first | exact Kd.R_nil _ _ _ _ _ | exact Kd.N_nil _ _ _ _ _ | exact Kd.V_nil _ _ _ _ _ | exact Kd.Q_nil _ _ _ _ _ | exact Kd.S_nil _ _ _ _ _⟩, ⟨by (with_reducible repeat (first | refine blk_drewN ?_ _ | refine blk_drew ?_ | refine blk_alloc ?_ _)); exact BK101.out⟩, ⟨by (with_reducible repeat (first | refine blk_drewN ?_ _ | refine blk_drew ?_ | refine blk_alloc ?_ _)); exact BK105.out⟩, ⟨by repeat (first | (with_reducible first | exact HB.out | apply below_alloc | apply pw_below_drewN | apply below_drew1 | refine below_set ?_ GE101.out | refine below_set ?_ GE105.out) | exact HB.out)⟩⟩
                    case round =>
                      clear H'
                      try clear c1
                      try clear p1
                      try clear q1
                      try clear hx1
                      try clear qi1
                      try clear c2
                      try clear p2
                      try clear c3
                      try clear c4
                      try clear q4
                      try clear c5
                      try clear q5
                      try clear c6
                      try clear p6
                      try clear c7
                      try clear c8
                      try clear q8
                      try clear c9
                      try clear c9b0
                      try clear c11
                      try clear c11b0
                      try clear p11
                      try clear q11
                      try clear hx11
                      try clear qi11
                      try clear c12
                      try clear c12b0
                      try clear p12
                      try clear q12
                      try clear hx12
                      try clear qi12
                      try clear c13
                      try clear c13b0
                      try clear c13b1
                      try clear c14
                      try clear c14b0
                      try clear c14b1
                      try clear c21
                      try clear c29
                      try clear c29b0
                      try clear c29b1
                      try clear c32
                      try clear c35
                      try clear c35b0
                      try clear c35b1
                      try clear c37
                      try clear c40
                      try clear c43
                      try clear q43
                      try clear c44
                      try clear c45
                      try clear c45b0
                      try clear c45b1
                      try clear c45b2
                      try clear c46
                      try clear c49
                      try clear c49b0
                      try clear c49b1
                      try clear c51
                      try clear c52
                      try clear c52b0
                      try clear c52b1
                      try clear c54
                      try clear c57
                      try clear q57
                      try clear c59
                      try clear c60
                      try clear c61
                      try clear c62
                      try clear c64
                      try clear p64
                      try clear c65
                      try clear c66
                      try clear c67
                      try clear c67b0
                      try clear c67b1
                      try clear c67b2
                      try clear c69
                      try clear c73
                      try clear c73b0
                      try clear c74
                      try clear c74b0
                      try clear c76
                      try clear c77
                      try clear c77b0
                      try clear c80
                      try clear c83
                      try clear c83b0
                      try clear c83b1
                      try clear q86
                      try clear c89
                      try clear hcz22_0
                      try clear hcz22_1
                      try clear hcz22_2
                      try clear hcz22_3
                      try clear hcz33_0
                      try clear hcz33_1
                      try clear hcz33_2
                      try clear hcz33_3
                      try clear hcz34_0
                      try clear hcz34_1
                      try clear hcz34_2
                      try clear hcz34_3
                      try clear hcz41_0
                      try clear hcz41_1
                      try clear hcz41_2
                      try clear hcz41_3
                      try clear hcz47_0
                      try clear hcz47_1
                      try clear hcz47_2
                      try clear hcz47_3
                      try clear hcz48_0
                      try clear hcz48_1
                      try clear hcz48_2
                      try clear hcz48_3
                      try clear hcz55_0
                      try clear hcz55_1
                      try clear hcz55_2
                      try clear hcz55_3
                      try clear hcz60_0
                      try clear hcz60_1
                      try clear hcz60_2
                      try clear hcz60_3
                      try clear hcz61_0
                      try clear hcz61_1
                      try clear hcz61_2
                      try clear hcz61_3
                      try clear hcz65_0
                      try clear hcz65_1
                      try clear hcz65_2
                      try clear hcz65_3
                      try clear hcz70_0
                      try clear hcz70_1
                      try clear hcz70_2
                      try clear hcz70_3
                      try clear hcz71_0
                      try clear hcz71_1
                      try clear hcz71_2
                      try clear hcz71_3
                      try clear hcz7_0
                      try clear hcz7_1
                      try clear hcz7_2
                      try clear hcz7_3
                      try clear hcz81_0
                      try clear hcz81_1
                      try clear hcz81_2
                      try clear hcz81_3
                      try clear hcz82_0
                      try clear hcz82_1
                      try clear hcz82_2
                      try clear hcz82_3
                      try clear hcz90_0
                      try clear hcz90_1
                      try clear hcz90_2
                      try clear hcz90_3
                      try clear hcz91_0
                      try clear hcz91_1
                      try clear hcz91_2
                      try clear hcz91_3
                      try clear hfz22_0
                      try clear hfz22_1
                      try clear hfz22_2
                      try clear hfz22_3
                      try clear hfz33_0
                      try clear hfz33_1
                      try clear hfz33_2
                      try clear hfz33_3
                      try clear hfz34_0
                      try clear hfz34_1
                      try clear hfz34_2
                      try clear hfz34_3
                      try clear hfz41_0
                      try clear hfz41_1
                      try clear hfz41_2
                      try clear hfz41_3
                      try clear hfz47_0
                      try clear hfz47_1
                      try clear hfz47_2
                      try clear hfz47_3
                      try clear hfz48_0
                      try clear hfz48_1
                      try clear hfz48_2
                      try clear hfz48_3
                      try clear hfz55_0
                      try clear hfz55_1
                      try clear hfz55_2
                      try clear hfz55_3
                      try clear hfz60_0
                      try clear hfz60_1
                      try clear hfz60_2
                      try clear hfz60_3
                      try clear hfz61_0
                      try clear hfz61_1
                      try clear hfz61_2
                      try clear hfz61_3
                      try clear hfz65_0
                      try clear hfz65_1
                      try clear hfz65_2
                      try clear hfz65_3
                      try clear hfz70_0
                      try clear hfz70_1
                      try clear hfz70_2
                      try clear hfz70_3
                      try clear hfz71_0
                      try clear hfz71_1
                      try clear hfz71_2
                      try clear hfz71_3
                      try clear hfz7_0
                      try clear hfz7_1
                      try clear hfz7_2
                      try clear hfz7_3
                      try clear hfz81_0
                      try clear hfz81_1
                      try clear hfz81_2
                      try clear hfz81_3
                      try clear hfz82_0
                      try clear hfz82_1
                      try clear hfz82_2
                      try clear hfz82_3
                      try clear hfz90_0
                      try clear hfz90_1
                      try clear hfz90_2
                      try clear hfz90_3
                      try clear hfz91_0
                      try clear hfz91_1
                      try clear hfz91_2
                      try clear hfz91_3
                      try clear hx112_0
                      try clear hx113_0
                      try clear hx118_0
                      try clear hx120_0
                      try clear hx125_0
                      try clear p1
                      try clear p11
                      try clear p112
                      try clear p113
                      try clear p118
                      try clear p12
                      try clear p120
                      try clear p125
                      try clear p2
                      try clear p6
                      try clear p64
                      try clear q1
                      try clear q11
                      try clear q112
                      try clear q113
                      try clear q118
                      try clear q12
                      try clear q120
                      try clear q125
                      try clear q4
                      try clear q43
                      try clear q5
                      try clear q57
                      try clear q8
                      try clear q86
                      obtain ⟨x11_4, x102000_4, x102001_4, x102003_4, x106002_4, u106002, rfl, HA, HK4, HO_5, HO_106002, BK101, BK105, HB⟩ := hrel
                      cases gk with
                      | zero => exact absurd HA.out (by simp [ontimeref51_first.l1])
                      | succ k4 =>
                        have H := HA.out
                        clear HA
                        simp only [ontimeref51_first.l1] at H
                        by_cases c92 : x11_4 < (x5_62.length : Int)
                        · rw [if_pos c92] at H
                          have c92b0 : decide (x11_4 < (x5_62.length : Int)) = true := decide_eq_true c92
                          clear c92
                          by_cases c93 : 0 ≤ x11_4
                          · rw [if_pos c93] at H
                            have c93b0 : decide (0 ≤ x11_4) = true := decide_eq_true c93
                            clear c93
                            replace H := Option.bind_eq_some_iff.mp H
                            obtain ⟨⟨t132, t133⟩, A940, H⟩ := H
                            replace H : (if t133 = true then (if x106002_4.length < 17592186044416 then (ontimeref51_first.l1 k4 x5_62 x8_62 (wrap64 (x11_4 + 1)) x106000_1 x106001_36 (x106002_4 ++ [t132]) (⟨#[]⟩ : ByteArray)) else (none)) else (some (x106000_1, x106001_36, x106002_4, (⟨#[]⟩ : ByteArray), 0, false))) = some (r1, r2, r3, r4, r5, r6) := H
                            have A94 := Aside0.mk A940
                            clear A940
                            by_cases c95 : t133 = true
                            · subst c95
                              have H1 : (if x106002_4.length < 17592186044416 then (ontimeref51_first.l1 k4 x5_62 x8_62 (wrap64 (x11_4 + 1)) x106000_1 x106001_36 (x106002_4 ++ [t132]) (⟨#[]⟩ : ByteArray)) else (none)) = some (r1, r2, r3, r4, r5, r6) := by rw [if_pos rfl] at H; exact H
                              clear H
                              have H := H1
                              clear H1
                              by_cases c96 : x106002_4.length < 17592186044416
                              · rw [if_pos c96] at H
                                have LMc96 := Aside0.mk c96
                                clear c96
                                obtain ⟨y134, hy134⟩ : ∃ y_ : List Int, y_ = (x106002_4 ++ [t132]) := ⟨_, rfl⟩
                                replace H : (ontimeref51_first.l1 k4 x5_62 x8_62 (wrap64 (x11_4 + 1)) x106000_1 x106001_36 y134 (⟨#[]⟩ : ByteArray)) = some (r1, r2, r3, r4, r5, r6) := by first | (rw [hy134]; with_reducible exact H) | (have H2_ := (Option.bind_some _ _).symm.trans H; rw [hy134]; with_reducible exact H2_) | (have H2_ := (Option.bind_some _ _).symm.trans H; with_reducible exact H2_) | with_reducible exact H | (rw [hy134]; exact H) | exact H
                                have Ny134 := Aside0.mk hy134
                                clear hy134
                                have H' := Aside0.mk H
                                clear H
                                obtain ⟨Ao97, co97, eo97, _⟩ := Kd.Q_slice HO_5.out
                                subst eo97
                                have p131 : 0 ≤ (x11_4 : Int) := of_decide_eq_true (by first | (with_reducible assumption) | assumption)
                                have q131 : x11_4 < (x5_62.length : Int) := of_decide_eq_true (by first | (with_reducible assumption) | assumption)
                                obtain ⟨ad131, e131, hx131_0⟩ := Kd.at_string (Kd.Q_reads' HO_5.out).2.2 x11_4 p131 q131
                                cases e131
                                replace p131 := eq_true p131
                                replace q131 := eq_true q131
                                go_wp2_with (first | ((with_reducible refine gate_callee (f := 65) rfl ?_); refine goesL_ (some 102) rfl rfl Tryd.func65 (by kernel_rfl) rfl #[.string (rdOf ByteArray.empty x5_62 x11_4)] rfl (by (try simp only [List.map_toArray, List.map_cons, List.map_nil]); first | done | rfl | (simp only [List.length_drop, List.length_take]; rfl)) ?_; (with_reducible refine (ontimeref51_value.calls k4 (rdOf ByteArray.empty x5_62 x11_4) t132 true _ A94.out).mono ?_); rintro e w98 ⟨rfl, hb⟩; refine ⟨_, rfl, ?_⟩; have n0_ := Aside0.mk (Kd.Q_below (by (with_reducible repeat (first | apply Kd.Q_alloc | apply Kd.Q_drewN | apply Kd.Q_drew)); exact HO_5.out) hb); have n1_ := Aside0.mk (Kd.R_below (by (with_reducible repeat (first | apply Kd.R_alloc | apply Kd.R_drewN | apply Kd.R_drew)); exact HO_106002.out) hb); have n2_ := Aside0.mk (blk_below (g := gb101) (o := .cells #[.int .u8 x102000_4, .string x102001_4, .slice none 0 0, .string x102003_4] 71 (0, 0)) (by (with_reducible repeat (first | refine blk_drewN ?_ _ | refine blk_drew ?_ | refine blk_alloc ?_ _)); exact BK101.out) hb); have n3_ := Aside0.mk (blk_below (g := gb105) (o := .cells #[.int .u8 x106000_1, .string x106001_36, u106002, .string (⟨#[]⟩ : ByteArray)] 71 (0, 0)) (by (with_reducible repeat (first | refine blk_drewN ?_ _ | refine blk_drew ?_ | refine blk_alloc ?_ _)); exact BK105.out) hb); have n4_ := Aside0.mk (below_step (by repeat (first | (with_reducible first | exact HB.out | apply below_alloc | apply pw_below_drewN | apply below_drew1 | refine below_set ?_ GE101.out | refine below_set ?_ GE105.out) | exact HB.out)) hb); clear HO_5; clear HO_106002; clear BK101; clear BK105; clear HB; have HO_5 := n0_; have HO_106002 := n1_; have BK101 := n2_; have BK105 := n3_; have HB := n4_; clear n0_ n1_ n2_ n3_ n4_; (try clear hb); (try clear hb2); (try clear hk); (try clear hi); have hnb99 := NB105_101.out; have hnc99 := NB101_105.out; have hcz100_0 : w98.cell? ⟨gb105, 0, none⟩ = some (.int .u8 x106000_1) := (blk_cell BK105.out 0).trans rfl; have hcz100_1 : w98.cell? ⟨gb105, 1, none⟩ = some (.string x106001_36) := (blk_cell BK105.out 1).trans rfl; have hcz100_2 : w98.cell? ⟨gb105, 2, none⟩ = some (u106002) := (blk_cell BK105.out 2).trans rfl; have hcz100_3 : w98.cell? ⟨gb105, 3, none⟩ = some (.string (⟨#[]⟩ : ByteArray)) := (blk_cell BK105.out 3).trans rfl; have hfz100_0 := blk_frozen BK105.out 0; have hfz100_1 := blk_frozen BK105.out 1; have hfz100_2 := blk_frozen BK105.out 2; have hfz100_3 := blk_frozen BK105.out 3) | ((with_reducible refine gate_builtin (b := .append) (xs := #[.tmp 109, .tmp 111]) rfl ?_); at_builtin; refine Kd.R_append (Kd.int .i64) (w0 := w) w.heap.size rfl (.tmp 109) (.tmp 111) 29 3 (.int .i64 0) 8 rfl Tryd.underlying29 info3 rfl (by decide) (by omega) u106002 x106002_4 t132 [.int .i64 t132] (fun _ => True) (fun _ => False) rfl rfl ?aP (fun _ hk => hk.elim) ?aF ?aO ?aB ?aS ?aL ?_; (case aP => exact rfl); (case aB => exact (by repeat (first | (with_reducible first | exact HB.out | apply below_alloc | apply pw_below_drewN | apply below_drew1 | refine below_set ?_ GE101.out | refine below_set ?_ GE105.out) | exact HB.out))); (case aF => exact (fun _ _ => trivial)); (case aO => exact (by (with_reducible repeat (first | apply Kd.R_alloc | apply Kd.R_drewN | apply Kd.R_drew)); exact HO_106002.out)); (case aS => exact (below_size (by repeat (first | (with_reducible first | exact HB.out | apply below_alloc | apply pw_below_drewN | apply below_drew1 | refine below_set ?_ GE101.out | refine below_set ?_ GE105.out) | exact HB.out)))); (case aL => have := LMc96.out; omega); intro v135 w101 ho hb hg hat; rw [← Ny134.out] at ho; have n0_ := Aside0.mk (Kd.Q_over' (by (with_reducible repeat (first | apply Kd.Q_alloc | apply Kd.Q_drewN | apply Kd.Q_drew)); exact HO_5.out) (Kd.R_typed (by (with_reducible repeat (first | apply Kd.R_alloc | apply Kd.R_drewN | apply Kd.R_drew)); exact HO_106002.out)) (by decide) hg); have n1_ := Aside0.mk (blk_grown (g := gb101) (o := .cells #[.int .u8 x102000_4, .string x102001_4, .slice none 0 0, .string x102003_4] 71 (0, 0)) (by (with_reducible repeat (first | refine blk_drewN ?_ _ | refine blk_drew ?_ | refine blk_alloc ?_ _)); exact BK101.out) hg (Kd.R_ne HO_106002.out BK101.out (by decide))); have n2_ := Aside0.mk (blk_grown (g := gb105) (o := .cells #[.int .u8 x106000_1, .string x106001_36, u106002, .string (⟨#[]⟩ : ByteArray)] 71 (0, 0)) (by (with_reducible repeat (first | refine blk_drewN ?_ _ | refine blk_drew ?_ | refine blk_alloc ?_ _)); exact BK105.out) hg (Kd.R_ne HO_106002.out BK105.out (by decide))); have n3_ := Aside0.mk (hb); have n4_ := Aside0.mk (ho); clear HO_5; clear BK101; clear BK105; clear HB; clear HO_106002; have HO_5 := n0_; have BK101 := n1_; have BK105 := n2_; have HB := n3_; have HO136 := n4_; clear n0_ n1_ n2_ n3_ n4_; clear ho hb hg hat; obtain ⟨Ao102, co102, eo102⟩ := Kd.R_slice HO136.out; subst eo102; have hcz103_0 : w101.cell? ⟨gb105, 0, none⟩ = some (.int .u8 x106000_1) := (blk_cell BK105.out 0).trans rfl; have hcz103_1 : w101.cell? ⟨gb105, 1, none⟩ = some (.string x106001_36) := (blk_cell BK105.out 1).trans rfl; have hcz103_2 : w101.cell? ⟨gb105, 2, none⟩ = some (u106002) := (blk_cell BK105.out 2).trans rfl; have hcz103_3 : w101.cell? ⟨gb105, 3, none⟩ = some (.string (⟨#[]⟩ : ByteArray)) := (blk_cell BK105.out 3).trans rfl; have hfz103_0 := blk_frozen BK105.out 0; have hfz103_1 := blk_frozen BK105.out 1; have hfz103_2 := blk_frozen BK105.out 2; have hfz103_3 := blk_frozen BK105.out 3))
                                go_roundg k4
                                case measure => have := HK1.out; have := HJ36.out; have := HJ62.out; have := HK4.out; omega
                                case rel => exact ⟨(wrap64 (x11_4 + 1)), (x102000_4), (x102001_4), (x102003_4), (y134), (.slice Ao102 y134.length co102), (by first | rfl | (simp; done) | (simp [*]; done)), H', ⟨by have := HK1.out; have := HJ36.out; have := HJ62.out; have := HK4.out; omega⟩, ⟨by (with_reducible repeat (first | apply Kd.Q_alloc | apply Kd.Q_drewN | apply Kd.Q_drew)); exact Kd.Q_mono (Kd.Q_far (p := ⟨gb105, 2, none⟩) (Kd.Q_types HO_5.out BK105.out (by decide)) (fun _ hk => hk.2) (.slice Ao102 y134.length co102)) (fun _ hk => trivial)⟩, ⟨by (with_reducible repeat (first | apply Kd.R_alloc | apply Kd.R_drewN | apply Kd.R_drew)); exact Kd.R_mono (Kd.R_far (p := ⟨gb105, 2, none⟩) (Kd.R_types HO136.out BK105.out (by decide)) (fun _ hk => hk.2) (.slice Ao102 y134.length co102)) (fun _ hk => trivial)⟩, ⟨by (with_reducible repeat (first | refine blk_drewN ?_ _ | refine blk_drew ?_ | refine blk_alloc ?_ _)); refine blk_far ?_ NB101_105.out _; (with_reducible repeat (first | refine blk_drewN ?_ _ | refine blk_drew ?_ | refine blk_alloc ?_ _)); exact BK101.out⟩, ⟨by (with_reducible repeat (first | refine blk_drewN ?_ _ | refine blk_drew ?_ | refine blk_alloc ?_ _)); refine blk_put (cs := #[.int .u8 x106000_1, .string x106001_36, u106002, .string (⟨#[]⟩ : ByteArray)]) ?_ 2 _ rfl; (with_reducible repeat (first | refine blk_drewN ?_ _ | refine blk_drew ?_ | refine blk_alloc ?_ _)); exact BK105.out⟩, ⟨by repeat (first | (with_reducible first | exact HB.out | apply below_alloc | apply pw_below_drewN | apply below_drew1 | refine below_set ?_ GE101.out | refine below_set ?_ GE105.out) | exact HB.out)⟩⟩
                              · rw [if_neg c96] at H
                                exact absurd H (by simp)
                            · replace c95 := Bool.eq_false_iff.mpr c95
                              subst c95
                              have H1 : (some (x106000_1, x106001_36, x106002_4, (⟨#[]⟩ : ByteArray), 0, false)) = some (r1, r2, r3, r4, r5, r6) := by rw [if_neg (show ¬ (false = true) by decide)] at H; exact H
                              clear H
                              have H := H1
                              clear H1
                              simp only [Option.some.injEq, Prod.mk.injEq] at H
                              obtain ⟨rfl, rfl, rfl, rfl, rfl, rfl⟩ := H
                              obtain ⟨Ao104, co104, eo104, _⟩ := Kd.Q_slice HO_5.out
                              subst eo104
                              have p131 : 0 ≤ (x11_4 : Int) := of_decide_eq_true (by first | (with_reducible assumption) | assumption)
                              have q131 : x11_4 < (x5_62.length : Int) := of_decide_eq_true (by first | (with_reducible assumption) | assumption)
                              obtain ⟨ad131, e131, hx131_0⟩ := Kd.at_string (Kd.Q_reads' HO_5.out).2.2 x11_4 p131 q131
                              cases e131
                              replace p131 := eq_true p131
                              replace q131 := eq_true q131
                              go_wp2_with (first | ((with_reducible refine gate_callee (f := 65) rfl ?_); refine goesL_ (some 102) rfl rfl Tryd.func65 (by kernel_rfl) rfl #[.string (rdOf ByteArray.empty x5_62 x11_4)] rfl (by (try simp only [List.map_toArray, List.map_cons, List.map_nil]); first | done | rfl | (simp only [List.length_drop, List.length_take]; rfl)) ?_; (with_reducible refine (ontimeref51_value.calls k4 (rdOf ByteArray.empty x5_62 x11_4) t132 false _ A94.out).mono ?_); rintro e w105 ⟨rfl, hb⟩; refine ⟨_, rfl, ?_⟩; have n0_ := Aside0.mk (Kd.Q_below (by (with_reducible repeat (first | apply Kd.Q_alloc | apply Kd.Q_drewN | apply Kd.Q_drew)); exact HO_5.out) hb); have n1_ := Aside0.mk (Kd.R_below (by (with_reducible repeat (first | apply Kd.R_alloc | apply Kd.R_drewN | apply Kd.R_drew)); exact HO_106002.out) hb); have n2_ := Aside0.mk (blk_below (g := gb101) (o := .cells #[.int .u8 x102000_4, .string x102001_4, .slice none 0 0, .string x102003_4] 71 (0, 0)) (by (with_reducible repeat (first | refine blk_drewN ?_ _ | refine blk_drew ?_ | refine blk_alloc ?_ _)); exact BK101.out) hb); have n3_ := Aside0.mk (blk_below (g := gb105) (o := .cells #[.int .u8 x106000_1, .string x106001_36, u106002, .string (⟨#[]⟩ : ByteArray)] 71 (0, 0)) (by (with_reducible repeat (first | refine blk_drewN ?_ _ | refine blk_drew ?_ | refine blk_alloc ?_ _)); exact BK105.out) hb); have n4_ := Aside0.mk (below_step (by repeat (first | (with_reducible first | exact HB.out | apply below_alloc | apply pw_below_drewN | apply below_drew1 | refine below_set ?_ GE101.out | refine below_set ?_ GE105.out) | exact HB.out)) hb); clear HO_5; clear HO_106002; clear BK101; clear BK105; clear HB; have HO_5 := n0_; have HO_106002 := n1_; have BK101 := n2_; have BK105 := n3_; have HB := n4_; clear n0_ n1_ n2_ n3_ n4_; (try clear hb); (try clear hb2); (try clear hk); (try clear hi); have hnb106 := NB105_101.out; have hnc106 := NB101_105.out; have hcz107_0 : w105.cell? ⟨gb105, 0, none⟩ = some (.int .u8 x106000_1) := (blk_cell BK105.out 0).trans rfl; have hcz107_1 : w105.cell? ⟨gb105, 1, none⟩ = some (.string x106001_36) := (blk_cell BK105.out 1).trans rfl; have hcz107_2 : w105.cell? ⟨gb105, 2, none⟩ = some (u106002) := (blk_cell BK105.out 2).trans rfl; have hcz107_3 : w105.cell? ⟨gb105, 3, none⟩ = some (.string (⟨#[]⟩ : ByteArray)) := (blk_cell BK105.out 3).trans rfl; have hfz107_0 := blk_frozen BK105.out 0; have hfz107_1 := blk_frozen BK105.out 1; have hfz107_2 := blk_frozen BK105.out 2; have hfz107_3 := blk_frozen BK105.out 3; have hcz108_0 : w105.cell? ⟨gb101, 0, none⟩ = some (.int .u8 x102000_4) := (blk_cell BK101.out 0).trans rfl; have hcz108_1 : w105.cell? ⟨gb101, 1, none⟩ = some (.string x102001_4) := (blk_cell BK101.out 1).trans rfl; have hcz108_2 : w105.cell? ⟨gb101, 2, none⟩ = some (.slice none 0 0) := (blk_cell BK101.out 2).trans rfl; have hcz108_3 : w105.cell? ⟨gb101, 3, none⟩ = some (.string x102003_4) := (blk_cell BK101.out 3).trans rfl; have hfz108_0 := blk_frozen BK101.out 0; have hfz108_1 := blk_frozen BK101.out 1; have hfz108_2 := blk_frozen BK101.out 2; have hfz108_3 := blk_frozen BK101.out 3; obtain ⟨Ao109, co109, eo109⟩ := Kd.R_slice HO_106002.out; subst eo109))
                              refine bodyPost_ret (results_ctt rfl _ _ gb101 71 #[.int .u8 x106000_1, .string x106001_36, .slice Ao109 x106002_4.length co109, .string (⟨#[]⟩ : ByteArray)] (0, 0) _ rfl (by (with_reducible repeat (first | refine blk_drewN ?_ _ | refine blk_drew ?_ | refine blk_alloc ?_ _)); refine blk_put (cs := #[.int .u8 x106000_1, .string x106001_36, .slice Ao109 x106002_4.length co109, .string x102003_4]) ?_ 3 _ rfl; (with_reducible repeat (first | refine blk_drewN ?_ _ | refine blk_drew ?_ | refine blk_alloc ?_ _)); refine blk_put (cs := #[.int .u8 x106000_1, .string x106001_36, .slice none 0 0, .string x102003_4]) ?_ 2 _ rfl; (with_reducible repeat (first | refine blk_drewN ?_ _ | refine blk_drew ?_ | refine blk_alloc ?_ _)); refine blk_put (cs := #[.int .u8 x106000_1, .string x102001_4, .slice none 0 0, .string x102003_4]) ?_ 1 _ rfl; (with_reducible repeat (first | refine blk_drewN ?_ _ | refine blk_drew ?_ | refine blk_alloc ?_ _)); refine blk_put (cs := #[.int .u8 x102000_4, .string x102001_4, .slice none 0 0, .string x102003_4]) ?_ 0 _ rfl; (with_reducible repeat (first | refine blk_drewN ?_ _ | refine blk_drew ?_ | refine blk_alloc ?_ _)); exact BK101.out) Tryd.underlying71 rfl (by kernel_rfl)) rfl ?_
                              exact ⟨_, by first | rfl | (simp [errW_none, errW_some] <;> rfl) | (simp [*, errW_none, errW_some] <;> rfl), by (with_reducible repeat (first | apply Kd.R_alloc | apply Kd.R_drewN | apply Kd.R_drew)); exact Kd.R_mono (Kd.R_far (p := ⟨gb101, 3, none⟩) (Kd.R_far (p := ⟨gb101, 2, none⟩) (Kd.R_far (p := ⟨gb101, 1, none⟩) (Kd.R_far (p := ⟨gb101, 0, none⟩) (Kd.R_types HO_106002.out BK101.out (by decide)) (fun _ hk => hk.2) (.int .u8 x106000_1)) (fun _ hk => hk.2) (.string x106001_36)) (fun _ hk => hk.2) (.slice Ao109 x106002_4.length co109)) (fun _ hk => hk.2) (.string (⟨#[]⟩ : ByteArray))) (fun _ hk => trivial), by repeat (first | (with_reducible first | exact HB.out | apply below_alloc | apply pw_below_drewN | apply below_drew1 | refine below_set ?_ GE101.out | refine below_set ?_ GE105.out) | exact HB.out)⟩
                          · rw [if_neg c93] at H
                            exact absurd H (by simp)
                        · rw [if_neg c92] at H
                          have c92b0 : decide (x11_4 < (x5_62.length : Int)) = false := decide_eq_false c92
                          clear c92
                          replace H := Option.bind_eq_some_iff.mp H
                          obtain ⟨t137, A1100, H⟩ := H
                          replace H : (some (x106000_1, x106001_36, x106002_4, (⟨#[]⟩ : ByteArray), x8_62, t137)) = some (r1, r2, r3, r4, r5, r6) := H
                          have A110 := Aside0.mk A1100
                          clear A1100
                          simp only [Option.some.injEq, Prod.mk.injEq] at H
                          obtain ⟨rfl, rfl, rfl, rfl, rfl, rfl⟩ := H
                          obtain ⟨Ao111, co111, eo111, _⟩ := Kd.Q_slice HO_5.out
                          subst eo111
                          try go_wp2
                          have n0_ := Aside0.mk (Kd.Q_drew HO_5.out)
                          have n1_ := Aside0.mk (Kd.R_drew HO_106002.out)
                          have n2_ := Aside0.mk (blk_drew BK101.out)
                          have n3_ := Aside0.mk (blk_drew BK105.out)
                          have n4_ := Aside0.mk (below_drew1 HB.out)
                          clear HO_5
                          clear HO_106002
                          clear BK101
                          clear BK105
                          clear HB
                          have HO_5 := n0_
                          have HO_106002 := n1_
                          have BK101 := n2_
                          have BK105 := n3_
                          have HB := n4_
                          clear n0_ n1_ n2_ n3_ n4_
                          obtain ⟨Ao113, co113, eo113⟩ := Kd.R_slice HO_106002.out
                          (first | subst eo113 | (injection eo113 with f1_ f2_ f3_; have f4_ := f1_.symm; have f5_ := f3_.symm; clear f1_ f2_ f3_; subst f4_; subst f5_))
                          refine start_ (n := 11) (S := fun w' => w'.cell? ⟨gb105, 0, none⟩ = some (.int .u8 x106000_1) ∧ w'.cell? ⟨gb105, 1, none⟩ = some (.string x106001_36) ∧ w'.cell? ⟨gb105, 2, none⟩ = some (.slice Ao113 x106002_4.length co113) ∧ w'.cell? ⟨gb105, 3, none⟩ = some (.string (⟨#[]⟩ : ByteArray))) (ds := []) #[false, false, false, false, false, false, false, false, false, false, false] (by kernel_rfl) rfl rfl ⟨(blk_cell BK105.out 0).trans rfl, (blk_cell BK105.out 1).trans rfl, (blk_cell BK105.out 2).trans rfl, (blk_cell BK105.out 3).trans rfl⟩ (fun hHeld => ?_); refine with_tabW ontimeref51_first.tab32 ontimeref51_first.bits32 (fun HT_ HW_ => ?_)
                          generalize wr.drew = w112 at HO_5 HO_106002 BK101 BK105 HB hHeld ⊢
                          refine pure_ (i := 1) (N := some 115) (v := ?_) (a' := ?_) #[false, true, false, false, false, false, false, false, false, false, false] rfl rfl (any_of HT_.out (by kernel_rfl)) (fun _ _ _ h => h) (Or.inl ⟨by rfl, ?_⟩) ?_ ?_
                          rotate_left
                          · intro w'
                            go_simp
                            with_reducible rfl
                          rotate_left
                          · simp only [Act.put, List.setIfInBounds_toArray, List.set_cons_zero, List.set_cons_succ, i64_w, i32_w]
                            rfl
                          refine pure_ (i := 2) (N := some 116) (v := ?_) (a' := ?_) #[false, true, true, false, false, false, false, false, false, false, false] rfl rfl (any_of HT_.out (by kernel_rfl)) (fun _ _ _ h => h) (Or.inl ⟨by rfl, ?_⟩) ?_ ?_
                          rotate_left
                          · intro w'
                            go_simp
                            with_reducible rfl
                          rotate_left
                          · simp only [Act.put, List.setIfInBounds_toArray, List.set_cons_zero, List.set_cons_succ, i64_w, i32_w]
                            rfl
                          refine pure_ (i := 4) (N := some 118) (v := ?_) (a' := ?_) #[false, true, true, false, true, false, false, false, false, false, false] rfl rfl (any_of HT_.out (by kernel_rfl)) (fun _ _ _ h => h) (Or.inl ⟨by rfl, ?_⟩) ?_ ?_
                          rotate_left
                          · intro w'
                            go_simp
                            with_reducible rfl
                          rotate_left
                          · simp only [Act.put, List.setIfInBounds_toArray, List.set_cons_zero, List.set_cons_succ, i64_w, i32_w]
                            rfl
                          refine take_ (i := 0) (N := some 114) (v := ?_) (a' := ?_) #[true, true, true, false, true, false, false, false, false, false, false] rfl rfl (take_ofW HT_.out HW_.out (by kernel_rfl)) (fun _ _ _ h => h) (Or.inl ⟨by rfl, ?_⟩) hHeld ?_ ?_
                          rotate_left
                          · rintro w' ⟨s0, s1, s2, s3⟩
                            go_simp
                            with_reducible rfl
                          rotate_left
                          · simp only [Act.put, List.setIfInBounds_toArray, List.set_cons_zero, List.set_cons_succ, i64_w, i32_w]
                            rfl
                          refine take_ (i := 3) (N := some 117) (v := ?_) (a' := ?_) #[true, true, true, true, true, false, false, false, false, false, false] rfl rfl (take_ofW HT_.out HW_.out (by kernel_rfl)) (fun _ _ _ h => h) (Or.inl ⟨by rfl, ?_⟩) hHeld ?_ ?_
                          rotate_left
                          · rintro w' ⟨s0, s1, s2, s3⟩
                            go_simp
                            with_reducible rfl
                          rotate_left
                          · simp only [Act.put, List.setIfInBounds_toArray, List.set_cons_zero, List.set_cons_succ, i64_w, i32_w]
                            rfl
                          refine take_ (i := 5) (N := some 119) (v := ?_) (a' := ?_) #[true, true, true, true, true, true, false, false, false, false, false] rfl rfl (take_ofW HT_.out HW_.out (by kernel_rfl)) (fun _ _ _ h => h) (Or.inl ⟨by rfl, ?_⟩) hHeld ?_ ?_
                          rotate_left
                          · rintro w' ⟨s0, s1, s2, s3⟩
                            go_simp
                            with_reducible rfl
                          rotate_left
                          · simp only [Act.put, List.setIfInBounds_toArray, List.set_cons_zero, List.set_cons_succ, i64_w, i32_w]
                            rfl
                          refine pure_ (i := 6) (N := some 120) (v := ?_) (a' := ?_) #[true, true, true, true, true, true, true, false, false, false, false] rfl rfl (any_of HT_.out (by kernel_rfl)) (fun _ _ _ h => h) (Or.inl ⟨by rfl, ?_⟩) ?_ ?_
                          rotate_left
                          · intro w'
                            go_simp
                            with_reducible rfl
                          rotate_left
                          · simp only [Act.put, List.setIfInBounds_toArray, List.set_cons_zero, List.set_cons_succ, i64_w, i32_w]
                            rfl
                          refine one_ (i := 7) (N := some 121) #[true, true, true, true, true, true, true, true, false, false, false] rfl rfl (one_of HT_.out (by kernel_rfl)) (by decide) (fun K hK => ?_)
                          refine goes_ Tryd.func66 (by kernel_rfl) rfl #[.int .u8 x106000_1, .int .i64 (x106002_4.length : Int)] (by rfl) rfl rfl (by (try simp only [List.map_toArray, List.map_cons, List.map_nil]); first | done | rfl | (simp only [List.length_drop, List.length_take]; rfl)) ?_
                          with_reducible refine (ontimeref51_counts.calls x106000_1 (x106002_4.length : Int) t137 _ A110.out).mono ?_
                          rintro e w' ⟨rfl, ⟨nd, rfl⟩⟩
                          refine ⟨_, rfl, ?_⟩
                          refine hK.out _ _ ⟨(blk_cell BK105.out 0).trans rfl, (blk_cell BK105.out 1).trans rfl, (blk_cell BK105.out 2).trans rfl, (blk_cell BK105.out 3).trans rfl⟩ (fun hHeld => ?_)
                          clear hK K
                          refine norm_ (a' := ?_) ?_ ?_
                          rotate_left
                          · show Act.put _ (some 121) _ = _
                            simp only [Act.put, List.setIfInBounds_toArray, List.set_cons_zero, List.set_cons_succ, i64_w, i32_w]
                            rfl
                          refine one_ (i := 8) (N := none) #[true, true, true, true, true, true, true, true, true, false, false] rfl rfl (one_of HT_.out (by kernel_rfl)) (by decide) (fun K hK => ?_)
                          have hs114 : w112.cell? ⟨gb101, 0, none⟩ = some (.int .u8 x102000_4) := (blk_cell BK101.out 0).trans rfl
                          have hfs114 := blk_frozen BK101.out 0
                          have hns114_1 := NB105_101.out
                          have hms114_1 := NB101_105.out
                          have hs115 : w112.cell? ⟨gb101, 1, none⟩ = some (.string x102001_4) := (blk_cell BK101.out 1).trans rfl
                          have hfs115 := blk_frozen BK101.out 1
                          have hns115_1 := NB105_101.out
                          have hms115_1 := NB101_105.out
                          have hs116 : w112.cell? ⟨gb101, 2, none⟩ = some (.slice none 0 0) := (blk_cell BK101.out 2).trans rfl
                          have hfs116 := blk_frozen BK101.out 2
                          have hns116_1 := NB105_101.out
                          have hms116_1 := NB101_105.out
                          have hs117 : w112.cell? ⟨gb101, 3, none⟩ = some (.string x102003_4) := (blk_cell BK101.out 3).trans rfl
                          have hfs117 := blk_frozen BK101.out 3
                          have hns117_1 := NB105_101.out
                          have hms117_1 := NB101_105.out
                          refine skip_ (w1 := ?_) (by rfl) rfl ?_ ?_
                          rotate_left
                          · go_simp
                            rfl
                          refine hK.out _ _ ⟨((cell_far (p := ⟨gb101, _, none⟩) NB105_101.out _).trans (((cell_far (p := ⟨gb101, _, none⟩) NB105_101.out _).trans (((cell_far (p := ⟨gb101, _, none⟩) NB105_101.out _).trans (((cell_far (p := ⟨gb101, _, none⟩) NB105_101.out _).trans (hHeld.1)))))))), ((cell_far (p := ⟨gb101, _, none⟩) NB105_101.out _).trans (((cell_far (p := ⟨gb101, _, none⟩) NB105_101.out _).trans (((cell_far (p := ⟨gb101, _, none⟩) NB105_101.out _).trans (((cell_far (p := ⟨gb101, _, none⟩) NB105_101.out _).trans (hHeld.2.1)))))))), ((cell_far (p := ⟨gb101, _, none⟩) NB105_101.out _).trans (((cell_far (p := ⟨gb101, _, none⟩) NB105_101.out _).trans (((cell_far (p := ⟨gb101, _, none⟩) NB105_101.out _).trans (((cell_far (p := ⟨gb101, _, none⟩) NB105_101.out _).trans (hHeld.2.2.1)))))))), ((cell_far (p := ⟨gb101, _, none⟩) NB105_101.out _).trans (((cell_far (p := ⟨gb101, _, none⟩) NB105_101.out _).trans (((cell_far (p := ⟨gb101, _, none⟩) NB105_101.out _).trans (((cell_far (p := ⟨gb101, _, none⟩) NB105_101.out _).trans (hHeld.2.2.2))))))))⟩ (fun hHeld => ?_)
                          clear hK K
                          refine pure_ (i := 9) (N := some 3) (v := ?_) (a' := ?_) #[true, true, true, true, true, true, true, true, true, true, false] rfl rfl (any_of HT_.out (by kernel_rfl)) (fun _ _ _ h => h) (Or.inl ⟨by rfl, ?_⟩) ?_ ?_
                          rotate_left
                          · intro w'
                            go_simp
                            with_reducible rfl
                          rotate_left
                          · simp only [Act.put, List.setIfInBounds_toArray, List.set_cons_zero, List.set_cons_succ, i64_w, i32_w]
                            rfl
                          refine pure_ (i := 10) (N := some 4) (v := ?_) (a' := ?_) #[true, true, true, true, true, true, true, true, true, true, true] rfl rfl (any_of HT_.out (by kernel_rfl)) (fun _ _ _ h => h) (Or.inl ⟨by rfl, ?_⟩) ?_ ?_
                          rotate_left
                          · intro w'
                            go_simp
                            with_reducible rfl
                          rotate_left
                          · simp only [Act.put, List.setIfInBounds_toArray, List.set_cons_zero, List.set_cons_succ, i64_w, i32_w]
                            rfl
                          refine done_ (done_of HT_.out (by kernel_rfl)) ?_
                          try go_wp2
                          refine bodyPost_ret (results_ctt rfl _ _ gb101 71 #[.int .u8 x106000_1, .string x106001_36, .slice Ao113 x106002_4.length co113, .string (⟨#[]⟩ : ByteArray)] (0, 0) _ rfl (by (with_reducible repeat (first | refine blk_drewN ?_ _ | refine blk_drew ?_ | refine blk_alloc ?_ _)); refine blk_put (cs := #[.int .u8 x106000_1, .string x106001_36, .slice Ao113 x106002_4.length co113, .string x102003_4]) ?_ 3 _ rfl; (with_reducible repeat (first | refine blk_drewN ?_ _ | refine blk_drew ?_ | refine blk_alloc ?_ _)); refine blk_put (cs := #[.int .u8 x106000_1, .string x106001_36, .slice none 0 0, .string x102003_4]) ?_ 2 _ rfl; (with_reducible repeat (first | refine blk_drewN ?_ _ | refine blk_drew ?_ | refine blk_alloc ?_ _)); refine blk_put (cs := #[.int .u8 x106000_1, .string x102001_4, .slice none 0 0, .string x102003_4]) ?_ 1 _ rfl; (with_reducible repeat (first | refine blk_drewN ?_ _ | refine blk_drew ?_ | refine blk_alloc ?_ _)); refine blk_put (cs := #[.int .u8 x102000_4, .string x102001_4, .slice none 0 0, .string x102003_4]) ?_ 0 _ rfl; (with_reducible repeat (first | refine blk_drewN ?_ _ | refine blk_drew ?_ | refine blk_alloc ?_ _)); exact BK101.out) Tryd.underlying71 rfl (by kernel_rfl)) rfl ?_
                          exact ⟨_, by first | rfl | (simp [errW_none, errW_some] <;> rfl) | (simp [*, errW_none, errW_some] <;> rfl), by (with_reducible repeat (first | apply Kd.R_alloc | apply Kd.R_drewN | apply Kd.R_drew)); exact Kd.R_mono (Kd.R_far (p := ⟨gb101, 3, none⟩) (Kd.R_far (p := ⟨gb101, 2, none⟩) (Kd.R_far (p := ⟨gb101, 1, none⟩) (Kd.R_far (p := ⟨gb101, 0, none⟩) (Kd.R_types HO_106002.out BK101.out (by decide)) (fun _ hk => hk.2) (.int .u8 x106000_1)) (fun _ hk => hk.2) (.string x106001_36)) (fun _ hk => hk.2) (.slice Ao113 x106002_4.length co113)) (fun _ hk => hk.2) (.string (⟨#[]⟩ : ByteArray))) (fun _ hk => trivial), by repeat (first | (with_reducible first | exact HB.out | apply below_alloc | apply pw_below_drewN | apply below_drew1 | refine below_set ?_ GE101.out | refine below_set ?_ GE105.out) | exact HB.out)⟩
          · rw [if_neg c35] at H
            exact absurd H (by simp)

end Go.Proofs.YtmciflmlpnpkaaaDoor.Pa

