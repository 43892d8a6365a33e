-- Lines by a program of this session's (wip/gprint.py over the kit's printing program): the walks of plain functions. Not trusted: Lean checks it.
import Derived.Test.YtmciflmlpnpkaaaDoorPgx1
import Derived.Test.YtmciflmlpnpkaaaDoorPbx1
import Derived.Test.YtmciflmlpnpkaaaDoorProg
import Derived.Below
import Derived.Deep.Draws
import Derived.Deep.AppendLies
import Derived.Maps.AppendAt
import Derived.OwnWalk
import Derived.Laws.BytesArg
import Derived.Laws.MakeOwn
import Derived.Laws.OwnMore
import Derived.Deep.OwnRows
import Derived.Tactics
import Derived.Lib.ConvBytes
import Derived.Laws.Slices
import Derived.WalkKit
import Derived.KernelRfl
import Derived.RowKit3
import Derived.Deep.LoopGhost
import Derived.Deep.QuietTactic
import Derived.BigQuiet
import Derived.WideLaws
import Derived.Deep.DeepCutAuto
import Derived.Deep.CutBlock
import Derived.Deep.RegionHeld3
import Derived.Laws.Rows
import Derived.Lib.AppendStr
import Derived.ArgAppend
import Derived.Laws.IdiomCopy
import Derived.OrdersHeld
import Derived.Laws.BitsLemmas
import Derived.RowKit
import Derived.Test.YtmciflmlpnpkaaaDoorWWords
import Derived.Test.YtmciflmlpnpkaaaDoorWLast
import Derived.Test.YtmciflmlpnpkaaaDoorWTab
import Derived.Test.YtmciflmlpnpkaaaDoorWFour
import Derived.Test.YtmciflmlpnpkaaaDoorWQPut
import Derived.Test.YtmciflmlpnpkaaaDoorWApart
import Derived.Test.YtmciflmlpnpkaaaDoorWArr
import Derived.Test.YtmciflmlpnpkaaaDoorWZeros
import Derived.Test.YtmciflmlpnpkaaaDoorWFoot
import Derived.Test.YtmciflmlpnpkaaaDoorWKept
import Derived.Test.YtmciflmlpnpkaaaDoorWShare
import Derived.Test.YtmciflmlpnpkaaaDoorWN
import Derived.Test.YtmciflmlpnpkaaaDoorWFootNe
import Derived.Test.YtmciflmlpnpkaaaDoorWAt
import Derived.Test.YtmciflmlpnpkaaaDoorWEqStruct
import Derived.Test.YtmciflmlpnpkaaaDoorWRepsOne
import Derived.Test.YtmciflmlpnpkaaaDoorWInv
import Derived.Test.YtmciflmlpnpkaaaDoorWInvWords
import Derived.Test.YtmciflmlpnpkaaaDoorWGuard
import Derived.Test.YtmciflmlpnpkaaaDoorWNEv
import Derived.Test.YtmciflmlpnpkaaaDoorWMore
namespace Go.Proofs.YtmciflmlpnpkaaaDoor.Pa
open Go.RowKit Go.Proofs.YtmciflmlpnpkaaaDoorW.PrintWords Go.Proofs.YtmciflmlpnpkaaaDoorW.PrintLast Go.Proofs.YtmciflmlpnpkaaaDoorW.PrintMore
attribute [local go_sem] max2_int min2_int max_two min_two max_three min_three max_four min_four   -- for this text's walks alone
set_option linter.unusedVariables false
set_option linter.unusedSimpArgs false



theorem info71 : (Tryd.prog.info? 71).map (fun i => (i.zero, i.size, i.bytes)) = some (some (.agg #[(.int .u8 0), (.string ⟨#[]⟩), (.slice none 0 0), (.string ⟨#[]⟩)]), 4, 64) := by kernel_rfl
-- the values' own types
structure S71 where
  f0 : Int
  f1 : ByteArray
  f2 : (List Int)
  f3 : ByteArray
def z71 : S71 := ⟨(0 : Int), (⟨#[]⟩ : ByteArray), ([] : List Int), (⟨#[]⟩ : ByteArray)⟩
def k71 : Kd S71 := Kd.iso (Kd.pair (Kd.int .u8) (Kd.pair Kd.string (Kd.pair (Kd.slice 3 (Kd.int .i64)) Kd.string))) (fun x : S71 => (x.f0, x.f1, x.f2, x.f3))
theorem k71_open {w : World} {x : S71} {cs : List Value} (h : k71.K w x cs) : ∃ A2 c2, cs = [.int .u8 x.f0, .string x.f1, .slice A2 x.f2.length c2, .string x.f3] ∧ x.f2.length ≤ c2 ∧ (Kd.int .i64).C w A2 x.f2.length x.f2 := by
  obtain ⟨_, _, rfl, rfl, ⟨_, _, rfl, rfl, ⟨_, _, rfl, ⟨A2, c2, rfl, l2, g2⟩, rfl⟩⟩⟩ := h
  exact ⟨A2, c2, rfl, l2, g2⟩
theorem k71_openM {w : World} {base : Nat} {ok : Nat → Prop} {x : S71} {cs : List Value} (h : k71.M w base ok x cs) : ∃ v2, cs = [.int .u8 x.f0, .string x.f1, v2, .string x.f3] ∧ (Kd.int .i64).R 3 w base ok v2 x.f2 := by
  obtain ⟨_, _, rfl, rfl, ⟨_, _, rfl, rfl, ⟨_, _, rfl, ⟨v2, rfl, g2⟩, rfl⟩⟩⟩ := h
  exact ⟨v2, rfl, g2⟩
theorem k71_mk (w : World) (x : S71) {A2 : Option Addr} {c2 : Nat} (l2 : x.f2.length ≤ c2) (g2 : (Kd.int .i64).C w A2 x.f2.length x.f2) : k71.K w x [.int .u8 x.f0, .string x.f1, .slice A2 x.f2.length c2, .string x.f3] := ⟨[.int .u8 x.f0], [.string x.f1, .slice A2 x.f2.length c2, .string x.f3], rfl, rfl, ⟨[.string x.f1], [.slice A2 x.f2.length c2, .string x.f3], rfl, rfl, ⟨[.slice A2 x.f2.length c2], [.string x.f3], rfl, ⟨A2, c2, rfl, l2, g2⟩, rfl⟩⟩⟩
theorem k71_mkM (w : World) (base : Nat) (ok : Nat → Prop) (x : S71) {v2 : Value} (g2 : (Kd.int .i64).R 3 w base ok v2 x.f2) : k71.M w base ok x [.int .u8 x.f0, .string x.f1, v2, .string x.f3] := ⟨[.int .u8 x.f0], [.string x.f1, v2, .string x.f3], rfl, rfl, ⟨[.string x.f1], [v2, .string x.f3], rfl, rfl, ⟨[v2], [.string x.f3], rfl, ⟨v2, rfl, g2⟩, rfl⟩⟩⟩
def rd_T71 (xs : List S71) (i : Int) : S71 := xs.getD i.toNat z71
theorem at_T71 {w : World} {A : Option Addr} {n : Nat} {xs : List S71} (h : Kd.C k71 w A n xs) (i : Int) (h0 : 0 ≤ i) (h1 : i < n) : ∃ ad A2 c2, A = some ad ∧ w.cell? (ad.add (i.toNat * 4)) = some (.int .u8 (rd_T71 xs i).f0) ∧ w.cell? ⟨(ad.add (i.toNat * 4)).block, (ad.add (i.toNat * 4)).off + 1, none⟩ = some (.string (rd_T71 xs i).f1) ∧ w.cell? ⟨(ad.add (i.toNat * 4)).block, (ad.add (i.toNat * 4)).off + 2, none⟩ = some (.slice A2 (rd_T71 xs i).f2.length c2) ∧ w.cell? ⟨(ad.add (i.toNat * 4)).block, (ad.add (i.toNat * 4)).off + 3, none⟩ = some (.string (rd_T71 xs i).f3) ∧ (rd_T71 xs i).f2.length ≤ c2 ∧ (Kd.int .i64).C w A2 (rd_T71 xs i).f2.length (rd_T71 xs i).f2 := by
  obtain ⟨ad, c, e, _, hK, hc0⟩ := Kd.C_get h z71 i h0 h1
  have hc : ∀ j u, c[j]? = some u → w.cell? (ad.add (i.toNat * 4 + j)) = some u := hc0
  obtain ⟨A2, c2, rfl, l2, g2⟩ := k71_open hK
  exact ⟨ad, A2, c2, e, hc 0 _ rfl, by rw [← add_field _ _ 1 (by omega)]; exact hc 1 _ rfl, by rw [← add_field _ _ 2 (by omega)]; exact hc 2 _ rfl, by rw [← add_field _ _ 3 (by omega)]; exact hc 3 _ rfl, l2, g2⟩

end Go.Proofs.YtmciflmlpnpkaaaDoor.Pa
