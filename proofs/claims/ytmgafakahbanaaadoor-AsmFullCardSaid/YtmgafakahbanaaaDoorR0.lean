import Derived.Test.YtmgafakahbanaaaDoorRows
import Derived.Test.YtmgafakahbanaaaDoorHb
import Derived.WalkKit
import Derived.ProofKit
import Derived.OpenShut
import Derived.ShutString
import Derived.ChangeOld
import Derived.SizedLaws
import Derived.LaidMore
import Derived.Stop.Joined
import Derived.Stop.LaidErr
import Derived.Lib.LaidTab
import Derived.Shelf.Vars
import Derived.HandedShaped
import Derived.Lay
namespace Go.Proofs.YtmgafakahbanaaaDoor.Pa
open Go.RowKit
open Go.ChangeShapes Go.WideShapes Go.ChangeAt
set_option linter.unusedVariables false
set_option linter.unusedSimpArgs false

/-! ### what the rows list, as the calls read it -/
def laidAll : List (String × DataW Unit) := [("math/bits.deBruijn32tab", Rows.laid_math_bits_deBruijn32tab), ("math/bits.deBruijn64tab", Rows.laid_math_bits_deBruijn64tab), ("internal/strconv.uint64pow10", Rows.laid_internal_strconv_uint64pow10), ("unicode/utf8.acceptRanges", Rows.laid_unicode_utf8_acceptRanges), ("strconv.ErrRange", Rows.laid_strconv_ErrRange), ("strconv.ErrSyntax", Rows.laid_strconv_ErrSyntax), ("unicode/utf8.first", Rows.laid_unicode_utf8_first)]
theorem seatOwn : ownKnob Tryd.prog.godebug = none := by kernel_rfl
theorem iface_of_trod {H : Type} {enc : TypeId × Value → H} {W : World} {b : Nat} {sp : Nat → Bool} {held : Bool} {n : Nat} {cs : List Value} {x : DataW H × List MemPlace} (h : DataW.trod enc Tryd.prog W b sp held n 59 cs = some x) :
    cs = [.nilIface] ∨ ∃ te pe, cs = [.iface te pe] := by
  cases n with
  | zero => simp [DataW.trod] at h
  | succ n =>
    simp only [DataW.trod, Tryd.underlying59] at h
    split at h
    all_goals first
      | exact Or.inl rfl
      | exact Or.inr ⟨_, _, rfl⟩
      | (exfalso; simp_all; done)
theorem sentinel_cell {n : String} {d : DataW Unit} {r : List (String × DataW Unit)} {W : World} {g : Nat} (h : laidMet Tryd.prog ((n, d) :: r) W)
    (hg : Tryd.prog.globalNamed n = some g) (ht : (Tryd.prog.globals[g]?).map (·.type) = some 59) : ∃ ev, W.cell? ⟨g, 0, none⟩ = some ev ∧ (ev = .nilIface ∨ ∃ te pe, ev = .iface te pe) := by
  obtain ⟨ps, ⟨g0, t0, cs0, f0, p0, q0, hg0, ht0, hv0, hd0, _, _⟩, _, _⟩ := h
  obtain rfl := Option.some.inj (hg.symm.trans hg0)
  obtain rfl := Option.some.inj (ht.symm.trans ht0)
  obtain ⟨l0⟩ := cs0
  have hc := World.var?_cell hg0 hv0 0
  rcases iface_of_trod hd0 with e | ⟨te, pe, e⟩
  · simp only at e
    subst e
    exact ⟨.nilIface, by simpa using hc, .inl rfl⟩
  · simp only at e
    subst e
    exact ⟨.iface te pe, by simpa using hc, .inr ⟨te, pe, rfl⟩⟩
theorem env_of_laid {W : World} (h : laidMetH Tryd.prog laidAll W) (hs : W.ShapedOpen Tryd.prog) : EnvW W := by
  have h1 : laidMet Tryd.prog laidAll W := by
    rw [MakeChecks.laidMetH_plain Tryd.prog laidAll W (by kernel_rfl)] at h
    exact h
  refine ⟨?_, ?_, ?_, ?_⟩
  · exact cell_of_shapedOpen_int (t := 3) (zero := #[.int .i64 0]) hs (of_decide_eq_true (by kernel_rfl)) (by kernel_rfl) rfl (by kernel_rfl) (by kernel_rfl) Tryd.underlying3
  · exact sentinel_cell h1.tail.tail.tail.tail.tail (by kernel_rfl) (by kernel_rfl)
  · exact sentinel_cell h1.tail.tail.tail.tail (by kernel_rfl) (by kernel_rfl)
  · exact Lib.tabIs_of_head (g := 5) (t := 146) (e := 131) (n := 20) (by kernel_rfl) (by kernel_rfl) (by kernel_rfl) (by kernel_rfl) (by kernel_rfl) (by kernel_rfl) h1.tail.tail
/-- The witness's start meets the rows' condition. -/
theorem door_met (os : Os) (args : Array Value) : laidMetH Tryd.prog laidAll ((World.laidAll Tryd.prog os laidAll).forCall (fun _ _ => 0) ⟨#[], args, []⟩).memory := by
  rw [MakeChecks.laidMetH_plain Tryd.prog laidAll _ (by kernel_rfl)]
  exact laidMet_laidAll _ (by kernel_rfl) (by kernel_rfl)
end Go.Proofs.YtmgafakahbanaaaDoor.Pa
