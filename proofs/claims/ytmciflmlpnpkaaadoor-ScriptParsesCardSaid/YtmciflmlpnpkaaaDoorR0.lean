import Derived.Test.YtmciflmlpnpkaaaDoorRows
import Derived.Test.YtmciflmlpnpkaaaDoorH1
import Derived.WalkKit
import Derived.ProofKit
import Derived.OpenShut
import Derived.ShutString
import Derived.ChangeOld
import Derived.SizedLaws
import Derived.LaidMore
import Derived.Stop.Joined
import Derived.Stop.LaidErr
import Derived.Lib.LaidTab
import Derived.Shelf.Vars
import Derived.HandedShaped
import Derived.Lay
namespace Go.Proofs.YtmciflmlpnpkaaaDoor.Pa
open Go.RowKit
open Go.ChangeShapes Go.WideShapes Go.ChangeAt
set_option linter.unusedVariables false
set_option linter.unusedSimpArgs false

/-! ### what the rows list, as the calls read it -/
def laidAll : List (String × DataW Unit) := [("math/bits.deBruijn32tab", Rows.laid_math_bits_deBruijn32tab), ("math/bits.deBruijn64tab", Rows.laid_math_bits_deBruijn64tab), ("internal/strconv.uint64pow10", Rows.laid_internal_strconv_uint64pow10), ("unicode/utf8.acceptRanges", Rows.laid_unicode_utf8_acceptRanges), ("strconv.ErrRange", Rows.laid_strconv_ErrRange), ("strconv.ErrSyntax", Rows.laid_strconv_ErrSyntax), ("unicode.White_Space", Rows.laid_unicode_White_Space), ("strings.asciiSpace", Rows.laid_strings_asciiSpace), ("ontime/script.shapes", Rows.laid_ontime_script_shapes), ("unicode/utf8.first", Rows.laid_unicode_utf8_first)]
theorem seatOwn : ownKnob Tryd.prog.godebug = none := by kernel_rfl
theorem iface_of_trod {H : Type} {enc : TypeId × Value → H} {W : World} {b : Nat} {sp : Nat → Bool} {held : Bool} {n : Nat} {cs : List Value} {x : DataW H × List MemPlace} (h : DataW.trod enc Tryd.prog W b sp held n 63 cs = some x) :
    cs = [.nilIface] ∨ ∃ te pe, cs = [.iface te pe] := by
  cases n with
  | zero => simp [DataW.trod] at h
  | succ n =>
    simp only [DataW.trod, Tryd.underlying63] at h
    split at h
    all_goals first
      | exact Or.inl rfl
      | exact Or.inr ⟨_, _, rfl⟩
      | (exfalso; simp_all; done)
theorem sentinel_cell {n : String} {d : DataW Unit} {r : List (String × DataW Unit)} {W : World} {g : Nat} (h : laidMet Tryd.prog ((n, d) :: r) W)
    (hg : Tryd.prog.globalNamed n = some g) (ht : (Tryd.prog.globals[g]?).map (·.type) = some 63) : ∃ ev, W.cell? ⟨g, 0, none⟩ = some ev ∧ (ev = .nilIface ∨ ∃ te pe, ev = .iface te pe) := by
  obtain ⟨ps, ⟨g0, t0, cs0, f0, p0, q0, hg0, ht0, hv0, hd0, _, _⟩, _, _⟩ := h
  obtain rfl := Option.some.inj (hg.symm.trans hg0)
  obtain rfl := Option.some.inj (ht.symm.trans ht0)
  obtain ⟨l0⟩ := cs0
  have hc := World.var?_cell hg0 hv0 0
  rcases iface_of_trod hd0 with e | ⟨te, pe, e⟩
  · simp only at e
    subst e
    exact ⟨.nilIface, by simpa using hc, .inl rfl⟩
  · simp only at e
    subst e
    exact ⟨.iface te pe, by simpa using hc, .inr ⟨te, pe, rfl⟩⟩
def shpD {H : Type} (s : Shp) : DataW H := .agg [.lit (.string s.word), .lit (.bool s.name), .lit (.bool s.text), .lit (.int .i64 s.least), .lit (.int .i64 s.most)]
theorem shapes_data : (Rows.laid_ontime_script_shapes : DataW Unit) = .agg (shapesL.map shpD) := rfl
theorem one_of_take {l : List Value} {i : Nat} {v : Value} (h : (l.drop i).take 1 = [v]) : l[i]? = some v := by
  have := congrArg (·[0]?) h
  simpa [List.getElem?_take, List.getElem?_drop] using this
theorem shape_of_trod {W : World} {enc : TypeId × Value → Unit} {b : Nat} {sp : Nat → Bool} {held : Bool} {n : Nat} {cs : List Value} {s : Shp} {q : List MemPlace} (h : DataW.trod enc Tryd.prog W b sp held n 83 cs = some (shpD s, q)) :
    ∀ (i : Nat) (v : Value), (shpCells s)[i]? = some v → cs[i]? = some v := by
  obtain ⟨ys, m, hm, hx, hl, hlen, hf⟩ := DataW.trod_struct Tryd.underlying83 h
  have c9 : Tryd.prog.cellsOf 9 = 1 := by kernel_rfl
  have c4 : Tryd.prog.cellsOf 4 = 1 := by kernel_rfl
  have c3 : Tryd.prog.cellsOf 3 = 1 := by kernel_rfl
  have h0 : DataW.trod enc Tryd.prog W b sp held m 9 ((cs.drop 0).take (Tryd.prog.cellsOf 9)) = ys[0]? := hf 0 _ rfl
  rw [c9] at h0
  have h1 : DataW.trod enc Tryd.prog W b sp held m 4 ((cs.drop 1).take (Tryd.prog.cellsOf 4)) = ys[1]? := hf 1 _ rfl
  rw [c4] at h1
  have h2 : DataW.trod enc Tryd.prog W b sp held m 4 ((cs.drop 2).take (Tryd.prog.cellsOf 4)) = ys[2]? := hf 2 _ rfl
  rw [c4] at h2
  have h3 : DataW.trod enc Tryd.prog W b sp held m 3 ((cs.drop 3).take (Tryd.prog.cellsOf 3)) = ys[3]? := hf 3 _ rfl
  rw [c3] at h3
  have h4 : DataW.trod enc Tryd.prog W b sp held m 3 ((cs.drop 4).take (Tryd.prog.cellsOf 3)) = ys[4]? := hf 4 _ rfl
  rw [c3] at h4
  match ys, hlen with
  | [y0, y1, y2, y3, y4], _ =>
    (try simp only [List.getElem?_cons_zero, List.getElem?_cons_succ] at h0 h1 h2 h3 h4)
    obtain ⟨z0, e0, x0, _⟩ := DataW.trod_string Tryd.underlying9 h0
    obtain ⟨z1, e1, x1⟩ := DataW.trod_bool Tryd.underlying4 h1
    obtain ⟨z2, e2, x2⟩ := DataW.trod_bool Tryd.underlying4 h2
    obtain ⟨z3, e3, x3, _⟩ := DataW.trod_int Tryd.underlying3 h3
    obtain ⟨z4, e4, x4, _⟩ := DataW.trod_int Tryd.underlying3 h4
    have hx1 := congrArg Prod.fst hx
    rw [x0, x1, x2, x3, x4] at hx1
    simp only [shpD, List.map_cons, List.map_nil, DataW.agg.injEq, List.cons.injEq, DataW.lit.injEq, Lit.string.injEq, Lit.bool.injEq, Lit.int.injEq, true_and, and_true] at hx1
    obtain ⟨a0, a1, a2, a3, a4⟩ := hx1
    have b0 := one_of_take e0
    have b1 := one_of_take e1
    have b2 := one_of_take e2
    have b3 := one_of_take e3
    have b4 := one_of_take e4
    have es : z0 = str s.word := by rw [a0]; exact (str_of z0).symm
    subst es
    subst a1 a2 a3 a4
    intro i v hv
    match i, hv with
    | 0, hv => exact b0.trans hv
    | 1, hv => exact b1.trans hv
    | 2, hv => exact b2.trans hv
    | 3, hv => exact b3.trans hv
    | 4, hv => exact b4.trans hv
    | i + 5, hv => simp [shpCells] at hv
theorem shapes_of_laid {r : List (String × DataW Unit)} {W : World} (h : laidMet Tryd.prog (("ontime/script.shapes", Rows.laid_ontime_script_shapes) :: r) W) :
    ∀ (j : Nat) (s : Shp), shapesL[j]? = some s → ∀ (i : Nat) (v : Value), (shpCells s)[i]? = some v → W.cell? ⟨0, j * 5 + i, none⟩ = some v := by
  obtain ⟨ps, ⟨g0, t0, cs0, f0, p0, q0, hg0, ht0, hv0, hd0, _, _⟩, _, _⟩ := h
  obtain rfl := Option.some.inj ((by kernel_rfl : Tryd.prog.globalNamed "ontime/script.shapes" = some 0).symm.trans hg0)
  obtain rfl := Option.some.inj ((by kernel_rfl : (Tryd.prog.globals[0]?).map (·.type) = some 84).symm.trans ht0)
  obtain ⟨l0⟩ := cs0
  rw [shapes_data] at hd0
  obtain ⟨xs, m, _, hx, _, hxl, hf⟩ := DataW.trod_array Tryd.underlying84 hd0
  have c83 : Tryd.prog.cellsOf 83 = 5 := by kernel_rfl
  have hx1 : shapesL.map shpD = xs.map (·.1) := by
    have := congrArg Prod.fst hx
    simpa using this
  intro j s hs i v hv
  have hj : j < 11 := (List.getElem?_eq_some_iff.1 hs).1
  have h1 := hf j hj
  have h2 : (xs.map (·.1))[j]? = some (shpD s) := by rw [← hx1, List.getElem?_map, hs]; rfl
  rw [List.getElem?_map] at h2
  cases hxj : xs[j]? with
  | none => rw [hxj] at h2; cases h2
  | some y =>
    obtain ⟨d, q⟩ := y
    rw [hxj] at h2 h1
    simp only [Option.map_some, Option.some.injEq] at h2
    subst h2
    have h3 := shape_of_trod h1 i v hv
    rw [c83] at h3
    have hi : i < 5 := (List.getElem?_eq_some_iff.1 hv).1
    rw [List.getElem?_take, if_pos hi, List.getElem?_drop] at h3
    have hc := World.var?_cell hg0 hv0 (j * 5 + i)
    rw [hc]
    simpa using h3
set_option maxRecDepth 100000 in
theorem env_of_laid {W : World} (h : laidMetH Tryd.prog laidAll W) (hs : W.ShapedOpen Tryd.prog) : EnvW W := by
  have h1 : laidMet Tryd.prog laidAll W := by
    rw [MakeChecks.laidMetH_plain Tryd.prog laidAll W (by kernel_rfl)] at h
    exact h
  refine ⟨?_, ?_, ?_, ?_, ?_, ?_⟩
  · exact cell_of_shapedOpen_int (t := 3) (zero := #[.int .i64 0]) hs (of_decide_eq_true (by kernel_rfl)) (by kernel_rfl) rfl (by kernel_rfl) (by kernel_rfl) Tryd.underlying3
  · exact sentinel_cell h1.tail.tail.tail.tail.tail (by kernel_rfl) (by kernel_rfl)
  · exact sentinel_cell h1.tail.tail.tail.tail (by kernel_rfl) (by kernel_rfl)
  · exact Lib.tabIs_of_head (g := 8) (t := 147) (e := 91) (n := 20) (by kernel_rfl) (by kernel_rfl) (by kernel_rfl) (by kernel_rfl) (by kernel_rfl) (by kernel_rfl) h1.tail.tail
  · exact Lib.tabIs_of_head (g := 2) (t := 119) (e := 5) (n := 256) (by kernel_rfl) (by kernel_rfl) (by kernel_rfl) (by kernel_rfl) (by kernel_rfl) (by kernel_rfl) h1.tail.tail.tail.tail.tail.tail.tail
  · exact shapes_of_laid h1.tail.tail.tail.tail.tail.tail.tail.tail
theorem wf_u8 {z : Int} (h : (Lit.int .u8 z).wf = true) : 0 ≤ z ∧ z < 256 := by
  simp [Lit.wf, IntKind.min, IntKind.max] at h
  simp [IntKind.bits, IntKind.signed] at h
  omega
theorem wf_i64 {z : Int} (h : (Lit.int .i64 z).wf = true) : -9223372036854775808 ≤ z ∧ z ≤ 9223372036854775807 := by
  simp [Lit.wf, IntKind.min, IntKind.max] at h
  simp [IntKind.bits, IntKind.signed] at h
  omega
/-- The witness's start meets the rows' condition. -/
theorem door_met (os : Os) (args : Array Value) : laidMetH Tryd.prog laidAll ((World.laidAll Tryd.prog os laidAll).forCall (fun _ _ => 0) ⟨#[], args, []⟩).memory := by
  rw [MakeChecks.laidMetH_plain Tryd.prog laidAll _ (by kernel_rfl)]
  exact laidMet_laidAll _ (by kernel_rfl) (by kernel_rfl)
end Go.Proofs.YtmciflmlpnpkaaaDoor.Pa
