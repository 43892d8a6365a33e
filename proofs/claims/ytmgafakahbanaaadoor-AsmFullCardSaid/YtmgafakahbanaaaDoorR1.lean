import Derived.Test.YtmgafakahbanaaaDoorR0
import Derived.Deep.Slices
import Derived.Deep.Fields
import Derived.ChangeSame
import Derived.Below
namespace Go.Proofs.YtmgafakahbanaaaDoor.Pa
open Go.RowKit Go.Proofs.YtmgafakahbanaaaDoorW.PrintWords
open Go.ChangeShapes Go.WideShapes Go.ChangeAt Go.Deep
set_option linter.unusedVariables false
set_option linter.unusedSimpArgs false
-- the next section: the kit's paper 'extra-structs', copied as it says
section
variable {H : Type} {enc : TypeId × Value → H} {P : Program} {w : World} {base : Nat} {spare : Nat → Bool} {held : Bool}
theorem open_slice_fields {t e : TypeId} {fs : Array Field} {fuel : Nat} {cs : List Value} {x : DataW H × List MemPlace} (ht : P.underlying t = some (.slice e)) (he : P.underlying e = some (.struct fs))
    (hone : oneCellFields P fs = true) (hC : P.cellsOf e = fs.size) (h : DataW.trod enc P w base spare held fuel t cs = some x) :
    (cs = [.slice none 0 0] ∧ x = (.nil, [])) ∨
    ∃ (a : Addr) (len cap m : Nat) (D : Nat → DataW H) (Pl : Nat → List MemPlace), cs = [.slice (some a) len cap] ∧ base ≤ a.block ∧ len ≤ cap ∧ cap ≤ maxLen ∧ m = (if spare a.block then cap else len) ∧
      x = (.slice ((List.range len).map D) ((List.range (m - len)).map fun j => D (len + j)), MemPlace.row a (m * fs.size) ++ (List.range m).flatMap Pl) ∧
      ∀ i, i < m → ∃ (ys : List (DataW H × List MemPlace)) (n : Nat), D i = .agg (ys.map (·.1)) ∧ Pl i = ys.flatMap (·.2) ∧ ys.length = fs.size ∧
        ∀ (j : Nat) (f : Field), fs[j]? = some f → ∃ (v : Value) (y : DataW H × List MemPlace), w.cell? (a.add (i * fs.size + j)) = some v ∧ ys[j]? = some y ∧ DataW.trod enc P w base spare held n f.type [v] = some y := by
  rcases open_slice ht h with h0 | ⟨a, len, cap, m, n, D, Pl, hcs, hb, hl, hm, hmm, hx, hi⟩
  · exact .inl h0
  · refine .inr ⟨a, len, cap, m, D, Pl, hcs, hb, hl, hm, hmm, by rw [hC] at hx; exact hx, fun i him => ?_⟩
    obtain ⟨cs', hc, ht'⟩ := hi i him
    rw [hC] at hc
    obtain ⟨ys, n', hn', hy, hlen, hyl, hf⟩ := DataW.trod_struct he ht'
    obtain ⟨_, hcl, hat⟩ := World.cells?_some hc
    simp only [Prod.mk.injEq] at hy
    refine ⟨ys, n', hy.1, hy.2, hyl, fun j f hj => ?_⟩
    obtain ⟨ho, hk⟩ := hone_of hone j f hj
    have hjl : j < fs.size := (Array.getElem?_eq_some_iff.1 hj).1
    have hcell := hat j hjl
    have hv : cs'[j]? = some (cs'[j]'(by omega)) := List.getElem?_eq_getElem (by omega)
    have h1 := hf j f hj
    rw [ho, hk] at h1
    have hone' : (cs'.drop j).take 1 = [cs'[j]'(by omega)] := by
      rw [List.drop_eq_getElem_cons (by omega)]
      rfl
    rw [hone'] at h1
    have hys : ys[j]? = some (ys[j]'(by omega)) := List.getElem?_eq_getElem (by omega)
    refine ⟨_, _, ?_, hys, h1.trans hys⟩
    rw [← Go.Deep.add_add, hcell, hv]
end

/-! ### an argument that is a slice of instructions -/
def cellInt (w : World) (a : Addr) : Int := match w.cell? a with | some (.int _ z) => z | _ => 0
def instrAt (w : World) (a : Addr) (i : Nat) : S48 := ⟨cellInt w (a.add (i * 5 + 0)), cellInt w (a.add (i * 5 + 1)), cellInt w (a.add (i * 5 + 2)), cellInt w (a.add (i * 5 + 3)), cellInt w (a.add (i * 5 + 4))⟩
def instrsAt (w : World) (a : Addr) (len : Nat) : List S48 := (List.range len).map (instrAt w a)
theorem cellInt_of {w : World} {a : Addr} {k : IntKind} {z : Int} (h : w.cell? a = some (.int k z)) : cellInt w a = z := by unfold cellInt; rw [h]
theorem wf_u8 {z : Int} (h : (Lit.int .u8 z).wf = true) : 0 ≤ z ∧ z ≤ 255 := by
  simp [Lit.wf, IntKind.min, IntKind.max] at h
  simp [IntKind.bits, IntKind.signed] at h
  omega
theorem open_instrs {H : Type} {enc : TypeId × Value → H} {W : World} {base : Nat} {spare : Nat → Bool} {held : Bool} {A : Option Addr} {len cap : Nat} {d : DataW H} {ps : List MemPlace}
    (h : DataW.Trod enc Tryd.prog W base spare held 22 (.slice A len cap) d ps) : ∃ l : List S48, l.length = len ∧ l.length ≤ cap ∧ Kd.C k48 W A l.length l ∧ ∀ i ∈ l, opOk i = true := by
  obtain ⟨fuel, hf⟩ := h
  rcases open_slice_fields Tryd.underlying22 Tryd.underlying48 (by kernel_rfl) (by kernel_rfl) hf with ⟨hcs, _⟩ | ⟨a, l, c, m, D, Pl, hcs, hb, hl, hm, hmm, hx, hi⟩
  · simp [Value.cells] at hcs
    obtain ⟨rfl, rfl, rfl⟩ := hcs
    exact ⟨[], rfl, Nat.le_refl _, ⟨rfl, by simp, fun h => by simp at h⟩, fun i hi => by cases hi⟩
  · simp [Value.cells] at hcs
    obtain ⟨rfl, rfl, rfl⟩ := hcs
    have key : ∀ i, i < len → ∃ x0 x1 x2 x3 x4 : Int, W.cell? (a.add (i * 5 + 0)) = some (.int .u8 x0) ∧ W.cell? (a.add (i * 5 + 1)) = some (.int .i64 x1) ∧ W.cell? (a.add (i * 5 + 2)) = some (.int .i64 x2) ∧ W.cell? (a.add (i * 5 + 3)) = some (.int .i64 x3) ∧ W.cell? (a.add (i * 5 + 4)) = some (.int .i64 x4) ∧ 0 ≤ x0 ∧ x0 ≤ 255 := by
      intro i hil
      obtain ⟨ys, n, _, _, _, hfs⟩ := hi i (by rw [hmm]; split <;> omega)
      obtain ⟨v0, y0, c0, _, t0⟩ := hfs 0 _ rfl
      obtain ⟨v1, y1, c1, _, t1⟩ := hfs 1 _ rfl
      obtain ⟨v2, y2, c2, _, t2⟩ := hfs 2 _ rfl
      obtain ⟨v3, y3, c3, _, t3⟩ := hfs 3 _ rfl
      obtain ⟨v4, y4, c4, _, t4⟩ := hfs 4 _ rfl
      obtain ⟨z0, e0, _, w0⟩ := DataW.trod_int Tryd.underlying5 t0
      obtain ⟨z1, e1, _, _⟩ := DataW.trod_int Tryd.underlying3 t1
      obtain ⟨z2, e2, _, _⟩ := DataW.trod_int Tryd.underlying3 t2
      obtain ⟨z3, e3, _, _⟩ := DataW.trod_int Tryd.underlying3 t3
      obtain ⟨z4, e4, _, _⟩ := DataW.trod_int Tryd.underlying3 t4
      simp only [List.cons.injEq, and_true] at e0 e1 e2 e3 e4
      subst e0 e1 e2 e3 e4
      exact ⟨z0, z1, z2, z3, z4, c0, c1, c2, c3, c4, (wf_u8 w0).1, (wf_u8 w0).2⟩
    have hlen : (instrsAt W a len).length = len := by simp [instrsAt]
    refine ⟨instrsAt W a len, hlen, by rw [hlen]; exact hl, ⟨hlen.symm ▸ rfl, by rw [hlen]; have : maxLen = 9223372036854775807 := rfl; omega, fun _ => ⟨a, rfl, fun j p hp => ?_⟩⟩, fun i hi => ?_⟩
    · have hj : j < len := by
        have := (List.getElem?_eq_some_iff.1 hp).1
        rw [hlen] at this
        exact this
      have hpe : instrAt W a j = p := by
        simp [instrsAt, hj] at hp
        exact hp
      obtain ⟨x0, x1, x2, x3, x4, c0, c1, c2, c3, c4, _, _⟩ := key j hj
      have e0 := cellInt_of c0
      have e1 := cellInt_of c1
      have e2 := cellInt_of c2
      have e3 := cellInt_of c3
      have e4 := cellInt_of c4
      refine ⟨_, rfl, k48_mk W p, fun i u hu => ?_⟩
      rw [← hpe] at hu
      simp only [instrAt, e0, e1, e2, e3, e4] at hu
      have hs : k48.sz = 5 := rfl
      rw [hs]
      match i, hu with
      | 0, hu => exact c0.trans hu
      | 1, hu => exact c1.trans hu
      | 2, hu => exact c2.trans hu
      | 3, hu => exact c3.trans hu
      | 4, hu => exact c4.trans hu
      | i + 5, hu => simp at hu
    · simp only [instrsAt, List.mem_map, List.mem_range] at hi
      obtain ⟨j, hj, rfl⟩ := hi
      obtain ⟨x0, x1, x2, x3, x4, c0, _, _, _, _, g0, g1⟩ := key j hj
      simp only [opOk, instrAt, cellInt_of c0, Bool.and_eq_true, decide_eq_true_eq]
      exact ⟨g0, g1⟩
end Go.Proofs.YtmgafakahbanaaaDoor.Pa
