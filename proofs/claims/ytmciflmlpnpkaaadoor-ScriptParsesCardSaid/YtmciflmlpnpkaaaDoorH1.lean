import Derived.Test.YtmciflmlpnpkaaaDoorPax0
import Derived.Test.YtmciflmlpnpkaaaDoorLib
import Derived.Lib.AppendIntMem
import Derived.Lib.ItoaNum
import Derived.Lib.ItoaLen
import Derived.Lib.AtoiAllCases
import Derived.Lib.Hide
namespace Go.Proofs.YtmciflmlpnpkaaaDoor.Pa
open Go.RowKit Go.Proofs.YtmciflmlpnpkaaaDoorW.PrintWords Go.Proofs.YtmciflmlpnpkaaaDoorW.PrintLast Go.Proofs.YtmciflmlpnpkaaaDoorW.PrintMore
set_option linter.unusedVariables false
set_option linter.unusedSimpArgs false

/-! ### texts -/
def str (l : List UInt8) : ByteArray := ⟨l.toArray⟩
theorem str_data (l : List UInt8) : (str l).data.toList = l := rfl
theorem str_size (l : List UInt8) : (str l).size = l.length := rfl
theorem str_of (s : ByteArray) : str s.data.toList = s := rfl
theorem str_append (a b : List UInt8) : str a ++ str b = str (a ++ b) := by
  apply ByteArray.ext
  simp [str]

/-! ### the shapes of the kinds -/
structure Shp where
  word : List UInt8
  name : Bool
  text : Bool
  least : Int
  most : Int
def shapesL : List Shp := [⟨[115, 111, 117, 114, 99, 101], false, true, 0, 0⟩, ⟨[109, 97, 99, 104, 105, 110, 101], false, false, 15, 15⟩, ⟨[99, 111, 109, 112, 105, 108, 101], false, false, 0, 0⟩, ⟨[97, 110, 97, 108, 121, 122, 101], false, false, 0, 0⟩, ⟨[97, 100, 109, 105, 116], false, false, 0, 0⟩, ⟨[97, 114, 114, 105, 118, 101], true, false, 0, 1000⟩, ⟨[105, 110, 112, 117, 116], false, false, 3, 3⟩, ⟨[114, 117, 110], false, false, 1, 1⟩, ⟨[116, 114, 97, 99, 101], false, false, 0, 0⟩, ⟨[97, 117, 100, 105, 116], false, false, 0, 0⟩, ⟨[115, 104, 111, 119], true, false, 0, 0⟩]
def shpCells (s : Shp) : List Value := [.string (str s.word), .bool s.name, .bool s.text, .int .i64 s.least, .int .i64 s.most]
/-- What the library and the program read of the package-level variables. -/
structure EnvW (w : World) : Prop where
  maxLen : ∃ m, w.cell? ⟨1, 0, none⟩ = some (.int .i64 m)
  syn : ∃ ev, w.cell? ⟨6, 0, none⟩ = some ev ∧ (ev = .nilIface ∨ ∃ te pe, ev = .iface te pe)
  rng : ∃ ev, w.cell? ⟨7, 0, none⟩ = some ev ∧ (ev = .nilIface ∨ ∃ te pe, ev = .iface te pe)
  pow : Lib.TabIs Tryd.prog w "internal/strconv.uint64pow10" .u64 Lib.pow10Tab
  asc : Lib.TabIs Tryd.prog w "strings.asciiSpace" .u8 Lib.asciiSpaceTab
  shp : ∀ (j : Nat) (s : Shp), shapesL[j]? = some s → ∀ (i : Nat) (v : Value), (shpCells s)[i]? = some v → w.cell? ⟨0, j * 5 + i, none⟩ = some v
theorem EnvW.below {w w1 : World} (h : EnvW w) (hb : Below w.heap.size w w1) : EnvW w1 := by
  obtain ⟨⟨m, h1⟩, ⟨e1, h2, k2⟩, ⟨e2, h3, k3⟩, h4, h5, h6⟩ := h
  exact ⟨⟨m, pw_cell_below hb h1⟩, ⟨e1, pw_cell_below hb h2, k2⟩, ⟨e2, pw_cell_below hb h3, k3⟩, Lib.tabBelow_of_tabIs h4 _ hb, Lib.tabBelow_of_tabIs h5 _ hb, fun j s hs i v hv => pw_cell_below hb (h6 j s hs i v hv)⟩
theorem bytesWorld_below (w : World) (e : TypeId) (s : ByteArray) : Below w.heap.size w (Lib.bytesWorld w e s) := by
  refine ⟨rfl, rfl, rfl, ?_, ?_⟩
  · rw [Lib.bytesWorld_size]; omega
  · intro i hi; exact Lib.bytesWorld_at_old w e s i hi

/-! ### numbers -/
theorem itoa_calls (n : Int) (w : World) (h0 : -9223372036854775808 ≤ n) (h1 : n ≤ 9223372036854775807) (hE : EnvW w) :
    Calls Tryd.prog 67 #[.int .i64 n] w fun e w' => e = .returned (.string (str (Lib.itoa n))) ∧ Below w.heap.size w w' :=
  (Tryd.strconv_Itoa n h0 h1 w hE.pow).mono fun e w' ⟨he, k, os, hw⟩ => ⟨he, hw ▸ Lib.below_grow _ _ (Nat.le_refl _) _ _⟩
theorem atoi_yes (s : ByteArray) (v : Int) (w : World) (hs : s.size ≤ 1000000) (h : Lib.atoiAll s.data.toList = .ok v) :
    Calls Tryd.prog 73 #[.string s] w fun e w' => e = .returned (.tuple #[.int .i64 v, .nilIface]) ∧ Below w.heap.size w w' :=
  (Tryd.strconv_Atoi_ok s (by omega) v h w).mono fun e w' ⟨he, hw⟩ => ⟨he, by
    rcases hw with rfl | ⟨t, rfl⟩
    · exact Below.refl _ _
    · exact bytesWorld_below _ _ _⟩
/-- The int that strconv.Atoi returns, with or without an error. -/
def numV (l : List UInt8) : Int := match Lib.atoiAll l with
  | .ok v => v
  | .range => Lib.atoiSat l
  | _ => 0
theorem atoi_no (s : ByteArray) (w : World) (hs : s.size ≤ 1000000) (h : ∀ v, Lib.atoiAll s.data.toList ≠ .ok v) (hE : EnvW w) :
    Calls Tryd.prog 73 #[.string s] w fun e w' => ∃ (N : Nat), e = .returned (.tuple #[.int .i64 (numV s.data.toList), .iface 125 (.pointer (some ⟨N, 0, none⟩))]) ∧ Below w.heap.size w w' := by
  unfold numV
  cases hh : Lib.atoiAll s.data.toList
  all_goals first
    | exact absurd hh (h _)
    | (obtain ⟨ev, h1, h2⟩ := hE.rng
       exact (Tryd.strconv_Atoi_range s (by omega) hh ev w h1 h2).mono fun e w' ⟨N, he, _, _, hb⟩ => ⟨N, he, hb⟩)
    | (obtain ⟨ev, h1, h2⟩ := hE.syn
       exact (Any.strconv_Atoi_syntax Tryd.laysC172 s (by omega) hh ev w h1 h2).mono fun e w' ⟨N, he, _, _, hb⟩ => ⟨N, he, hb⟩)
/-- What a word denotes. -/
def numO (l : List UInt8) : Option Int := match Lib.atoiAll l with
  | .ok v => if Lib.itoa v = l then some v else none
  | _ => none
def numB (l : List UInt8) : Bool := match Lib.atoiAll l with
  | .ok v => decide (Lib.itoa v = l)
  | _ => false
theorem numO_some {l : List UInt8} (h : numB l = true) : numO l = some (numV l) := by
  unfold numB at h
  unfold numO numV
  cases hh : Lib.atoiAll l
  all_goals rw [hh] at h
  all_goals first
    | exact if_pos (of_decide_eq_true h)
    | cases h
theorem numO_none {l : List UInt8} (h : numB l = false) : numO l = none := by
  unfold numB at h
  unfold numO
  cases hh : Lib.atoiAll l
  all_goals rw [hh] at h
  all_goals first
    | exact if_neg (of_decide_eq_false h)
    | rfl
theorem str_eq_iff (l : List UInt8) (s : ByteArray) : ((str l).toList == s.toList) = decide (l = s.data.toList) := by
  rw [ByteArray.toList_eq, ByteArray.toList_eq]
  by_cases h : l = s.data.toList
  · subst h; simp [str]
  · rw [decide_eq_false h, beq_eq_false_iff_ne]
    exact h
set_option maxHeartbeats 1000000 in
theorem number_calls (s : ByteArray) (w : World) (hs : s.size ≤ 1000000) (hE : EnvW w) :
    Calls Tryd.prog 50 #[.string s] w fun e w' => e = .returned (.tuple #[.int .i64 (numV s.data.toList), .bool (numB s.data.toList)]) ∧ Below w.heap.size w w' := by
  by_cases hv : ∃ v, Lib.atoiAll s.data.toList = .ok v
  · obtain ⟨v, hv⟩ := hv
    have hr : -9223372036854775808 ≤ v ∧ v ≤ 9223372036854775807 := by
      exact Lib.atoiAll_bounds hv
    have hn : numB s.data.toList = decide (Lib.itoa v = s.data.toList) := by
      unfold numB
      rw [hv]
    have hn2 : numV s.data.toList = v := by
      unfold numV
      rw [hv]
    rw [hn, hn2]
    have HA := fun w => Lib.hid (atoi_yes s v w hs hv)
    have hq := str_eq_iff (Lib.itoa v) s
    have HQ := Lib.hid hq
    have HI := fun w hE => Lib.hid (itoa_calls v w hr.1 hr.2 hE)
    clear hv hn hq hn2
    generalize decide (Lib.itoa v = s.data.toList) = bb at HQ ⊢
    generalize str (Lib.itoa v) = y at HI HQ
    have HE := Aside0.mk hE
    go_enter Tryd.func50, Tryd.ntmps50
    go_wp2_with (first | (go_at_call 73; refine (HA _).out.mono ?_; rintro e w1 ⟨rfl, hb⟩; have HE1 := Aside0.mk (HE.out.below hb)) | (go_at_call 67; refine (HI _ HE1.out).out.mono ?_; rintro e w2 ⟨rfl, hb2⟩))
    go_ret2
    exact ⟨by rw [HQ.out]; rfl, below_then hb hb.size hb2⟩
  · have HA := Lib.hid (atoi_no s w hs (fun v h => hv ⟨v, h⟩) hE)
    have hn : numB s.data.toList = false := by
      unfold numB
      cases hh : Lib.atoiAll s.data.toList
      all_goals first
        | rfl
        | exact absurd ⟨_, hh⟩ hv
    rw [hn]
    generalize numV s.data.toList = v at HA ⊢
    clear hn hv
    go_enter Tryd.func50, Tryd.ntmps50
    go_wp2_with (go_at_call 73; refine HA.out.mono ?_; rintro e w1 ⟨N, rfl, hb⟩)
    go_ret2
    exact ⟨rfl, hb⟩
end Go.Proofs.YtmciflmlpnpkaaaDoor.Pa
