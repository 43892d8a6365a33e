import Derived.Test.YtmciflmlpnpkaaaDoorH9
namespace Go.Proofs.YtmciflmlpnpkaaaDoor.Pa
open Go.RowKit Go.Proofs.YtmciflmlpnpkaaaDoorW.PrintWords Go.Proofs.YtmciflmlpnpkaaaDoorW.PrintLast Go.Proofs.YtmciflmlpnpkaaaDoorW.PrintMore
set_option linter.unusedVariables false
set_option linter.unusedSimpArgs false

/-! ### the shape of a kind -/
def findR (a : Int) : Option Shp := if 1 ≤ a ∧ a ≤ 11 then shapesL[(a - 1).toNat]? else none
set_option maxRecDepth 100000 in
set_option maxHeartbeats 2000000 in
theorem find_no (a : Int) (w : World) (h : ¬ (1 ≤ a ∧ a ≤ 11)) :
    Calls Tryd.prog 58 #[.int .u8 a] w fun e w' => e = .returned (.tuple #[.agg #[.string ⟨#[]⟩, .bool false, .bool false, .int .i64 0, .int .i64 0], .bool false]) ∧ Below w.heap.size w w' := by
  have hu83 := Tryd.underlying83
  have hb : Below w.heap.size w (w.alloc (.cells #[.string ⟨#[]⟩, .bool false, .bool false, .int .i64 0, .int .i64 0] 83)) := below_alloc (Below.refl _ _) _
  have hblk := blk_new w (.cells #[.string ⟨#[]⟩, .bool false, .bool false, .int .i64 0, .int .i64 0] 83)
  by_cases h1 : a < 1
  · have h2 : decide (a < 1) = true := decide_eq_true h1
    go_enter Tryd.func58, Tryd.ntmps58
    go_wp2
    refine bodyPost_ret (results_ct rfl _ _ w.heap.size 83 #[.string ⟨#[]⟩, .bool false, .bool false, .int .i64 0, .int .i64 0] (0, 0) _ rfl ?_ Tryd.underlying83 rfl (by kernel_rfl)) rfl ?_
    · exact hblk
    · exact ⟨rfl, hb⟩
  · have h2 : decide (a < 1) = false := decide_eq_false h1
    have h3 : decide (11 < a) = true := decide_eq_true (by omega)
    go_enter Tryd.func58, Tryd.ntmps58
    go_wp2
    refine bodyPost_ret (results_ct rfl _ _ w.heap.size 83 #[.string ⟨#[]⟩, .bool false, .bool false, .int .i64 0, .int .i64 0] (0, 0) _ rfl ?_ Tryd.underlying83 rfl (by kernel_rfl)) rfl ?_
    · exact hblk
    · exact ⟨rfl, hb⟩
set_option maxRecDepth 100000 in
set_option maxHeartbeats 2000000 in
theorem find_yes (j : Nat) (sh : Shp) (hsh : shapesL[j]? = some sh) (a : Int) (ha : a = (j : Int) + 1) (w : World) (hE : EnvW w) :
    Calls Tryd.prog 58 #[.int .u8 a] w fun e w' => e = .returned (.tuple #[.agg #[.string (str sh.word), .bool sh.name, .bool sh.text, .int .i64 sh.least, .int .i64 sh.most], .bool true]) ∧ Below w.heap.size w w' := by
  have hu83 := Tryd.underlying83
  have hj : j < 11 := (List.getElem?_eq_some_iff.1 hsh).1
  have hb : Below w.heap.size w (w.alloc (.cells #[.string ⟨#[]⟩, .bool false, .bool false, .int .i64 0, .int .i64 0] 83)) := below_alloc (Below.refl _ _) _
  have hblk := blk_new w (.cells #[.string ⟨#[]⟩, .bool false, .bool false, .int .i64 0, .int .i64 0] 83)
  have h2 : decide (a < 1) = false := decide_eq_false (by omega)
  have h3 : decide (11 < a) = false := decide_eq_false (by omega)
  have hsub : (a - 1) % 256 = (j : Int) := by omega
  have hi0 : 0 ≤ (j : Int) := by omega
  have hi1 : (j : Int) < 11 := by omega
  have c0 : ∀ X, (w.alloc X).cell? ⟨0, j * 5, none⟩ = some (.string (str sh.word)) := fun X => (hE.below (below_alloc (Below.refl _ _) X)).shp j sh hsh 0 _ rfl
  have c1 : ∀ X, (w.alloc X).cell? ⟨0, j * 5 + 1, none⟩ = some (.bool sh.name) := fun X => (hE.below (below_alloc (Below.refl _ _) X)).shp j sh hsh 1 _ rfl
  have c2 : ∀ X, (w.alloc X).cell? ⟨0, j * 5 + 2, none⟩ = some (.bool sh.text) := fun X => (hE.below (below_alloc (Below.refl _ _) X)).shp j sh hsh 2 _ rfl
  have c3 : ∀ X, (w.alloc X).cell? ⟨0, j * 5 + 3, none⟩ = some (.int .i64 sh.least) := fun X => (hE.below (below_alloc (Below.refl _ _) X)).shp j sh hsh 3 _ rfl
  have c4 : ∀ X, (w.alloc X).cell? ⟨0, j * 5 + 4, none⟩ = some (.int .i64 sh.most) := fun X => (hE.below (below_alloc (Below.refl _ _) X)).shp j sh hsh 4 _ rfl
  clear ha hsh
  go_enter Tryd.func58, Tryd.ntmps58
  go_wp2
  refine bodyPost_ret (results_ct rfl _ _ w.heap.size 83 #[.string (str sh.word), .bool sh.name, .bool sh.text, .int .i64 sh.least, .int .i64 sh.most] (0, 0) _ rfl ?_ Tryd.underlying83 rfl (by kernel_rfl)) rfl ?_
  · exact blk_new w _
  · exact ⟨rfl, below_alloc (Below.refl _ _) _⟩
def script_find.f (a : Int) : Option (ByteArray × Bool × Bool × Int × Int × Bool) := some (match findR a with
  | none => (⟨#[]⟩, false, false, 0, 0, false)
  | some sh => (str sh.word, sh.name, sh.text, sh.least, sh.most, true))
theorem script_find.calls (a : Int) (r1 : ByteArray) (r2 r3 : Bool) (r4 r5 : Int) (r6 : Bool) (w : World) (h : script_find.f a = some (r1, r2, r3, r4, r5, r6)) (hE : EnvW w) :
    Calls Tryd.prog 58 #[.int .u8 a] w fun e w' => e = .returned (.tuple #[.agg #[.string r1, .bool r2, .bool r3, .int .i64 r4, .int .i64 r5], .bool r6]) ∧ Below w.heap.size w w' := by
  have h := Option.some.inj h
  by_cases ha : 1 ≤ a ∧ a ≤ 11
  · obtain ⟨j, hj⟩ : ∃ j : Nat, a = (j : Int) + 1 := ⟨(a - 1).toNat, by omega⟩
    have hj2 : j < 11 := by omega
    obtain ⟨sh, hsh⟩ : ∃ sh, shapesL[j]? = some sh := ⟨shapesL[j]'(hj2), List.getElem?_eq_getElem _⟩
    have e : findR a = some sh := by
      unfold findR
      rw [if_pos ha, show (a - 1).toNat = j by omega, hsh]
    rw [e] at h
    simp only [Prod.mk.injEq] at h
    obtain ⟨rfl, rfl, rfl, rfl, rfl, rfl⟩ := h
    exact find_yes j sh hsh a hj w hE
  · have e : findR a = none := by
      unfold findR
      rw [if_neg ha]
    rw [e] at h
    simp only [Prod.mk.injEq] at h
    obtain ⟨rfl, rfl, rfl, rfl, rfl, rfl⟩ := h
    exact find_no a w ha
def lexer_Name.f (a0 : ByteArray) : Option Bool := if a0.size ≤ 1000000 then some (nameB a0.data.toList) else none
theorem lexer_Name.calls (a0 : ByteArray) (r : Bool) (w : World) (h : lexer_Name.f a0 = some r) (hE : EnvW w) :
    Calls Tryd.prog 49 #[.string a0] w fun e w' => e = .returned (.bool r) ∧ Below w.heap.size w w' := by
  unfold lexer_Name.f at h
  split at h
  · rename_i hs
    obtain rfl := Option.some.inj h
    exact name_calls a0 w hs hE
  · cases h
def strings_HasSuffix.f (a0 a1 : ByteArray) : Option Bool := if a0.size ≤ 1000000000000 then some (Lib.hasSuffix a0.data.toList a1.data.toList) else none
theorem strings_HasSuffix.calls (a0 a1 : ByteArray) (r : Bool) (w : World) (h : strings_HasSuffix.f a0 a1 = some r) :
    Calls Tryd.prog 20 #[.string a0, .string a1] w fun e w' => e = .returned (.bool r) ∧ Below w.heap.size w w' := by
  unfold strings_HasSuffix.f at h
  split at h
  · rename_i hs
    obtain rfl := Option.some.inj h
    exact (Tryd.strings_HasSuffix a0 a1 w (by omega)).mono fun e w' ⟨he, hw⟩ => ⟨he, hw ▸ Below.refl _ _⟩
  · cases h
end Go.Proofs.YtmciflmlpnpkaaaDoor.Pa
