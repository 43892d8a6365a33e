import Derived.Test.YtmciflmlpnpkaaaDoorH1
namespace Go.Proofs.YtmciflmlpnpkaaaDoor.Pa
open Go.RowKit Go.Proofs.YtmciflmlpnpkaaaDoorW.PrintWords Go.Proofs.YtmciflmlpnpkaaaDoorW.PrintLast Go.Proofs.YtmciflmlpnpkaaaDoorW.PrintMore
set_option linter.unusedVariables false
set_option linter.unusedSimpArgs false

/-! ### names -/
def letB (b : UInt8) : Bool := decide (97 ≤ b.toNat) && decide (b.toNat ≤ 122)
def digB (b : UInt8) : Bool := decide (48 ≤ b.toNat) && decide (b.toNat ≤ 57)
def keyText : ByteArray := ⟨#[97, 114, 114, 97, 121, 32, 98, 111, 117, 110, 100, 32, 101, 108, 115, 101, 32, 102, 111, 114, 32, 105, 102, 32, 105, 110, 32, 108, 111, 99, 107, 32, 111, 117, 116, 32, 112, 101, 114, 105, 111, 100, 32, 115, 104, 97, 114, 101, 100, 32, 116, 97, 115, 107, 32, 118, 97, 114, 32, 119, 104, 105, 108, 101]⟩
def keysL : List (List UInt8) := [[97, 114, 114, 97, 121], [98, 111, 117, 110, 100], [101, 108, 115, 101], [102, 111, 114], [105, 102], [105, 110], [108, 111, 99, 107], [111, 117, 116], [112, 101, 114, 105, 111, 100], [115, 104, 97, 114, 101, 100], [116, 97, 115, 107], [118, 97, 114], [119, 104, 105, 108, 101]]
theorem keys_fields : Lib.fields keyText.data.toList = keysL := by kernel_rfl
theorem keys_ascii : ∀ (j : Nat) b, keyText.data.toList[j]? = some b → b.toNat < 128 := by
  have h : (keyText.data.toList.all fun b => decide (b.toNat < 128)) = true := by kernel_rfl
  intro j b hb
  have := List.all_eq_true.1 h b (List.mem_of_getElem? hb)
  simpa using this
theorem letter_calls (c : Int) (w : World) : Calls Tryd.prog 70 #[.int .u8 c] w fun e w' => e = .returned (.bool (decide (97 ≤ c) && decide (c ≤ 122))) ∧ w' = w := by
  go_enter Tryd.func70, Tryd.ntmps70
  go_wp2
  · rename_i h
    go_ret
    exact ⟨by simp [h], rfl⟩
  · rename_i h
    go_ret
    exact ⟨by simp; omega, rfl⟩
theorem digit_calls (c : Int) (w : World) : Calls Tryd.prog 89 #[.int .u8 c] w fun e w' => e = .returned (.bool (decide (48 ≤ c) && decide (c ≤ 57))) ∧ w' = w := by
  go_enter Tryd.func89, Tryd.ntmps89
  go_wp2
  · rename_i h
    go_ret
    exact ⟨by simp [h], rfl⟩
  · rename_i h
    go_ret
    exact ⟨by simp; omega, rfl⟩
theorem contains_keys (s : ByteArray) : Lib.containsS (keysL.map str) s = decide (s.data.toList ∈ keysL) := by
  have h := Lib.containsS_iff (keysL.map str) s
  by_cases hm : s.data.toList ∈ keysL
  · rw [decide_eq_true hm]
    exact h.2 (List.mem_map.2 ⟨_, hm, rfl⟩)
  · rw [decide_eq_false hm]
    cases hc : Lib.containsS (keysL.map str) s with
    | false => rfl
    | true =>
      obtain ⟨a, ha, e⟩ := List.mem_map.1 (h.1 hc)
      exact absurd (by rw [← e]; exact ha) hm
set_option maxHeartbeats 1000000 in
theorem keyword_calls (s : ByteArray) (w : World) (hE : EnvW w) : Calls Tryd.prog 71 #[.string s] w fun e w' => e = .returned (.bool (decide (s.data.toList ∈ keysL))) ∧ Below w.heap.size w w' := by
  have hf := Tryd.strings_Fields keyText w (by decide) keys_ascii hE.asc
  rw [keys_fields] at hf
  have hl : keysL.length = 13 := rfl
  have hc := Tryd.slices_Contains_string w.heap.size 0 13 13 (keysL.map str) s (w.alloc (.cells ((keysL.map fun l => Value.string ⟨l.toArray⟩).toArray) 9)) (by rw [List.length_map, hl]; decide) (by decide) (fun j hj => by
    rw [List.length_map] at hj
    rw [Nat.zero_add]
    refine (World.cell?_alloc_mark _ _ _ _ _).trans ?_
    simp [List.getElem?_eq_getElem hj, List.getD_eq_getElem?_getD, str])
  rw [List.take_of_length_le (by rw [List.length_map, hl]; decide), contains_keys] at hc
  rw [hl] at hf
  have HF := Lib.hid hf
  have HC := Lib.hid hc
  have HB := Aside0.mk (below_alloc (Below.refl w.heap.size w) (.cells ((keysL.map fun l => Value.string ⟨l.toArray⟩).toArray) 9))
  clear hf hc
  generalize (keysL.map fun l => Value.string ⟨l.toArray⟩).toArray = cs at HF HC HB
  go_enter Tryd.func71, Tryd.ntmps71
  go_wp2_with (first | (go_at_call 86; refine HF.out.mono ?_; rintro e w1 ⟨rfl, rfl⟩) | (go_at_call 85; refine HC.out.mono ?_; rintro e w1 ⟨rfl, rfl⟩))
  go_ret
  exact ⟨rfl, HB.out⟩
end Go.Proofs.YtmciflmlpnpkaaaDoor.Pa
