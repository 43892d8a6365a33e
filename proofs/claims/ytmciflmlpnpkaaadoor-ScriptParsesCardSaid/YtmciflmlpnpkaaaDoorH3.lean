import Derived.Test.YtmciflmlpnpkaaaDoorH2
namespace Go.Proofs.YtmciflmlpnpkaaaDoor.Pa
open Go.RowKit Go.Proofs.YtmciflmlpnpkaaaDoorW.PrintWords Go.Proofs.YtmciflmlpnpkaaaDoorW.PrintLast Go.Proofs.YtmciflmlpnpkaaaDoorW.PrintMore
set_option linter.unusedVariables false
set_option linter.unusedSimpArgs false
def wordB (c : Int) : Bool := (decide (97 ≤ c) && decide (c ≤ 122)) || (decide (48 ≤ c) && decide (c ≤ 57))
theorem wordB_calls (c : Int) (w : World) : Calls Tryd.prog 88 #[.int .u8 c] w fun e w' => e = .returned (.bool (wordB c)) ∧ w' = w := by
  go_enter Tryd.func88, Tryd.ntmps88
  go_wp2_with (first | (go_at_call 70; refine (letter_calls _ _).mono ?_; rintro e w1 ⟨rfl, rfl⟩) | (go_at_call 89; refine (digit_calls _ _).mono ?_; rintro e w1 ⟨rfl, rfl⟩))
  · go_ret
    exact ⟨rfl, rfl⟩
  · rename_i h
    go_ret
    exact ⟨by simp [wordB]; omega, rfl⟩
def wordLen (l : List UInt8) : Nat := (l.takeWhile fun b => wordB (b.toNat : Int)).length
theorem wordLen_le (l : List UInt8) : wordLen l ≤ l.length := List.Sublist.length_le (List.takeWhile_sublist _)
theorem wordLen_in : ∀ (l : List UInt8) (j : Nat), j < wordLen l → wordB ((l.getD j 0).toNat : Int) = true
  | [], j, h => by simp [wordLen] at h
  | b :: l, j, h => by
    by_cases hb : wordB (b.toNat : Int) = true
    · cases j with
      | zero => exact hb
      | succ j =>
        have e : wordLen (b :: l) = wordLen l + 1 := by unfold wordLen; rw [List.takeWhile_cons_of_pos (p := fun b : UInt8 => wordB (b.toNat : Int)) hb]; rfl
        have := wordLen_in l j (by omega)
        simpa using this
    · have e : wordLen (b :: l) = 0 := by unfold wordLen; rw [List.takeWhile_cons_of_neg (p := fun b : UInt8 => wordB (b.toNat : Int)) hb]; rfl
      omega
theorem wordLen_at : ∀ (l : List UInt8), wordLen l < l.length → wordB ((l.getD (wordLen l) 0).toNat : Int) = false
  | [], h => by simp at h
  | b :: l, h => by
    by_cases hb : wordB (b.toNat : Int) = true
    · have e : wordLen (b :: l) = wordLen l + 1 := by unfold wordLen; rw [List.takeWhile_cons_of_pos (p := fun b : UInt8 => wordB (b.toNat : Int)) hb]; rfl
      rw [e] at h ⊢
      have := wordLen_at l (by simpa using h)
      simpa using this
    · have e : wordLen (b :: l) = 0 := by unfold wordLen; rw [List.takeWhile_cons_of_neg (p := fun b : UInt8 => wordB (b.toNat : Int)) hb]; rfl
      rw [e]
      simpa using hb
set_option maxHeartbeats 1000000 in
theorem run_calls (B : Nat) (s : ByteArray) (w : World) (hs : w.cell? ⟨B, 0, none⟩ = some (.string s)) (hB : B < w.heap.size) (hsz : s.size ≤ 1000000) :
    Calls Tryd.prog 87 #[.func (.func 88) #[] #[], .pointer (some ⟨B, 0, none⟩)] w fun e w' => e = .returned (.int .i64 (wordLen s.data.toList)) ∧ Below w.heap.size w w' := by
  have hle := wordLen_le s.data.toList
  have hl : s.data.toList.length = s.size := by simp
  have HIn := Lib.hid (wordLen_in s.data.toList)
  have HAt := Lib.hid (wordLen_at s.data.toList)
  rw [hl] at hle HAt
  generalize hn : wordLen s.data.toList = n at hle HIn HAt ⊢
  have HN := Lib.hid hn
  clear hn hl
  go_enter Tryd.func87, Tryd.ntmps87
  go_wp2
  go_loopw [4] (fun v wr => ∃ j : Nat, j ≤ n ∧ v = .int .i64 j ∧ Aside0 (Below w.heap.size w wr)) (fun v _ => n + 1 - (intOf v).toNat)
  case atStart => exact ⟨0, by omega, rfl, ⟨Below.refl _ _⟩⟩
  case round =>
    obtain ⟨j, hj, rfl, HB⟩ := hrel
    have hcell := (HB.out.cell hB).trans hs
    by_cases hjs : j < s.size
    · have hbt : ∀ h : j < s.size, ((s[j]'h).toNat : Int) = ((s.data.toList.getD j 0).toNat : Int) := fun h => by
        rw [List.getD_eq_getElem?_getD, List.getElem?_eq_getElem (by simpa using h)]
        simp
        rfl
      by_cases hjn : j < n
      · have hb := HIn.out j hjn
        generalize ((s.data.toList.getD j 0).toNat : Int) = c at hb hbt
        have HC : ∀ w, Hid (Calls Tryd.prog 88 #[.int .u8 c] w fun e w' => e = .returned (.bool true) ∧ w' = w) := fun w => Lib.hid (by have := wordB_calls c w; rw [hb] at this; exact this)
        clear hb
        go_wp2_with (go_at_call 88; refine (HC _).out.mono ?_; rintro e w1 ⟨rfl, rfl⟩)
        go_roundw
        case rel => exact ⟨j + 1, by omega, by go_num, HB⟩
        case measure => simp [intOf]; omega
      · have ej : j = n := by omega
        subst ej
        have hb := HAt.out hjs
        generalize ((s.data.toList.getD j 0).toNat : Int) = c at hb hbt
        have HC : ∀ w, Hid (Calls Tryd.prog 88 #[.int .u8 c] w fun e w' => e = .returned (.bool false) ∧ w' = w) := fun w => Lib.hid (by have := wordB_calls c w; rw [hb] at this; exact this)
        clear hb
        go_wp2_with (go_at_call 88; refine (HC _).out.mono ?_; rintro e w1 ⟨rfl, rfl⟩)
        go_ret
        exact ⟨rfl, HB.out⟩
    · obtain rfl : j = n := by omega
      go_wp2
      go_ret
      exact ⟨rfl, HB.out⟩
end Go.Proofs.YtmciflmlpnpkaaaDoor.Pa
