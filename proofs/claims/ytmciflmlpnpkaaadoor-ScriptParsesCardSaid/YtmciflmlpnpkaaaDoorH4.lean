import Derived.Test.YtmciflmlpnpkaaaDoorH3
namespace Go.Proofs.YtmciflmlpnpkaaaDoor.Pa
open Go.RowKit Go.Proofs.YtmciflmlpnpkaaaDoorW.PrintWords Go.Proofs.YtmciflmlpnpkaaaDoorW.PrintLast Go.Proofs.YtmciflmlpnpkaaaDoorW.PrintMore
set_option linter.unusedVariables false
set_option linter.unusedSimpArgs false
def headB (l : List UInt8) : Bool := match l with
  | [] => false
  | b :: _ => decide (97 ≤ (b.toNat : Int)) && decide ((b.toNat : Int) ≤ 122)
theorem first_byte (s : ByteArray) (h : 0 < s.size) : ∀ h : 0 < s.size, ((s[0]'h).toNat : Int) = ((s.data.toList.getD 0 0).toNat : Int) := fun h => by
  rw [List.getD_eq_getElem?_getD, List.getElem?_eq_getElem (by simpa using h)]
  simp
  rfl
theorem headB_eq (s : ByteArray) (h : 0 < s.size) : headB s.data.toList = (decide (97 ≤ ((s.data.toList.getD 0 0).toNat : Int)) && decide (((s.data.toList.getD 0 0).toNat : Int) ≤ 122)) := by
  have hl : s.data.toList.length = s.size := by simp
  cases hd : s.data.toList with
  | nil => rw [hd] at hl; simp at hl; omega
  | cons b l => rfl
set_option maxHeartbeats 1000000 in
theorem token_calls (s : ByteArray) (w : World) (h0 : 0 < s.size) (hsz : s.size ≤ 1000000) (hb : headB s.data.toList = true) :
    Calls Tryd.prog 72 #[.string s] w fun e w' => e = .returned (.tuple #[.int .u8 1, .int .i64 (wordLen s.data.toList)]) ∧ Below w.heap.size w w' := by
  rw [headB_eq s h0] at hb
  have hbt := first_byte s h0
  generalize ((s.data.toList.getD 0 0).toNat : Int) = c at hb hbt
  have HC : ∀ w, Hid (Calls Tryd.prog 70 #[.int .u8 c] w fun e w' => e = .returned (.bool true) ∧ w' = w) := fun w => Lib.hid (by have := letter_calls c w; rw [hb] at this; exact this)
  clear hb
  have HR := Lib.hid (run_calls w.heap.size s (w.alloc (.cells #[.string s] 9)) (World.cell?_alloc_mark _ _ _ _ _) (by simp) hsz)
  have HB := Aside0.mk (below_alloc (Below.refl w.heap.size w) (.cells #[.string s] 9))
  go_enter Tryd.func72, Tryd.ntmps72
  go_wp2_with (first | (go_at_call 70; refine (HC _).out.mono ?_; rintro e w1 ⟨rfl, rfl⟩) | (go_at_call 87; refine HR.out.mono ?_; rintro e w1 ⟨rfl, hb1⟩))
  go_ret2
  exact ⟨rfl, below_then HB.out (by simp) hb1⟩
/-- Is a text a name? -/
def nameB (l : List UInt8) : Bool := decide (l ≠ []) && decide (l.length ≤ 12) && headB l && !decide (l ∈ keysL) && decide (wordLen l = l.length)
set_option maxHeartbeats 2000000 in
theorem name_calls (s : ByteArray) (w : World) (hsz : s.size ≤ 1000000) (hE : EnvW w) :
    Calls Tryd.prog 49 #[.string s] w fun e w' => e = .returned (.bool (nameB s.data.toList)) ∧ Below w.heap.size w w' := by
  have hl : s.data.toList.length = s.size := by simp
  have HB := Aside0.mk (Below.refl w.heap.size w)
  by_cases h0 : s.size = 0
  · have e : s = ⟨#[]⟩ := ByteArray.size_eq_zero_iff.1 h0
    subst e
    go_enter Tryd.func49, Tryd.ntmps49
    go_wp2
    go_ret
    exact ⟨rfl, HB.out⟩
  · have hne : (s.toList == ([] : List UInt8)) = false := by
      rw [beq_eq_false_iff_ne, ByteArray.toList_eq]
      intro h
      rw [h] at hl
      simp at hl
      omega
    have hne2 : s.data.toList ≠ [] := fun h => by rw [h] at hl; simp at hl; omega
    by_cases h12 : s.size > 12
    · have hn : nameB s.data.toList = false := by
        unfold nameB
        rw [hl, decide_eq_false (show ¬ s.size ≤ 12 by omega)]
        simp
      rw [hn]
      go_enter Tryd.func49, Tryd.ntmps49
      go_wp2
      go_ret
      exact ⟨rfl, HB.out⟩
    · have h00 : 0 < s.size := by omega
      have hbt := first_byte s h00
      have hhb := headB_eq s h00
      have hn : nameB s.data.toList = (headB s.data.toList && !decide (s.data.toList ∈ keysL) && decide (wordLen s.data.toList = s.size)) := by
        unfold nameB
        rw [hl, decide_eq_true hne2, decide_eq_true (show s.size ≤ 12 by omega)]
        simp
      have HT := Lib.hid (fun w => token_calls s w h00 hsz)
      generalize ((s.data.toList.getD 0 0).toNat : Int) = c at hbt hhb
      have hlc := fun w => letter_calls c w
      rw [← hhb] at hlc
      generalize headB s.data.toList = hb at hlc hn HT
      clear hhb
      cases hb with
      | false =>
        have HC : ∀ w, Hid (Calls Tryd.prog 70 #[.int .u8 c] w fun e w' => e = .returned (.bool false) ∧ w' = w) := fun w => Lib.hid (hlc w)
        clear hlc
        rw [hn]
        go_enter Tryd.func49, Tryd.ntmps49
        go_wp2_with (go_at_call 70; refine (HC _).out.mono ?_; rintro e w1 ⟨rfl, rfl⟩)
        go_ret
        exact ⟨rfl, HB.out⟩
      | true =>
        have HC : ∀ w, Hid (Calls Tryd.prog 70 #[.int .u8 c] w fun e w' => e = .returned (.bool true) ∧ w' = w) := fun w => Lib.hid (hlc w)
        clear hlc
        have hk := keyword_calls s w hE
        rw [hn]
        clear hn
        by_cases hm : s.data.toList ∈ keysL
        · rw [decide_eq_true hm] at hk ⊢
          have HK := Lib.hid hk
          clear hk hm
          go_enter Tryd.func49, Tryd.ntmps49
          go_wp2_with (first | (go_at_call 70; refine (HC _).out.mono ?_; rintro e w1 ⟨rfl, rfl⟩) | (go_at_call 71; refine HK.out.mono ?_; rintro e w1 ⟨rfl, hb1⟩))
          go_ret
          exact ⟨rfl, hb1⟩
        · rw [decide_eq_false hm] at hk ⊢
          have HK := Lib.hid hk
          have HT2 := fun w => Lib.hid (HT.out w rfl)
          clear hk hm HT
          generalize wordLen s.data.toList = n at HT2 ⊢
          go_enter Tryd.func49, Tryd.ntmps49
          go_wp2_with (first | (go_at_call 70; refine (HC _).out.mono ?_; rintro e w1 ⟨rfl, rfl⟩) | (go_at_call 71; refine HK.out.mono ?_; rintro e w1 ⟨rfl, hb1⟩) | (go_at_call 72; refine (HT2 _).out.mono ?_; rintro e w2 ⟨rfl, hb2⟩))
          go_ret
          refine ⟨?_, below_then hb1 hb1.size hb2⟩
          have e : (((n : Nat) : Int) == ((s.size : Nat) : Int)) = decide (n = s.size) := by
            by_cases h : n = s.size
            · rw [h]; simp
            · rw [decide_eq_false h, beq_eq_false_iff_ne]; omega
          exact congrArg (fun b => Ending.returned (.bool b)) (e.trans (by simp))
end Go.Proofs.YtmciflmlpnpkaaaDoor.Pa
