import Derived.Test.YtmciflmlpnpkaaaDoorPcx1
namespace Go.Proofs.YtmciflmlpnpkaaaDoor.Pa
open Go.RowKit Go.Proofs.YtmciflmlpnpkaaaDoorW.PrintWords Go.Proofs.YtmciflmlpnpkaaaDoorW.PrintLast Go.Proofs.YtmciflmlpnpkaaaDoorW.PrintMore
set_option linter.unusedVariables false
set_option linter.unusedSimpArgs false

/-! ### valid commands -/
def textOk (t : ByteArray) : Bool := decide ((t.size : Int) ≤ 65536) && (decide (t.toList = []) || Lib.hasSuffix t.data.toList [10])
def validB (c : S31) : Bool := match findR c.f0 with
  | none => false
  | some sh => (sh.name == nameB c.f1.data.toList) && (sh.name || decide (c.f1.toList = [])) && !decide ((c.f2.length : Int) < sh.least) && !decide ((c.f2.length : Int) > sh.most) && (if sh.text = true then textOk c.f3 else decide (c.f3.toList = []))
def SmallC (c : S31) : Prop := c.f1.size ≤ 1000000 ∧ c.f3.size ≤ 1000000000000
theorem valid_eval (c : S31) (h : SmallC c) : script_Command_valid.f 1 c.f0 c.f1 c.f2 c.f3 = some (validB c) := by
  have hN : lexer_Name.f c.f1 = some (nameB c.f1.data.toList) := if_pos h.1
  have hS : strings_HasSuffix.f c.f3 ⟨#[10]⟩ = some (Lib.hasSuffix c.f3.data.toList [10]) := if_pos h.2
  unfold script_Command_valid.f script_find.f validB
  rw [Option.bind_some]
  cases findR c.f0 with
  | none => rfl
  | some sh =>
    simp only [hN, hS, Option.bind_some, script_Command_valid.j0, textOk, if_true]
    obtain ⟨wd, nm, tx, least, most⟩ := sh
    generalize nameB c.f1.data.toList = nb
    cases nm <;> cases nb <;> cases tx <;> by_cases h1 : c.f1.toList = [] <;> by_cases h2 : (c.f2.length : Int) < least <;> by_cases h3 : (c.f2.length : Int) > most <;> by_cases h4 : c.f3.toList = [] <;> by_cases h5 : (c.f3.size : Int) ≤ 65536 <;> simp [h1, h2, h3, h4, h5]
theorem valid_calls (c : S31) (h : SmallC c) (A : Option Addr) (cap : Nat) (w : World) (hr : Kd.C (Kd.int .i64) w A c.f2.length c.f2) (hc : c.f2.length ≤ cap) (hE : EnvW w) :
    Calls Tryd.prog 34 #[.agg #[.int .u8 c.f0, .string c.f1, .slice A c.f2.length cap, .string c.f3]] w fun e w' => e = .returned (.bool (validB c)) ∧ Below w.heap.size w w' :=
  script_Command_valid.calls 1 c.f0 c.f1 A cap c.f2 c.f3 (validB c) w hr hc (valid_eval c h) hE
set_option maxRecDepth 100000 in
set_option maxHeartbeats 1000000 in
theorem notValid_calls (c : S31) (h : SmallC c) (A : Option Addr) (cap : Nat) (w : World) (hr : Kd.C (Kd.int .i64) w A c.f2.length c.f2) (hc : c.f2.length ≤ cap) (hE : EnvW w) :
    Calls Tryd.prog 33 #[.agg #[.int .u8 c.f0, .string c.f1, .slice A c.f2.length cap, .string c.f3]] w fun e w' => e = .returned (.bool (!validB c)) ∧ Below w.heap.size w w' := by
  have hb1 := below_alloc (Below.refl w.heap.size w) (.cells #[.int .u8 c.f0, .string c.f1, .slice A c.f2.length cap, .string c.f3] 31)
  have hv := valid_calls c h A cap _ (Kd.C_below hr hb1) hc (hE.below hb1)
  have HV := Lib.hid hv
  have HB := Aside0.mk hb1
  have hu31 := Tryd.underlying31
  clear hv hr hE h hb1
  generalize validB c = vb at HV ⊢
  generalize c.f2.length = n at HV HB hc ⊢
  go_enter Tryd.func33, Tryd.ntmps33
  go_wp2_with (go_at_call 34; refine HV.out.mono ?_; rintro e w1 ⟨rfl, hb⟩)
  go_ret
  exact ⟨rfl, below_then HB.out HB.out.size hb⟩
theorem rd31_at (l : List S31) (j : Nat) (h : j < l.length) : rd_T31 l (j : Int) = l[j] := by
  simp [rd_T31, List.getD_eq_getElem?_getD, h]
theorem any_drop (l : List S31) (j : Nat) (h : j < l.length) : (l.drop j).any (fun c => !validB c) = (!validB l[j] || (l.drop (j + 1)).any (fun c => !validB c)) := by
  rw [List.drop_eq_getElem_cons h, List.any_cons]
theorem stepJ (j n : Nat) (h : j < n) (hn : n ≤ 9223372036854775807) : wrap64 ((j : Int) + 1) = (j : Int) + 1 := by unfold wrap64; omega
theorem measJ (j n : Nat) (h : j < n) : n - (intOf (Value.int IntKind.i64 ((j : Int) + 1))).toNat < n - (intOf (Value.int IntKind.i64 (j : Int))).toNat := by
  simp [intOf]
  omega
theorem intJ (j n : Nat) (h : j < n) : 0 ≤ (j : Int) ∧ (j : Int) < (n : Int) := by omega
set_option maxRecDepth 100000 in
set_option maxHeartbeats 2000000 in
theorem indexNot_calls (A0 : Option Addr) (c0 : Nat) (l0 : List S31) (w : World) (hr0 : Kd.C k31 w A0 l0.length l0) (hc0 : l0.length ≤ c0) (hl : ∀ c ∈ l0, SmallC c) (hE : EnvW w) :
    Calls Tryd.prog 57 #[.slice A0 l0.length c0, .func (.func 33) #[] #[]] w fun e w' => ∃ r : Int, e = .returned (.int .i64 r) ∧ (l0.any (fun c => !validB c) = decide (0 ≤ r)) ∧ Below w.heap.size w w' := by
  have HR := Lib.hid hr0
  have HL := Lib.hid hl
  have HE := Aside0.mk hE
  have hmax := Kd.C_max hr0
  have hu31 := Tryd.underlying31
  have h00 : l0.any (fun c => !validB c) = (l0.drop 0).any (fun c => !validB c) := rfl
  have HB0 := Aside0.mk (Below.refl w.heap.size w)
  generalize l0.any (fun c => !validB c) = R at h00 ⊢
  have H00 := Aside0.mk h00
  clear h00 hr0 hl hE
  go_enter Tryd.func57, Tryd.ntmps57
  go_wp2
  go_loopw [8] (fun v wr => ∃ j : Nat, j ≤ l0.length ∧ v = .int .i64 j ∧ Aside0 (R = (l0.drop j).any (fun c => !validB c)) ∧ Aside0 (Below w.heap.size w wr)) (fun v _ => l0.length - (intOf v).toNat)
  case atStart => exact ⟨0, Nat.zero_le _, rfl, H00, HB0⟩
  case round =>
    obtain ⟨j, hj, rfl, HQ, HB⟩ := hrel
    clear H00
    by_cases hlt : j < l0.length
    · obtain ⟨i0, i1⟩ := intJ j _ hlt
      have hx := at_T31 (Kd.C_below HR.out HB.out) (j : Int) i0 i1
      rw [rd31_at l0 j hlt] at hx
      simp only [Int.toNat_natCast] at hx
      have hsm := HL.out l0[j] (List.getElem_mem hlt)
      have hq := HQ.out
      rw [any_drop l0 j hlt] at hq
      have hnx := stepJ j _ hlt hmax
      generalize l0[j] = c at hx hsm hq
      obtain ⟨ad, A2, c2, e1, x0, x1, x2, x3, l2, g2⟩ := hx
      cases e1
      have HN := Lib.hid (notValid_calls c hsm A2 c2 wr g2 l2 (HE.out.below HB.out))
      clear hsm l2 g2 i0 i1
      cases hb : validB c with
      | true =>
        rw [hb] at HN hq
        have HQ2 := Aside0.mk hq
        clear hq hb
        go_wp2_with (go_at_call 33; refine HN.out.mono ?_; rintro e w1 ⟨rfl, hb1⟩)
        go_roundw
        case rel => exact ⟨j + 1, hlt, by go_num, by simpa using HQ2, ⟨below_then HB.out HB.out.size hb1⟩⟩
        case measure => exact measJ j _ hlt
      | false =>
        rw [hb] at HN hq
        simp only [Bool.not_false, Bool.true_or] at hq
        have HQ2 := Aside0.mk hq
        clear hq hb
        go_wp2_with (go_at_call 33; refine HN.out.mono ?_; rintro e w1 ⟨rfl, hb1⟩)
        go_ret
        exact ⟨(j : Int), rfl, by rw [HQ2.out, decide_eq_true (Int.natCast_nonneg j)], below_then HB.out HB.out.size hb1⟩
    · have e : j = l0.length := Nat.le_antisymm hj (Nat.not_lt.1 hlt)
      have hq := HQ.out
      rw [e, List.drop_length] at hq
      have HQ2 := Aside0.mk hq
      clear hq
      go_wp2
      go_ret
      exact ⟨-1, rfl, by rw [HQ2.out]; rfl, HB.out⟩
set_option maxHeartbeats 1000000 in
theorem contains_calls (A0 : Option Addr) (c0 : Nat) (l0 : List S31) (w : World) (hr0 : Kd.C k31 w A0 l0.length l0) (hc0 : l0.length ≤ c0) (hl : ∀ c ∈ l0, SmallC c) (hE : EnvW w) :
    Calls Tryd.prog 32 #[.slice A0 l0.length c0, .func (.func 33) #[] #[]] w fun e w' => e = .returned (.bool (l0.any (fun c => !validB c))) ∧ Below w.heap.size w w' := by
  have HI := Lib.hid (indexNot_calls A0 c0 l0 w hr0 hc0 hl hE)
  clear hr0 hl hE
  generalize l0.any (fun c => !validB c) = R at HI ⊢
  generalize l0.length = n at HI hc0 ⊢
  go_enter Tryd.func32, Tryd.ntmps32
  go_wp2_with (go_at_call 57; refine HI.out.mono ?_; rintro e w1 ⟨r, rfl, hr, hb⟩)
  go_ret
  exact ⟨by rw [hr]; rfl, hb⟩
def okL (l : List S31) : Bool := decide ((l.length : Int) ≤ 1000) && !(l.any fun c => !validB c)
set_option maxHeartbeats 1000000 in
theorem Valid_calls (A0 : Option Addr) (c0 : Nat) (l0 : List S31) (w : World) (hr0 : Kd.C k31 w A0 l0.length l0) (hc0 : l0.length ≤ c0) (hl : ∀ c ∈ l0, SmallC c) (hE : EnvW w) :
    Calls Tryd.prog 14 #[.slice A0 l0.length c0] w fun e w' => e = .returned (.bool (okL l0)) ∧ Below w.heap.size w w' := by
  have HI := Lib.hid (fun w' (hb : Below w.heap.size w w') => contains_calls A0 c0 l0 w' (Kd.C_below hr0 hb) hc0 hl (hE.below hb))
  have HB := Aside0.mk (Below.refl w.heap.size w)
  clear hr0 hl hE
  unfold okL
  generalize l0.any (fun c => !validB c) = R at HI ⊢
  generalize l0.length = n at HI hc0 ⊢
  by_cases h : (n : Int) ≤ 1000
  · have h1 : decide ((n : Int) ≤ 1000) = true := decide_eq_true h
    rw [h1]
    go_enter Tryd.func14, Tryd.ntmps14
    go_wp2_with (go_at_call 32; refine (HI.out _ HB.out).mono ?_; rintro e w1 ⟨rfl, hb⟩)
    go_ret
    exact ⟨by simp, hb⟩
  · have h1 : decide ((n : Int) ≤ 1000) = false := decide_eq_false h
    rw [h1]
    go_enter Tryd.func14, Tryd.ntmps14
    go_wp2
    go_ret
    exact ⟨by simp, HB.out⟩

/-! ### in the printed form -/
def script_Valid.f (l : List S31) : Option Bool := if l.all (fun c => decide (c.f1.size ≤ 1000000) && decide (c.f3.size ≤ 1000000000000)) = true then some (okL l) else none
theorem script_Valid.calls (A0 : Option Addr) (c0 : Nat) (l0 : List S31) (r : Bool) (w : World) (hr0 : Kd.C k31 w A0 l0.length l0) (hc0 : l0.length ≤ c0) (h : script_Valid.f l0 = some r) (hE : EnvW w) :
    Calls Tryd.prog 14 #[.slice A0 l0.length c0] w fun e w' => e = .returned (.bool r) ∧ Below w.heap.size w w' := by
  unfold script_Valid.f at h
  split at h
  · rename_i hs
    obtain rfl := Option.some.inj h
    refine Valid_calls A0 c0 l0 w hr0 hc0 (fun c hc => ?_) hE
    have := List.all_eq_true.1 hs c hc
    simpa [SmallC] using this
  · cases h
end Go.Proofs.YtmciflmlpnpkaaaDoor.Pa
