import Derived.Test.YtmciflmlpnpkaaaDoorH4
namespace Go.Proofs.YtmciflmlpnpkaaaDoor.Pa
open Go.RowKit Go.Proofs.YtmciflmlpnpkaaaDoorW.PrintWords Go.Proofs.YtmciflmlpnpkaaaDoorW.PrintLast Go.Proofs.YtmciflmlpnpkaaaDoorW.PrintMore
set_option linter.unusedVariables false
set_option linter.unusedSimpArgs false

/-! ### the kind of a word -/
/-- The place of a word among the kinds' words; -1 if it is none of them. -/
def kindGo (x : List UInt8) : List Shp → Nat → Int
  | [], _ => -1
  | s :: l, k => if s.word = x then (k : Int) else kindGo x l (k + 1)
def kindI (x : List UInt8) : Int := kindGo x shapesL 0
def shpV (s : Shp) : Value := .agg #[.string (str s.word), .bool s.name, .bool s.text, .int .i64 s.least, .int .i64 s.most]
set_option maxRecDepth 100000 in
set_option maxHeartbeats 1000000 in
theorem isWord_calls (s : Shp) (B c n : Nat) (g : Nat) (x : ByteArray) (w : World) (hB : w.cell? ⟨B, 0, none⟩ = some (.slice (some ⟨g, 0, none⟩) n c)) (hg : w.cell? ⟨g, 0, none⟩ = some (.string x)) (hn : 0 < n) (hBl : B < w.heap.size) (hgl : g < w.heap.size) :
    Calls Tryd.prog 48 #[shpV s, .pointer (some ⟨B, 0, none⟩)] w fun e w' => e = .returned (.bool (decide (s.word = x.data.toList))) ∧ Below w.heap.size w w' := by
  have hq := str_eq_iff s.word x
  have HQ := Lib.hid hq
  clear hq
  have hu83 := Tryd.underlying83
  unfold shpV
  have hB2 : ∀ X, (w.alloc X).cell? ⟨B, 0, none⟩ = some (.slice (some ⟨g, 0, none⟩) n c) := fun X => (World.cell?_alloc_lt _ _ _ (by simp; omega)).trans hB
  have hg2 : ∀ X, (w.alloc X).cell? ⟨g, 0, none⟩ = some (.string x) := fun X => (World.cell?_alloc_lt _ _ _ (by simp; omega)).trans hg
  have HB := Aside0.mk (fun X => below_alloc (Below.refl w.heap.size w) X)
  generalize str s.word = y at HQ ⊢
  go_enter Tryd.func48, Tryd.ntmps48
  go_wp2
  go_quiet (fail)
  go_wp2
  go_ret
  exact ⟨congrArg (fun b => Ending.returned (.bool b)) HQ.out, pw_below_drewN (HB.out _) _⟩
structure KInv (w : World) (B c n g : Nat) (x : ByteArray) (wr : World) : Prop where
  env : EnvW wr
  below : Below w.heap.size w wr
  hB : wr.cell? ⟨B, 0, none⟩ = some (.slice (some ⟨g, 0, none⟩) n c)
  hg : wr.cell? ⟨g, 0, none⟩ = some (.string x)
  lt : B < wr.heap.size ∧ g < wr.heap.size
theorem KInv.step {w : World} {B c n g : Nat} {x : ByteArray} {wr w1 : World} (h : KInv w B c n g x wr) (hb : Below wr.heap.size wr w1) : KInv w B c n g x w1 := by
  obtain ⟨h0, h1, h2, h3, h4, h5⟩ := h
  refine ⟨h0.below hb, below_then h1 h1.size hb, (hb.cell h4).trans h2, (hb.cell h5).trans h3, ?_⟩
  have := hb.size
  omega
set_option maxRecDepth 100000 in
set_option maxHeartbeats 1000000 in
theorem index_calls (B c n g : Nat) (x : ByteArray) (w : World) (hE : EnvW w) (hB : w.cell? ⟨B, 0, none⟩ = some (.slice (some ⟨g, 0, none⟩) n c)) (hg : w.cell? ⟨g, 0, none⟩ = some (.string x)) (hn : 0 < n) (hBl : B < w.heap.size) (hgl : g < w.heap.size) :
    Calls Tryd.prog 47 #[.slice (some ⟨0, 0, none⟩) 11 11, .func (.func 48) #[] #[.pointer (some ⟨B, 0, none⟩)]] w fun e w' => e = .returned (.int .i64 (kindI x.data.toList)) ∧ Below w.heap.size w w' := by
  have hlen : shapesL.length = 11 := rfl
  have HI : Aside0 (KInv w B c n g x w) := ⟨⟨hE, Below.refl _ _, hB, hg, hBl, hgl⟩⟩
  have hk : kindGo x.data.toList (shapesL.drop 0) 0 = kindI x.data.toList := rfl
  generalize kindI x.data.toList = r at hk ⊢
  have HK := Lib.hid hk
  clear hk hE hB hg
  have hu83 := Tryd.underlying83
  go_enter Tryd.func47, Tryd.ntmps47
  go_wp2
  go_loopw [8] (fun v wr => ∃ j : Nat, j ≤ 11 ∧ v = .int .i64 j ∧ Aside0 (kindGo x.data.toList (shapesL.drop j) j = r) ∧ Aside0 (KInv w B c n g x wr)) (fun v _ => 12 - (intOf v).toNat)
  case atStart => exact ⟨0, by omega, rfl, ⟨HK.out⟩, HI⟩
  case round =>
    obtain ⟨j, hj, rfl, HR, HV⟩ := hrel
    clear HI
    by_cases hlt : j < 11
    · obtain ⟨s, hs⟩ : ∃ s, shapesL[j]? = some s := ⟨shapesL[j]'(by omega), List.getElem?_eq_getElem _⟩
      have hd : shapesL.drop j = s :: shapesL.drop (j + 1) := by
        rw [List.drop_eq_getElem_cons (by omega : j < shapesL.length)]
        rw [List.getElem?_eq_getElem (by omega : j < shapesL.length)] at hs
        rw [Option.some.inj hs]
      have hr := HR.out
      rw [hd, kindGo] at hr
      have c0 : wr.cell? ⟨0, j * 5, none⟩ = some (.string (str s.word)) := HV.out.env.shp j s hs 0 _ rfl
      have c1 : wr.cell? ⟨0, j * 5 + 1, none⟩ = some (.bool s.name) := HV.out.env.shp j s hs 1 _ rfl
      have c2 : wr.cell? ⟨0, j * 5 + 2, none⟩ = some (.bool s.text) := HV.out.env.shp j s hs 2 _ rfl
      have c3 : wr.cell? ⟨0, j * 5 + 3, none⟩ = some (.int .i64 s.least) := HV.out.env.shp j s hs 3 _ rfl
      have c4 : wr.cell? ⟨0, j * 5 + 4, none⟩ = some (.int .i64 s.most) := HV.out.env.shp j s hs 4 _ rfl
      have hw := isWord_calls s B c n g x wr HV.out.hB HV.out.hg hn HV.out.lt.1 HV.out.lt.2
      unfold shpV at hw
      clear hs hd
      by_cases he : s.word = x.data.toList
      · rw [decide_eq_true he] at hw
        rw [if_pos he] at hr
        have HW := Lib.hid hw
        have HR2 := Lib.hid hr
        clear hw hr he
        go_wp2_with (go_at_call 48; refine HW.out.mono ?_; rintro e w1 ⟨rfl, hb1⟩)
        go_ret
        exact ⟨by rw [← HR2.out]; rfl, (HV.out.step hb1).below⟩
      · rw [decide_eq_false he] at hw
        rw [if_neg he] at hr
        have HW := Lib.hid hw
        have HR2 := Aside0.mk hr
        clear hw hr he
        go_wp2_with (go_at_call 48; refine HW.out.mono ?_; rintro e w1 ⟨rfl, hb1⟩)
        go_roundw
        case rel => exact ⟨j + 1, by omega, by go_num, HR2, ⟨HV.out.step hb1⟩⟩
        case measure => simp [intOf]; omega
    · obtain rfl : j = 11 := by omega
      have hr : r = -1 := by rw [← HR.out]; rfl
      subst hr
      go_wp2
      go_ret
      exact ⟨rfl, HV.out.below⟩
end Go.Proofs.YtmciflmlpnpkaaaDoor.Pa
