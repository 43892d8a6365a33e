/- The walks of the seat's functions, by hand, and plain facts. -/
import Derived.Test.YtmgafakahbanaaaDoorPbx
import Derived.Lib.AtoiAllCases
import Derived.Test.YtmgafakahbanaaaDoorN
import Derived.Lib.QuietBelow
import Derived.Lib.FieldsP
import Derived.Lib.SplitLaws
import Derived.Lib.TrimU
import Derived.Lib.QuoteLoop
import Derived.Lib.TrimUEq
import Derived.Laws.RangeAny
namespace Go.Proofs.YtmgafakahbanaaaDoor.Pa
open Go.RowKit Go.Proofs.YtmgafakahbanaaaDoorW.PrintWords Go.Proofs.YtmgafakahbanaaaDoorW.PrintLast Go.Proofs.YtmgafakahbanaaaDoorW.PrintMore
set_option linter.unusedVariables false
set_option linter.unusedSimpArgs false

/-! ### asm.check and the law's valid, evaluated -/
def opOk (i : S48) : Bool := decide (0 ≤ i.f0) && decide (i.f0 ≤ 255)
theorem rd_at (l : List S48) (j : Nat) (h : j < l.length) : rd_T48 l (j : Int) = l[j] := by simp [rd_T48, List.getD, h]
theorem Valid_eval (i : S48) (h : opOk i = true) : isa_Valid.f i.f0 i.f1 i.f2 i.f3 i.f4 = some (validB i) := by
  simp only [opOk, Bool.and_eq_true, decide_eq_true_eq] at h
  unfold isa_Valid.f
  rw [if_pos h]
theorem check_loop (l : List S48) (hok : ∀ i ∈ l, opOk i = true) (hl : l.length ≤ 4096) : ∀ (d k j : Nat), j + d = l.length → d < k → asm_check.l0 k l (l.length : Int) (j : Int) = some (if (l.drop j).all validB = true then 0 else 3) := by
  intro d
  induction d with
  | zero =>
    intro k j hj hk
    obtain ⟨k, rfl⟩ : ∃ m, k = m + 1 := ⟨k - 1, by omega⟩
    simp only [asm_check.l0]
    rw [if_neg (by omega), List.drop_of_length_le (by omega)]
    rfl
  | succ d ih =>
    intro k j hj hk
    obtain ⟨k, rfl⟩ : ∃ m, k = m + 1 := ⟨k - 1, by omega⟩
    have hlt : j < l.length := by omega
    have hw : wrap64 ((j : Int) + 1) = ((j + 1 : Nat) : Int) := by unfold wrap64; omega
    simp only [asm_check.l0]
    rw [if_pos (by omega), if_pos (by omega), if_pos (by omega), rd_at l j hlt, Valid_eval _ (hok _ (List.getElem_mem hlt)), hw, List.drop_eq_getElem_cons hlt, List.all_cons]
    simp only [Option.bind_some]
    by_cases hv : validB l[j] = true
    · rw [if_pos hv, ih k (j + 1) (by omega) (by omega), hv, Bool.true_and]
    · rw [if_neg hv]
      have : validB l[j] = false := by simpa using hv
      rw [this]
      rfl
theorem check_eval (l : List S48) (hok : ∀ i ∈ l, opOk i = true) : asm_check.f (l.length + 1) l = some (if 4096 < l.length then 5 else if l.all validB = true then 0 else 3) := by
  unfold asm_check.f
  by_cases h : 4096 < l.length
  · rw [if_pos (by omega), if_pos h]
  · rw [if_neg (by omega), if_neg h]
    exact check_loop l hok (by omega) l.length (l.length + 1) 0 (by omega) (by omega)

/-! ### the text of code -/
def textL (l : List S48) : List UInt8 := l.flatMap fun i => lineL i ++ [10]
theorem textL_snoc (l : List S48) (i : S48) : textL (l ++ [i]) = textL l ++ (lineL i ++ [10]) := by simp [textL]
theorem opWord_short (i : S48) (h0 : 0 ≤ i.f0) (hv : validB i = true) (c : Int) : (opWord i c).length ≤ 22 := by
  have hb := valid_bound i h0 hv
  unfold opWord
  split
  · have h := hb 105
    have := itoa_short i.f4 (by have : xF i 105 = i.f4 := rfl; omega) (by have : xF i 105 = i.f4 := rfl; omega)
    rw [str_size] at this
    omega
  · have h := hb c
    have := itoa_short (xF i c) (by omega) (by omega)
    rw [str_size] at this
    simp
    omega
theorem spaced_len (ws : List (List UInt8)) (h : ∀ w ∈ ws, w.length ≤ 22) : (spaced ws).length ≤ 23 * ws.length := by
  induction ws with
  | nil => simp [spaced]
  | cons a ws ih =>
    have h1 := h a List.mem_cons_self
    have h2 := ih fun w hw => h w (List.mem_cons_of_mem _ hw)
    simp only [spaced, List.flatMap_cons, List.length_append, List.length_cons] at h2 ⊢
    omega
theorem lineL_short (i : S48) (h0 : 0 ≤ i.f0) (hv : validB i = true) : (lineL i).length ≤ 200 := by
  have h1 := (valid_parts i hv).1
  obtain ⟨_, _, hc3, hc4, _, _, _, _⟩ := cls_facts i.f0 h0 h1
  have hm : (mnem i.f0).length ≤ 100 := hc3
  have hs := spaced_len (opWords i) (by
    intro w hw
    simp only [opWords, List.mem_map] at hw
    obtain ⟨c, _, rfl⟩ := hw
    exact opWord_short i h0 hv c)
  have hl : (opWords i).length ≤ 3 := by simpa [opWords] using hc4
  simp only [lineL, List.length_append]
  omega
theorem textL_short (l : List S48) (h : ∀ i ∈ l, 0 ≤ i.f0 ∧ validB i = true) : (textL l).length ≤ 201 * l.length := by
  induction l with
  | nil => simp [textL]
  | cons i l ih =>
    have h1 := h i List.mem_cons_self
    have h2 := ih fun x hx => h x (List.mem_cons_of_mem _ hx)
    have h3 := lineL_short i h1.1 h1.2
    simp only [textL, List.flatMap_cons, List.length_append, List.length_cons, List.length_nil] at h2 ⊢
    omega

/-! ### strings.Builder between calls -/
theorem builder_below {T e : TypeId} {B b : Nat} {bs : List Value} {w w1 : World} (h : Lib.IsBuilder T e B b bs w) (hb : Below w.heap.size w w1) : Lib.IsBuilder T e B b bs w1 := by
  have key : ∀ p, Lib.BuilderAt T e B b p bs w → Lib.BuilderAt T e B b p bs w1 := by
    intro p hp
    have hlt := hp.lt
    obtain ⟨hB, v, hh, hown, hne⟩ := hp
    exact ⟨hB, v, (hb.block b hlt).trans hh, pw_own_below hown hb, hne⟩
  rcases h with h | h
  · exact .inl (key _ h)
  · exact .inr (key _ h)
theorem byteCells_str (a b : List UInt8) : Lib.byteCells a ++ Lib.strCells (str b) = Lib.byteCells (a ++ b) := by simp [Lib.byteCells, Lib.strCells, str_data]
theorem byteCells_ten (a : List UInt8) : Lib.byteCells a ++ [.int .u8 10] = Lib.byteCells (a ++ [10]) := by simp [Lib.byteCells]

structure FInv (w : World) (B b : Nat) (l : List S48) (j : Nat) (wr : World) : Prop where
  env : EnvW wr
  below : Below w.heap.size w wr
  le : w.heap.size ≤ B
  le2 : B ≤ wr.heap.size
  is : Lib.IsBuilder 57 5 B b (Lib.byteCells (textL (l.take j))) wr

def fmtL (l : List S48) : ByteArray × Int := if 4096 < l.length then (⟨#[]⟩, 5) else if l.all validB = true then (str (textL l), 0) else (⟨#[]⟩, 3)
set_option maxRecDepth 100000 in
set_option maxHeartbeats 2000000 in
theorem Format_bad (A0 : Option Addr) (c0 : Nat) (l0 : List S48) (w : World) (hr0 : Kd.C k48 w A0 l0.length l0) (hc0 : l0.length ≤ c0) (e : Int) (he : e ≠ 0) (h : asm_check.f (l0.length + 1) l0 = some e) :
    Calls Tryd.prog 13 #[.slice A0 l0.length c0] w fun r w' => r = .returned (.tuple #[.string ⟨#[]⟩, .int .i64 e]) ∧ Below w.heap.size w w' := by
  have h1 : (e != 0) = true := by simpa using he
  have HC := Lib.hid h
  have HR := Lib.hid hr0
  clear h hr0
  go_enter Tryd.func13, Tryd.ntmps13
  go_wp2_with (go_at_call 24; refine (asm_check.calls (l0.length + 1) A0 c0 l0 e _ HR.out hc0 HC.out).mono ?_; rintro r w1 ⟨rfl, hb⟩)
  go_ret2
  exact ⟨rfl, hb⟩
set_option maxRecDepth 100000 in
set_option maxHeartbeats 2000000 in
theorem Format_good (A0 : Option Addr) (c0 : Nat) (l0 : List S48) (w : World) (hr0 : Kd.C k48 w A0 l0.length l0) (hc0 : l0.length ≤ c0) (hl : l0.length ≤ 4096) (hv : ∀ i ∈ l0, 0 ≤ i.f0 ∧ validB i = true) (h : asm_check.f (l0.length + 1) l0 = some 0) (hE : EnvW w) :
    Calls Tryd.prog 13 #[.slice A0 l0.length c0] w fun r w' => r = .returned (.tuple #[.string (str (textL l0)), .int .i64 0]) ∧ Below w.heap.size w w' := by
  have HC := Lib.hid h
  have HR := Lib.hid hr0
  have HV := Lib.hid hv
  have HE := Aside0.mk hE
  have hu48 := Tryd.underlying48
  clear h hr0 hv hE
  go_enter Tryd.func13, Tryd.ntmps13
  go_wp2_with (go_at_call 24; refine (asm_check.calls (l0.length + 1) A0 c0 l0 0 _ HR.out hc0 HC.out).mono ?_; rintro r w1 ⟨rfl, hb⟩)
  have hI : FInv w w1.heap.size w1.heap.size l0 0 (w1.alloc (.cells #[.pointer none, .slice none 0 0] 57)) := by
    have hb2 := below_alloc hb (.cells #[.pointer none, .slice none 0 0] 57)
    exact ⟨HE.out.below hb2, hb2, hb.size, by simp, Lib.fresh_isBuilder 57 5 w1⟩
  have HI := Aside0.mk hI
  clear hI
  generalize w1.alloc (.cells #[.pointer none, .slice none 0 0] 57) = w2 at HI
  have HB1 := Aside0.mk hb
  clear hb
  go_loopw [15] (fun v wr => ∃ j : Nat, j ≤ l0.length ∧ v = .int .i64 j ∧ Aside0 (FInv w w1.heap.size w1.heap.size l0 j wr)) (fun v _ => l0.length - (intOf v).toNat)
  case atStart => exact ⟨0, by omega, rfl, HI⟩
  case round =>
    obtain ⟨j, hj, rfl, HF⟩ := hrel
    clear HI
    by_cases hlt : j < l0.length
    · have hx := at_T48 (Kd.C_below HR.out HF.out.below) (j : Int) (by omega) (by omega)
      rw [rd_at l0 j hlt] at hx
      simp only [Int.toNat_natCast] at hx
      have hvi := HV.out l0[j] (List.getElem_mem hlt)
      have htk : l0.take (j + 1) = l0.take j ++ [l0[j]] := by simp
      have htx : textL (l0.take (j + 1)) = textL (l0.take j) ++ lineL l0[j] ++ [10] := by rw [htk, textL_snoc, List.append_assoc]
      have HTX := Lib.hid htx
      have hs1 := textL_short (l0.take j) (fun i hi => HV.out i (List.mem_of_mem_take hi))
      have hs2 := lineL_short l0[j] hvi.1 hvi.2
      have hs3 : (l0.take j).length ≤ 4096 := by simp; omega
      clear htk htx
      have hbis := HF.out.is
      generalize l0[j] = i at hx hvi HTX hs2
      generalize textL (l0.take j) = tx at HTX hs1 hbis
      have HIs := Lib.hid hbis
      have hsz1 : (Lib.byteCells tx).length + (str (lineL i)).size ≤ 140737488355328 := by simp [Lib.byteCells, str_size]; omega
      have hsz2 : (Lib.byteCells tx ++ Lib.strCells (str (lineL i))).length + 1 ≤ 140737488355328 := by simp [Lib.byteCells, Lib.strCells, str_data]; omega
      have HS1 := Lib.hid hsz1
      have HS2 := Lib.hid hsz2
      clear hsz1 hsz2 hbis hs1 hs2 hs3
      obtain ⟨ad, e1, x0, x1, x2, x3, x4⟩ := hx
      cases e1
      have hle2 := HF.out.le2
      go_wp2_with (first | (go_at_call 26; refine (line_calls i _ hvi.1 hvi.2 (by exact HF.out.env.below (below_alloc (Below.refl _ _) _))).mono ?_; rintro e w3 ⟨rfl, hb3⟩; have hsz3 := hb3.size; simp at hsz3) | (go_at_call 25; refine (Tryd.Builder_WriteString w1.heap.size w1.heap.size (Lib.byteCells tx) (str (lineL i)) _ (by exact builder_below (builder_below HIs.out (below_alloc (Below.refl _ _) _)) hb3) HS1.out (by omega)).mono ?_; rintro e w4 ⟨rfl, hA4, hb4⟩; have hsz4 := hb4.size) | (go_at_call 27; refine (Tryd.Builder_WriteByte w1.heap.size w1.heap.size _ 10 _ (.inr hA4) HS2.out (by omega)).mono ?_; rintro e w5 ⟨rfl, hA5, hb5⟩; have hsz5 := hb5.size))
      go_roundw
      case rel =>
        have hbw : Below w1.heap.size _ w5 := (((below_alloc (Below.refl _ _) (.cells #[.int .u8 i.f0, .int .i64 i.f1, .int .i64 i.f2, .int .i64 i.f3, .int .i64 i.f4] 48)).trans (hb3.mono (by simp))).mono (by exact hle2)).trans (hb4.trans hb5)
        have hbig : Below w.heap.size w w5 := HF.out.below.trans (hbw.mono HF.out.le)
        refine ⟨j + 1, by omega, by go_num, ⟨HE.out.below hbig, hbig, HF.out.le, by omega, .inr ?_⟩⟩
        rw [HTX.out, ← byteCells_ten, ← byteCells_str]
        exact hA5
      case measure => simp [intOf]; omega
    · have hj4 : j = l0.length := by omega
      subst hj4
      have htk : l0.take l0.length = l0 := List.take_length
      have hbis := HF.out.is
      rw [htk] at hbis
      have HIs := Lib.hid hbis
      have hle2 := HF.out.le2
      clear hbis htk
      go_wp2_with (go_at_call 28; refine (Tryd.Builder_String_any w1.heap.size w1.heap.size (textL l0) _ HIs.out hle2).mono ?_; rintro e w3 ⟨rfl, hb3⟩)
      go_ret2
      exact ⟨rfl, HF.out.below.trans (hb3.mono HF.out.le)⟩

def asm_Format.f (l : List S48) : Option (ByteArray × Int) := if (l.all opOk) = true then some (fmtL l) else none
theorem asm_Format.calls (A0 : Option Addr) (c0 : Nat) (l0 : List (S48)) (r1 : ByteArray) (r2 : Int) (w : World) (hr0 : Kd.C k48 w A0 l0.length l0) (hc0 : l0.length ≤ c0) (h : asm_Format.f l0 = some (r1, r2)) (hE : EnvW w) :
    Calls Tryd.prog 13 #[.slice A0 l0.length c0] w fun e w' => e = .returned (.tuple #[.string r1, .int .i64 r2]) ∧ Below w.heap.size w w' := by
  unfold asm_Format.f at h
  split at h
  · rename_i hok
    have hok' : ∀ i ∈ l0, opOk i = true := List.all_eq_true.1 hok
    have hce := check_eval l0 hok'
    obtain h := Option.some.inj h
    unfold fmtL at h
    by_cases h1 : 4096 < l0.length
    · rw [if_pos h1] at h hce
      injection h with ha hb
      subst ha hb
      exact Format_bad A0 c0 l0 w hr0 hc0 5 (by decide) hce
    · rw [if_neg h1] at h hce
      by_cases h2 : l0.all validB = true
      · rw [if_pos h2] at h hce
        injection h with ha hb
        subst ha hb
        refine Format_good A0 c0 l0 w hr0 hc0 (by omega) (fun i hi => ⟨?_, List.all_eq_true.1 h2 i hi⟩) hce hE
        have := hok' i hi
        simp only [opOk, Bool.and_eq_true, decide_eq_true_eq] at this
        exact this.1
      · rw [if_neg h2] at h hce
        injection h with ha hb
        subst ha hb
        exact Format_bad A0 c0 l0 w hr0 hc0 3 (by decide) hce
  · cases h

/-! ### the reference's Format -/
structure GInv (w : World) (l : List S48) (j : Nat) (x : List UInt8) (wr : World) : Prop where
  below : Below w.heap.size w wr
  is : x = textL (l.take j)
set_option maxRecDepth 100000 in
set_option maxHeartbeats 2000000 in
theorem refFormat_calls (A0 : Option Addr) (c0 : Nat) (l0 : List S48) (w : World) (hr0 : Kd.C k48 w A0 l0.length l0) (hc0 : l0.length ≤ c0) (hl : l0.length ≤ 4096) (hv : ∀ i ∈ l0, 0 ≤ i.f0 ∧ validB i = true) :
    Calls Tryd.prog 15 #[.slice A0 l0.length c0] w fun r w' => r = .returned (.string (str (textL l0))) ∧ Below w.heap.size w w' := by
  have HR := Lib.hid hr0
  have HV := Lib.hid hv
  have hu48 := Tryd.underlying48
  clear hr0 hv
  go_enter Tryd.func15, Tryd.ntmps15
  go_wp2
  go_loopw [3, 4] (fun s v wr => ∃ (j : Nat) (x : List UInt8), j ≤ l0.length ∧ v = .int .i64 j ∧ s = .string (str x) ∧ Aside0 (GInv w l0 j x wr)) (fun _ v _ => l0.length - (intOf v).toNat)
  case atStart => exact ⟨0, [], by omega, rfl, rfl, ⟨⟨Below.refl _ _, rfl⟩⟩⟩
  case round =>
    obtain ⟨j, x, hj, rfl, rfl, HF⟩ := hrel
    by_cases hlt : j < l0.length
    · have hx := at_T48 (Kd.C_below HR.out HF.out.below) (j : Int) (by omega) (by omega)
      rw [rd_at l0 j hlt] at hx
      simp only [Int.toNat_natCast] at hx
      have hvi := HV.out l0[j] (List.getElem_mem hlt)
      have htk : l0.take (j + 1) = l0.take j ++ [l0[j]] := by simp
      have htx : textL (l0.take (j + 1)) = x ++ (lineL l0[j] ++ [10]) := by rw [htk, textL_snoc, HF.out.is]
      have HTX := Lib.hid htx
      have hs1 := textL_short (l0.take j) (fun i hi => HV.out i (List.mem_of_mem_take hi))
      have hs2 := lineL_short l0[j] hvi.1 hvi.2
      have hs3 : (l0.take j).length ≤ 4096 := by simp; omega
      have hs4 : (str x).size ≤ 1000000 := by rw [str_size, HF.out.is]; omega
      clear htk htx hs1 hs3
      generalize l0[j] = i at hx hvi HTX hs2
      have hs5 : (str (lineL i)).size ≤ 200 := by rw [str_size]; exact hs2
      have hs6 : (str x ++ str (lineL i)).size ≤ 2000000 := by rw [str_append, str_size]; rw [str_size] at hs4; simp; omega
      clear hs2
      obtain ⟨ad, e1, x0, x1, x2, x3, x4⟩ := hx
      cases e1
      go_wp2_with (first | (go_at_call 30; refine (refLine_calls i _ hvi.1 hvi.2).mono ?_; rintro e w3 ⟨rfl, hb3⟩))
      go_roundw
      case rel => exact ⟨j + 1, x ++ (lineL i ++ [10]), by omega, by go_num, congrArg Value.string (by rw [show (⟨#[10]⟩ : ByteArray) = str [10] from rfl, str_append, str_append, List.append_assoc]), ⟨⟨below_then HF.out.below HF.out.below.size hb3, HTX.out.symm⟩⟩⟩
      case measure => simp [intOf]; omega
    · have hj4 : j = l0.length := by omega
      subst hj4
      go_wp2
      go_ret
      exact ⟨congrArg (fun z => Ending.returned (.string (str z))) (by rw [HF.out.is, List.take_length]), HF.out.below⟩
def ontimeref05_Format.f (l : List S48) : Option ByteArray := if l.length ≤ 4096 ∧ (l.all fun i => decide (0 ≤ i.f0) && validB i) = true then some (str (textL l)) else none
theorem ontimeref05_Format.calls (A0 : Option Addr) (c0 : Nat) (l0 : List (S48)) (r : ByteArray) (w : World) (hr0 : Kd.C k48 w A0 l0.length l0) (hc0 : l0.length ≤ c0) (h : ontimeref05_Format.f l0 = some r) :
    Calls Tryd.prog 15 #[.slice A0 l0.length c0] w fun e w' => e = .returned (.string r) ∧ Below w.heap.size w w' := by
  unfold ontimeref05_Format.f at h
  split at h
  · rename_i hok
    obtain rfl := Option.some.inj h
    refine refFormat_calls A0 c0 l0 w hr0 hc0 hok.1 (fun i hi => ?_)
    have := List.all_eq_true.1 hok.2 i hi
    simpa using this
  · cases h
end Go.Proofs.YtmgafakahbanaaaDoor.Pa

namespace Go.Proofs.YtmgafakahbanaaaDoor.Pa
open Go.RowKit Go.Proofs.YtmgafakahbanaaaDoorW.PrintWords Go.Proofs.YtmgafakahbanaaaDoorW.PrintLast Go.Proofs.YtmgafakahbanaaaDoorW.PrintMore
set_option linter.unusedVariables false
set_option linter.unusedSimpArgs false

theorem read_calls (c : Int) (w : World) :
    Calls Tryd.prog 51 #[.int .u8 c] w fun e w' => e = .returned (.func (.func 66) #[] #[.pointer (some ⟨w.heap.size, 0, none⟩)]) ∧ w' = w.alloc (.cells #[.int .u8 c] 5) := by
  go_enter Tryd.func51, Tryd.ntmps51
  go_wp2
  go_ret
  exact ⟨rfl, rfl⟩
/-- What is parsed of a word of a class. -/
def opText (c : Int) (s : List UInt8) : List UInt8 := if c = 73 then s else Lib.trimPrefix s [114]
theorem atoi_yes (s : ByteArray) (v : Int) (w : World) (hs : s.size ≤ 100000) (h : Lib.atoiAll s.data.toList = .ok v) :
    Calls Tryd.prog 68 #[.string s] w fun e w' => e = .returned (.tuple #[.int .i64 v, .nilIface]) ∧ Below w.heap.size w w' :=
  (Tryd.strconv_Atoi_ok s (by omega) v h w).mono fun e w' ⟨he, hw⟩ => ⟨he, by
    rcases hw with rfl | ⟨t, rfl⟩
    · exact Below.refl _ _
    · exact bytesWorld_below _ _ _⟩
theorem atoi_no (s : ByteArray) (w : World) (hs : s.size ≤ 100000) (h : ∀ v, Lib.atoiAll s.data.toList ≠ .ok v) (hE : EnvW w) :
    Calls Tryd.prog 68 #[.string s] w fun e w' => ∃ (n : Int) (N : Nat), e = .returned (.tuple #[.int .i64 n, .iface 126 (.pointer (some ⟨N, 0, none⟩))]) ∧ Below w.heap.size w w' := by
  cases hh : Lib.atoiAll s.data.toList
  all_goals first
    | exact absurd hh (h _)
    | (obtain ⟨ev, h1, h2⟩ := hE.rng
       exact (Tryd.strconv_Atoi_range s (by omega) hh ev w h1 h2).mono fun e w' ⟨N, he, _, _, hb⟩ => ⟨_, N, he, hb⟩)
    | (obtain ⟨ev, h1, h2⟩ := hE.syn
       exact (Any.strconv_Atoi_syntax Tryd.laysC172 s (by omega) hh ev w h1 h2).mono fun e w' ⟨N, he, _, _, hb⟩ => ⟨0, N, he, hb⟩)
theorem trim_calls (s : ByteArray) (w : World) :
    Calls Tryd.prog 67 #[.string s, .string ⟨#[114]⟩] w fun e w' => e = .returned (.string (str (Lib.trimPrefix s.data.toList [114]))) ∧ w = w' :=
  (Tryd.strings_TrimPrefix s ⟨#[114]⟩ w).mono fun e w' ⟨he, hw⟩ => ⟨he, hw.symm⟩
theorem trim_short (s : List UInt8) (p : List UInt8) : (Lib.trimPrefix s p).length ≤ s.length := by
  unfold Lib.trimPrefix
  split
  · simp
  · omega
set_option maxHeartbeats 1000000 in
theorem read1_yes (s : ByteArray) (B : Nat) (c v : Int) (w : World) (hs : s.size ≤ 100000) (hc : w.cell? ⟨B, 0, none⟩ = some (.int .u8 c)) (h : Lib.atoiAll (opText c s.data.toList) = .ok v) :
    Calls Tryd.prog 66 #[.string s, .pointer (some ⟨B, 0, none⟩)] w fun e w' => e = .returned (.tuple #[.int .i64 v, .bool true]) ∧ Below w.heap.size w w' := by
  by_cases h1 : c = 73
  · subst h1
    have HA := fun w => Lib.hid (atoi_yes s v w hs h)
    clear h
    go_enter Tryd.func66, Tryd.ntmps66
    go_wp2_with (go_at_call 68; refine (HA _).out.mono ?_; rintro e w1 ⟨rfl, hb⟩)
    go_quiet (fail)
    go_wp2
    go_ret2
    exact ⟨rfl, pw_below_drewN hb _⟩
  · have k1 : (c != 73) = true := by simpa using h1
    have hx : opText c s.data.toList = Lib.trimPrefix s.data.toList [114] := if_neg h1
    rw [hx] at h
    have hsz : (str (Lib.trimPrefix s.data.toList [114])).size ≤ 100000 := by 
      rw [str_size]
      have := trim_short s.data.toList [114]
      have e : s.data.toList.length = s.size := (by simp)
      omega
    have HA := fun w => Lib.hid (atoi_yes (str (Lib.trimPrefix s.data.toList [114])) v w hsz h)
    have HT := fun w => Lib.hid (trim_calls s w)
    clear h hx hsz
    generalize str (Lib.trimPrefix s.data.toList [114]) = x at HA HT
    go_enter Tryd.func66, Tryd.ntmps66
    go_wp2_with (first | (go_at_call 67; refine (HT _).out.mono ?_; rintro e w1 ⟨rfl, rfl⟩) | (go_at_call 68; refine (HA _).out.mono ?_; rintro e w1 ⟨rfl, hb⟩))
    go_quiet (fail)
    go_wp2
    go_ret2
    exact ⟨rfl, pw_below_drewN hb _⟩
set_option maxHeartbeats 1000000 in
theorem read1_no (s : ByteArray) (B : Nat) (c : Int) (w : World) (hs : s.size ≤ 100000) (hc : w.cell? ⟨B, 0, none⟩ = some (.int .u8 c)) (h : ∀ v, Lib.atoiAll (opText c s.data.toList) ≠ .ok v) (hE : EnvW w) :
    Calls Tryd.prog 66 #[.string s, .pointer (some ⟨B, 0, none⟩)] w fun e w' => ∃ n : Int, e = .returned (.tuple #[.int .i64 n, .bool false]) ∧ Below w.heap.size w w' := by
  by_cases h1 : c = 73
  · subst h1
    have HA := Lib.hid (atoi_no s w hs h hE)
    clear h
    go_enter Tryd.func66, Tryd.ntmps66
    go_wp2_with (go_at_call 68; refine HA.out.mono ?_; rintro e w1 ⟨n, N, rfl, hb⟩)
    go_quiet (fail)
    go_wp2
    go_ret2
    exact ⟨n, rfl, pw_below_drewN hb _⟩
  · have k1 : (c != 73) = true := by simpa using h1
    have hx : opText c s.data.toList = Lib.trimPrefix s.data.toList [114] := if_neg h1
    rw [hx] at h
    have hsz : (str (Lib.trimPrefix s.data.toList [114])).size ≤ 100000 := by 
      rw [str_size]
      have := trim_short s.data.toList [114]
      have e : s.data.toList.length = s.size := (by simp)
      omega
    have HA := Lib.hid (atoi_no (str (Lib.trimPrefix s.data.toList [114])) w hsz h hE)
    have HT := Lib.hid (trim_calls s w)
    clear h hx hsz
    generalize str (Lib.trimPrefix s.data.toList [114]) = x at HA HT
    go_enter Tryd.func66, Tryd.ntmps66
    go_wp2_with (first | (go_at_call 67; refine HT.out.mono ?_; rintro e w1 ⟨rfl, rfl⟩) | (go_at_call 68; refine HA.out.mono ?_; rintro e w1 ⟨n, N, rfl, hb⟩))
    go_quiet (fail)
    go_wp2
    go_ret2
    exact ⟨n, rfl, pw_below_drewN hb _⟩
end Go.Proofs.YtmgafakahbanaaaDoor.Pa

namespace Go.Proofs.YtmgafakahbanaaaDoor.Pa
open Go.RowKit Go.Proofs.YtmgafakahbanaaaDoorW.PrintWords Go.Proofs.YtmgafakahbanaaaDoorW.PrintLast Go.Proofs.YtmgafakahbanaaaDoorW.PrintMore
set_option linter.unusedVariables false
set_option linter.unusedSimpArgs false

/-- The words of a line are those of an instruction. -/
def Dec (ws : List (List UInt8)) (i : S48) : Prop := 0 ≤ i.f0 ∧ validB i = true ∧ ws = mnem i.f0 :: opWords i
structure IPost (ws : List (List UInt8)) (i : S48) (ok : Bool) : Prop where
  yes : ok = true → Dec ws i
  no : ok = false → ∀ i', ¬ Dec ws i'

def bytesOf (ws : List ByteArray) : List (List UInt8) := ws.map (·.data.toList)

/-! ### facts of the table, by the kernel -/
def mnemGood : Bool := (List.range 30).all fun n => !(mnem (n : Int)).contains 32 && (List.range 30).all fun m => decide (n = m) || !(decide (mnem (n : Int) = mnem (m : Int)))
theorem mnemGood_all : mnemGood = true := by kernel_rfl
theorem mnem_space (op : Int) (h0 : 0 ≤ op) (h1 : op < 30) : (32 : UInt8) ∉ mnem op := by
  have h := List.all_eq_true.1 mnemGood_all op.toNat (by simp; omega)
  rw [show ((op.toNat : Nat) : Int) = op by omega] at h
  simp only [Bool.and_eq_true, Bool.not_eq_true', List.contains_eq_mem, decide_eq_false_iff_not] at h
  exact h.1
theorem mnem_inj (p q : Int) (h0 : 0 ≤ p) (h1 : p < 30) (h2 : 0 ≤ q) (h3 : q < 30) (h : mnem p = mnem q) : p = q := by
  have hh := List.all_eq_true.1 mnemGood_all p.toNat (by simp; omega)
  rw [show ((p.toNat : Nat) : Int) = p by omega] at hh
  simp only [Bool.and_eq_true] at hh
  have h' := List.all_eq_true.1 hh.2 q.toNat (by simp; omega)
  rw [show ((q.toNat : Nat) : Int) = q by omega] at h'
  simp only [h, Bool.or_eq_true, decide_eq_true_eq, decide_true, Bool.not_true, Bool.false_eq_true, or_false] at h'
  omega
def shapeGood : Bool := (List.range 30).all fun n => decide ((shapeI (n : Int)).Nodup)
theorem shapeGood_all : shapeGood = true := by kernel_rfl
theorem shape_nodup (op : Int) (h0 : 0 ≤ op) (h1 : op < 30) : (shapeI op).Nodup := by
  have h := List.all_eq_true.1 shapeGood_all op.toNat (by simp; omega)
  rw [show ((op.toNat : Nat) : Int) = op by omega] at h
  simpa using h
theorem okF_absent (op c x : Int) (hc : c ∉ shapeI op) (h : okF (rowOf op) c x = true) : x = 0 := by
  unfold okF at h
  have : hasB (rowOf op).f1 c = false := by
    unfold hasB
    have : c ∉ nums8 (rowOf op).f1 := hc
    simpa using this
  rw [if_neg (by rw [this]; simp)] at h
  simpa using h
theorem opText_word (i : S48) (c : Int) (hc : c = 97 ∨ c = 98 ∨ c = 99 ∨ c = 105) (h0 : -200000 ≤ xF i c) (h1 : xF i c ≤ 200000) : Lib.atoiAll (opText (c - 32) (opWord i c)) = .ok (xF i c) := by
  rcases hc with rfl | rfl | rfl | rfl
  · have : opText (97 - 32) (opWord i 97) = Lib.itoa (xF i 97) := by simp [opText, opWord, Lib.trimPrefix, Lib.hasPrefix, List.isPrefixOf]
    rw [this]; exact Num.atoi_itoa _ (by omega) (by omega)
  · have : opText (98 - 32) (opWord i 98) = Lib.itoa (xF i 98) := by simp [opText, opWord, Lib.trimPrefix, Lib.hasPrefix, List.isPrefixOf]
    rw [this]; exact Num.atoi_itoa _ (by omega) (by omega)
  · have : opText (99 - 32) (opWord i 99) = Lib.itoa (xF i 99) := by simp [opText, opWord, Lib.trimPrefix, Lib.hasPrefix, List.isPrefixOf]
    rw [this]; exact Num.atoi_itoa _ (by omega) (by omega)
  · have : opText (105 - 32) (opWord i 105) = Lib.itoa (xF i 105) := by simp [opText, opWord, xF]
    rw [this]; exact Num.atoi_itoa _ (by omega) (by omega)
theorem opWord_space (i : S48) (c : Int) : (32 : UInt8) ∉ opWord i c := by
  have key : ∀ n : Int, (32 : UInt8) ∉ Lib.itoa n := fun n hh => by
    have := Num.itoa_bytes n 32 hh
    simp at this
  unfold opWord
  split
  · exact key _
  · intro hh
    rcases List.mem_cons.1 hh with hh | hh
    · exact absurd hh (by decide)
    · exact key _ hh
theorem spaced_same (ws : List (List UInt8)) : spaced ws = Num.spaced ws := rfl

/-! ### what instruction has read -/
/-- Behind the first k operands: what was read, and zero elsewhere. -/
structure Part (ws : List ByteArray) (op : Int) (k : Nat) (cur : S48) : Prop where
  same : cur.f0 = op
  got : ∀ j c, j < k → (shapeI op)[j]? = some c → ∃ x, ws[j + 1]? = some x ∧ Lib.atoiAll (opText (c - 32) x.data.toList) = .ok (xF cur c)
  rest : ∀ c, (c = 97 ∨ c = 98 ∨ c = 99 ∨ c = 105) → c ∉ (shapeI op).take k → xF cur c = 0
def setF (i : S48) (c v : Int) : S48 := ⟨i.f0, if c = 97 then v else i.f1, if c = 98 then v else i.f2, if c = 99 then v else i.f3, if c = 105 then v else i.f4⟩
theorem setF_same (i : S48) (c v : Int) (hc : c = 97 ∨ c = 98 ∨ c = 99 ∨ c = 105) : xF (setF i c v) c = v := by
  rcases hc with rfl | rfl | rfl | rfl <;> simp [setF, xF]
theorem setF_far (i : S48) (c d v : Int) (hc : c = 97 ∨ c = 98 ∨ c = 99 ∨ c = 105) (hd : d = 97 ∨ d = 98 ∨ d = 99 ∨ d = 105) (h : c ≠ d) : xF (setF i c v) d = xF i d := by
  rcases hc with rfl | rfl | rfl | rfl <;> rcases hd with rfl | rfl | rfl | rfl <;> first | exact absurd rfl h | simp [setF, xF]
theorem Part.start (ws : List ByteArray) (op : Int) : Part ws op 0 ⟨op, 0, 0, 0, 0⟩ :=
  ⟨rfl, fun j c hj => by omega, fun c hc _ => by rcases hc with rfl | rfl | rfl | rfl <;> rfl⟩
theorem Part.step {ws : List ByteArray} {op : Int} {k : Nat} {cur : S48} (h : Part ws op k cur) (h0 : 0 ≤ op) (h1 : op < 30) (c v : Int) (x : ByteArray) (hs : (shapeI op)[k]? = some c) (hx : ws[k + 1]? = some x) (hv : Lib.atoiAll (opText (c - 32) x.data.toList) = .ok v) : Part ws op (k + 1) (setF cur c v) := by
  have hcs := (cls_facts op h0 h1).2.2.2.2.1
  have hnd := shape_nodup op h0 h1
  have hc := hcs c (List.mem_of_getElem? hs)
  refine ⟨h.same, fun j d hj hd => ?_, fun d hd hn => ?_⟩
  · by_cases e : j = k
    · subst e
      rw [hs] at hd
      obtain rfl := Option.some.inj hd
      exact ⟨x, hx, by rw [setF_same _ _ _ hc]; exact hv⟩
    · obtain ⟨y, hy, hyv⟩ := h.got j d (by omega) hd
      refine ⟨y, hy, ?_⟩
      rw [setF_far _ _ _ _ hc (hcs d (List.mem_of_getElem? hd))]
      · exact hyv
      · rintro rfl
        obtain ⟨hk, hk2⟩ := List.getElem?_eq_some_iff.1 hs
        obtain ⟨hl, hl2⟩ := List.getElem?_eq_some_iff.1 hd
        exact e ((List.getElem_inj hnd).1 (hl2.trans hk2.symm))
  · have hk : (shapeI op).take (k + 1) = (shapeI op).take k ++ [c] := by
      rw [List.take_add_one, hs]; rfl
    rw [hk] at hn
    have h2 : c ≠ d := fun e => hn (by simp [e])
    rw [setF_far _ _ _ _ hc hd h2]
    exact h.rest d hd (fun e => hn (by simp [e]))
theorem xF_ext (i i' : S48) (h0 : i.f0 = i'.f0) (h : ∀ c, (c = 97 ∨ c = 98 ∨ c = 99 ∨ c = 105) → xF i c = xF i' c) : i = i' := by
  obtain ⟨a, b, c, d, e⟩ := i
  obtain ⟨a', b', c', d', e'⟩ := i'
  have h1 := h 97 (by omega)
  have h2 := h 98 (by omega)
  have h3 := h 99 (by omega)
  have h4 := h 105 (by omega)
  simp [xF] at h0 h1 h2 h3 h4
  subst h0 h1 h2 h3 h4
  rfl
/-- An instruction whose words they are: each is read as its operand. -/
theorem dec_word {ws : List ByteArray} {i' : S48} (hd : Dec (bytesOf ws) i') (j : Nat) (c : Int) (hs : (shapeI i'.f0)[j]? = some c) (x : ByteArray) (hx : ws[j + 1]? = some x) : Lib.atoiAll (opText (c - 32) x.data.toList) = .ok (xF i' c) := by
  obtain ⟨h0, hv, he⟩ := hd
  have h1 := (valid_parts i' hv).1
  have hcs := (cls_facts i'.f0 h0 h1).2.2.2.2.1
  have e1 : (bytesOf ws)[j + 1]? = some x.data.toList := by simp [bytesOf, hx]
  rw [he] at e1
  simp only [List.getElem?_cons_succ, opWords, List.getElem?_map, hs, Option.map_some, Option.some.injEq] at e1
  rw [← e1]
  have hb := valid_bound i' h0 hv c
  exact opText_word i' c (hcs c (List.mem_of_getElem? hs)) hb.1 hb.2
theorem dec_cur {ws : List ByteArray} {op : Int} {cur i' : S48} (hp : Part ws op (shapeI op).length cur) (h0 : 0 ≤ op) (h1 : op < 30) (hd : Dec (bytesOf ws) i') (ho : i'.f0 = op) : cur = i' := by
  obtain ⟨g0, hv, he⟩ := id hd
  have hcs := (cls_facts op h0 h1).2.2.2.2.1
  refine xF_ext _ _ (hp.same.trans ho.symm) (fun c hc => ?_)
  by_cases hm : c ∈ shapeI op
  · obtain ⟨j, hj, hj2⟩ := List.getElem_of_mem hm
    have hs : (shapeI op)[j]? = some c := by rw [List.getElem?_eq_getElem hj, hj2]
    obtain ⟨x, hx, hxv⟩ := hp.got j c hj hs
    rw [← ho] at hs
    have := dec_word hd j c hs x hx
    rw [hxv] at this
    injection this
  · rw [hp.rest c hc (by rw [List.take_length]; exact hm)]
    obtain ⟨_, a, b, d, e⟩ := valid_parts i' hv
    rw [ho] at a b d e
    rcases hc with rfl | rfl | rfl | rfl
    · exact (okF_absent op 97 _ hm a).symm
    · exact (okF_absent op 98 _ hm b).symm
    · exact (okF_absent op 99 _ hm d).symm
    · exact (okF_absent op 105 _ hm e).symm
theorem dec_op {ws : List ByteArray} {i' : S48} {x0 : ByteArray} (hd : Dec (bytesOf ws) i') (hx : ws[0]? = some x0) : mnem i'.f0 = x0.data.toList ∧ 0 ≤ i'.f0 ∧ i'.f0 < 30 ∧ ws.length = (shapeI i'.f0).length + 1 := by
  obtain ⟨h0, hv, he⟩ := hd
  have h1 := (valid_parts i' hv).1
  have e1 : (bytesOf ws)[0]? = some x0.data.toList := by simp [bytesOf, hx]
  rw [he] at e1
  simp only [List.getElem?_cons_zero, Option.some.injEq] at e1
  have e2 := congrArg List.length he
  simp [bytesOf, opWords] at e2
  exact ⟨e1, h0, h1, e2⟩
/-- Behind all operands: valid, and the line is that of the words. -/
theorem dec_end {ws : List ByteArray} {op : Int} {cur : S48} {x0 : ByteArray} (hp : Part ws op (shapeI op).length cur) (h0 : 0 ≤ op) (h1 : op < 30) (hx : ws[0]? = some x0) (hx0 : x0.data.toList = mnem op) (hsp : ∀ x ∈ ws, (32 : UInt8) ∉ x.data.toList) (ok : Bool)
    (hok : ok = (validB cur && decide (lineL cur = Lib.join (bytesOf ws) [32]))) : IPost (bytesOf ws) cur ok := by
  have hf := hp.same
  refine ⟨fun h => ?_, fun h i' hd => ?_⟩
  · rw [h] at hok
    have hok := hok.symm
    simp only [Bool.and_eq_true, decide_eq_true_eq] at hok
    obtain ⟨hv, hl⟩ := hok
    refine ⟨by omega, hv, ?_⟩
    cases ws with
    | nil => simp at hx
    | cons y ws =>
      have e : bytesOf (y :: ws) = y.data.toList :: bytesOf ws := rfl
      rw [e, Num.join_spaced, lineL, spaced_same] at hl
      have := Num.line_inj _ _ _ _ (by rw [hf]; exact mnem_space op h0 h1) (hsp y List.mem_cons_self) (fun z hz => ?_) (fun z hz => ?_) hl
      · rw [e, this.1, this.2]
      · simp only [opWords, List.mem_map] at hz
        obtain ⟨c, _, rfl⟩ := hz
        exact opWord_space _ _
      · simp only [bytesOf, List.mem_map] at hz
        obtain ⟨q, hq, rfl⟩ := hz
        exact hsp q (List.mem_cons_of_mem _ hq)
  · obtain ⟨a, b, c, d⟩ := dec_op hd hx
    have ho := mnem_inj i'.f0 op b c h0 h1 (a.trans hx0)
    have := dec_cur hp h0 h1 hd ho
    subst this
    obtain ⟨_, hv, he⟩ := hd
    rw [h] at hok
    rw [hv] at hok
    have h5 : lineL cur = Lib.join (bytesOf ws) [32] := by rw [he, Num.join_spaced]; rfl
    simp [h5] at hok

end Go.Proofs.YtmgafakahbanaaaDoor.Pa

namespace Go.Proofs.YtmgafakahbanaaaDoor.Pa
open Go.Sort Go.RowKit Go.Proofs.YtmgafakahbanaaaDoorW.PrintWords Go.Proofs.YtmgafakahbanaaaDoorW.PrintLast Go.Proofs.YtmgafakahbanaaaDoorW.PrintMore
set_option linter.unusedVariables false
set_option linter.unusedSimpArgs false

/-- What the loop of instruction keeps. -/
structure OInv (w : World) (g : Nat) (ws : List ByteArray) (wr : World) : Prop where
  env : EnvW wr
  below : Below w.heap.size w wr
  blk : wr.heap[w.heap.size]? = some (.cells #[.int .u8 0, .int .i64 0, .int .i64 0, .int .i64 0, .int .i64 0] 48 (0, 0))
  words : ∀ (j : Nat) x, ws[j]? = some x → wr.cell? ⟨g, j, none⟩ = some (.string x)
  lt : g < wr.heap.size
theorem OInv.step {w : World} {g : Nat} {ws : List ByteArray} {wr w1 : World} (h : OInv w g ws wr) (hb : Below wr.heap.size wr w1) : OInv w g ws w1 := by
  obtain ⟨h0, h1, h2, h3, h4⟩ := h
  refine ⟨h0.below hb, below_then h1 h1.size hb, blk_below h2 hb, fun j x hx => (hb.cell h4).trans (h3 j x hx), ?_⟩
  have := hb.size
  omega
theorem toList_ne {a b : ByteArray} (h : ¬ a = b) : (a.toList == b.toList) = false := by
  rw [beq_eq_false_iff_ne, ByteArray.toList_eq, ByteArray.toList_eq]
  exact fun e => h (ByteArray.ext (Array.toList_inj.1 e))
theorem toList_same (a : ByteArray) : (a.toList == a.toList) = true := by simp
theorem zero_blk {W : World} {R : Nat} (h : W.heap[R]? = some (.cells #[.int .u8 0, .int .i64 0, .int .i64 0, .int .i64 0, .int .i64 0] 48 (0, 0))) :
    (((((W.setCell ⟨R, 0, none⟩ (.int .u8 0)).setCell ⟨R, 1, none⟩ (.int .i64 0)).setCell ⟨R, 2, none⟩ (.int .i64 0)).setCell ⟨R, 3, none⟩ (.int .i64 0)).setCell ⟨R, 4, none⟩ (.int .i64 0)).heap[R]? = some (.cells #[.int .u8 0, .int .i64 0, .int .i64 0, .int .i64 0, .int .i64 0] 48 (0, 0)) :=
  blk_put (blk_put (blk_put (blk_put (blk_put h 0 _ rfl) 1 _ rfl) 2 _ rfl) 3 _ rfl) 4 _ rfl
theorem five_blk {W : World} {R : Nat} (h : W.heap[R]? = some (.cells #[.int .u8 0, .int .i64 0, .int .i64 0, .int .i64 0, .int .i64 0] 48 (0, 0))) (a b c d e : Value) :
    (((((W.setCell ⟨R, 0, none⟩ a).setCell ⟨R, 1, none⟩ b).setCell ⟨R, 2, none⟩ c).setCell ⟨R, 3, none⟩ d).setCell ⟨R, 4, none⟩ e).heap[R]? = some (.cells #[a, b, c, d, e] 48 (0, 0)) :=
  blk_put (blk_put (blk_put (blk_put (blk_put h 0 _ rfl) 1 _ rfl) 2 _ rfl) 3 _ rfl) 4 _ rfl
theorem five_below {w W : World} (h : Below w.heap.size w W) (a b c d e : Value) :
    Below w.heap.size w (((((W.setCell ⟨w.heap.size, 0, none⟩ a).setCell ⟨w.heap.size, 1, none⟩ b).setCell ⟨w.heap.size, 2, none⟩ c).setCell ⟨w.heap.size, 3, none⟩ d).setCell ⟨w.heap.size, 4, none⟩ e) :=
  below_set (below_set (below_set (below_set (below_set h (Nat.le_refl _)) (Nat.le_refl _)) (Nat.le_refl _)) (Nat.le_refl _)) (Nat.le_refl _)
theorem zero_below {w W : World} (h : Below w.heap.size w W) :
    Below w.heap.size w (((((W.setCell ⟨w.heap.size, 0, none⟩ (.int .u8 0)).setCell ⟨w.heap.size, 1, none⟩ (.int .i64 0)).setCell ⟨w.heap.size, 2, none⟩ (.int .i64 0)).setCell ⟨w.heap.size, 3, none⟩ (.int .i64 0)).setCell ⟨w.heap.size, 4, none⟩ (.int .i64 0)) := five_below h _ _ _ _ _
/-- What the inner loop keeps: the instruction's block at B, the classes' bytes at S. -/
structure JInv (w : World) (B S g : Nat) (ws : List ByteArray) (cs : ByteArray) (cur : S48) (wr : World) : Prop where
  outer : OInv w g ws wr
  blk : wr.heap[B]? = some (.cells #[.int .u8 cur.f0, .int .i64 cur.f1, .int .i64 cur.f2, .int .i64 cur.f3, .int .i64 cur.f4] 48 (0, 0))
  cs : ∀ j (hj : j < cs.size), wr.cell? ⟨S, j, none⟩ = some (.int .u8 (cs.data.toList.getD j 0).toNat)
  own : w.heap.size < B
  lts : S < wr.heap.size
  ne : B < S
  old : g < w.heap.size
theorem JInv.step {w : World} {B S g : Nat} {ws : List ByteArray} {cs : ByteArray} {cur : S48} {wr w1 : World} (h : JInv w B S g ws cs cur wr) (hb : Below wr.heap.size wr w1) : JInv w B S g ws cs cur w1 := by
  obtain ⟨h0, h1, h2, h3, h4, h5, h6⟩ := h
  exact ⟨h0.step hb, blk_below h1 hb, fun j hj => (hb.cell h4).trans (h2 j hj), h3, Nat.lt_of_lt_of_le h4 hb.size, h5, h6⟩
theorem setF_blk {W : World} {B : Nat} {cur : S48} (h : W.heap[B]? = some (.cells #[.int .u8 cur.f0, .int .i64 cur.f1, .int .i64 cur.f2, .int .i64 cur.f3, .int .i64 cur.f4] 48 (0, 0))) (c v : Int) (hc : c = 97 ∨ c = 98 ∨ c = 99 ∨ c = 105) :
    (W.setCell ⟨B, fo2 (c - 32), none⟩ (.int .i64 v)).heap[B]? = some (.cells #[.int .u8 (setF cur c v).f0, .int .i64 (setF cur c v).f1, .int .i64 (setF cur c v).f2, .int .i64 (setF cur c v).f3, .int .i64 (setF cur c v).f4] 48 (0, 0)) := by
  rcases hc with rfl | rfl | rfl | rfl
  · exact blk_put h 1 _ rfl
  · exact blk_put h 2 _ rfl
  · exact blk_put h 3 _ rfl
  · exact blk_put h 4 _ rfl
theorem JInv.put {w : World} {B S g : Nat} {ws : List ByteArray} {cs : ByteArray} {cur : S48} {wr : World} (h : JInv w B S g ws cs cur wr) (hE : EnvW w) (c v : Int) (hc : c = 97 ∨ c = 98 ∨ c = 99 ∨ c = 105) : JInv w B S g ws cs (setF cur c v) (wr.setCell ⟨B, fo2 (c - 32), none⟩ (.int .i64 v)) := by
  obtain ⟨⟨a0, a1, a2, a3, a4⟩, h1, h2, h3, h4, h5, h6⟩ := h
  have hb : Below w.heap.size w (wr.setCell ⟨B, fo2 (c - 32), none⟩ (.int .i64 v)) := below_set a1 (by omega)
  have far : ∀ (q i : Nat) (u : Value), q ≠ B → wr.cell? ⟨q, i, none⟩ = some u → (wr.setCell ⟨B, fo2 (c - 32), none⟩ (.int .i64 v)).cell? ⟨q, i, none⟩ = some u := by
    intro q i u hq hu
    have := Below.heap_setCell wr ⟨B, fo2 (c - 32), none⟩ (.int .i64 v) q hq
    simpa [World.cell?, this] using hu
  refine ⟨⟨hE.below hb, hb, blk_far a2 (by show w.heap.size ≠ B; omega) _, fun j x hx => far _ _ _ (by omega) (a3 j x hx), by simpa [World.setCell] using a4⟩, setF_blk h1 c v hc, fun j hj => far _ _ _ (by omega) (h2 j hj), h3, by simpa [World.setCell] using h4, h5, h6⟩
theorem JInv.fields {w : World} {B S g : Nat} {ws : List ByteArray} {cs : ByteArray} {cur : S48} {wr : World} (h : JInv w B S g ws cs cur wr) (c : Int) : wr.cell? ⟨B, fo2 (c - 32), none⟩ = some (.int .i64 (xF cur c)) := by
  rw [fo2_cases]
  unfold xF
  by_cases h1 : c = 97
  · rw [if_pos h1, if_pos h1]; exact blk_cell h.blk 1
  · rw [if_neg h1, if_neg h1]
    by_cases h2 : c = 98
    · rw [if_pos h2, if_pos h2]; exact blk_cell h.blk 2
    · rw [if_neg h2, if_neg h2]
      by_cases h3 : c = 99
      · rw [if_pos h3, if_pos h3]; exact blk_cell h.blk 3
      · rw [if_neg h3, if_neg h3]; exact blk_cell h.blk 4
theorem shape_code {op : Int} {cs : ByteArray} (h : nums8 cs = (shapeI op).map (· - 32)) (k : Nat) (hk : k < cs.size) : ∃ sc, (shapeI op)[k]? = some sc ∧ ((cs.data.toList.getD k 0).toNat : Int) = sc - 32 := by
  have e1 : (nums8 cs)[k]? = some (((cs.data.toList.getD k 0).toNat : Int)) := by
    have hj' : k < cs.data.toList.length := by simpa using hk
    rw [nums8, List.getElem?_map, List.getD_eq_getElem?_getD, List.getElem?_eq_getElem hj']
    rfl
  rw [h, List.getElem?_map] at e1
  cases hs : (shapeI op)[k]? with
  | none => rw [hs] at e1; simp at e1
  | some c =>
    rw [hs] at e1
    simp only [Option.map_some, Option.some.injEq] at e1
    exact ⟨c, rfl, e1.symm⟩
theorem join_calls (g c : Nat) (ws : List ByteArray) (w : World) (hcells : ∀ (j : Nat) x, ws[j]? = some x → w.cell? ⟨g, j, none⟩ = some (.string x)) (hg : g < w.heap.size) (hN : ws.length ≤ 100000) (hcap : ws.length ≤ c) (hJ : (Lib.join (bytesOf ws) [32]).length ≤ 140737488355328) :
    Calls Tryd.prog 52 #[.slice (some ⟨g, 0, none⟩) ws.length c, .string ⟨#[32]⟩] w fun e w' => e = .returned (.string (str (Lib.join (bytesOf ws) [32]))) ∧ Below w.heap.size w w' :=
  Tryd.strings_Join g 0 c ws ⟨#[32]⟩ w (fun j x hx => by rw [Nat.zero_add]; exact hcells j x hx) hg (by omega) hcap hJ
theorem next_idx (k n : Nat) (h : k + 1 < n) (hn : n ≤ 100000) : wrap64 ((k : Int) + 1) = (k : Int) + 1 ∧ ((k : Int) + 1).toNat = k + 1 ∧ 0 ≤ (k : Int) + 1 ∧ (k : Int) + 1 < (n : Int) := by
  refine ⟨?_, ?_, ?_, ?_⟩
  · unfold wrap64; omega
  · omega
  · omega
  · omega
theorem num_next (k n : Nat) (h : k < n) (hn : n ≤ 100000) : wrap64 ((k : Int) + 1) = ((k + 1 : Nat) : Int) := by unfold wrap64; omega
theorem meas_next (k n : Nat) (h : k < n) (hn : n ≤ 100000) : n - (intOf (Value.int IntKind.i64 (wrap64 ((k : Int) + 1)))).toNat < n - (intOf (Value.int IntKind.i64 (k : Int))).toNat := by
  rw [num_next k n h hn]
  simp [intOf]
  omega
theorem nat_lt30 (j : Nat) (h : j < 30) : 0 ≤ (j : Int) ∧ (j : Int) < 30 := ⟨by omega, by omega⟩
theorem str_eq_dec (a b : List UInt8) : ((str a).toList == (str b).toList) = (true && decide (a = b)) := by
  rw [ByteArray.toList_eq, ByteArray.toList_eq, Bool.true_and]
  show (a == b) = decide (a = b)
  by_cases h : a = b
  · subst h; simp
  · rw [decide_eq_false h, beq_eq_false_iff_ne]; exact h
theorem below_next {wr w3 : World} {o : Obj} (hb : Below (wr.drew.alloc o).heap.size (wr.drew.alloc o) w3) : Below wr.heap.size wr w3 :=
  (below_alloc (below_drew1 (Below.refl _ _)) _).trans (hb.mono (by simp))
theorem size_next {wr : World} {g : Nat} {o : Obj} (h : g < wr.heap.size) : g < (wr.drew.alloc o).heap.size := by simp; omega
theorem jinv_start (w wq : World) (g : Nat) (ws : List ByteArray) (cs : ByteArray) (op : Int) (w2 : World) (hg : g < w.heap.size) (hO : OInv w g ws wq)
    (hd : Drawn0 (wq.alloc (.cells #[.int .u8 op, .int .i64 0, .int .i64 0, .int .i64 0, .int .i64 0] 48)) w2) :
    JInv w wq.heap.size w2.heap.size g ws cs ⟨op, 0, 0, 0, 0⟩ (Lib.bytesWorld w2 5 cs) := by
  obtain ⟨n, rfl⟩ := hd.out
  have hb1 : Below wq.heap.size wq ((wq.alloc (.cells #[.int .u8 op, .int .i64 0, .int .i64 0, .int .i64 0, .int .i64 0] 48)).drewN n) := pw_below_drewN (below_alloc (Below.refl _ _) _) n
  have hb2 := bytesWorld_below ((wq.alloc (.cells #[.int .u8 op, .int .i64 0, .int .i64 0, .int .i64 0, .int .i64 0] 48)).drewN n) 5 cs
  have hl : w.heap.size < wq.heap.size := blk_lt hO.blk
  refine ⟨(hO.step hb1).step hb2, blk_below (blk_drewN (blk_new _ _) n) hb2, fun j hj => Lib.bytesWorld_cell _ 5 cs j hj, hl, ?_, ?_, hg⟩
  · rw [Lib.bytesWorld_size]; simp
  · simp
set_option maxRecDepth 100000 in
set_option maxHeartbeats 4000000 in
theorem instr_calls (g c : Nat) (ws : List ByteArray) (w : World) (hE : EnvW w) (hcells : ∀ (j : Nat) x, ws[j]? = some x → w.cell? ⟨g, j, none⟩ = some (.string x)) (hg : g < w.heap.size) (h1 : 1 ≤ ws.length) (hcap : ws.length ≤ c) (hN : ws.length ≤ 100000)
    (hsz : ∀ x ∈ ws, x.size ≤ 100000) (hsp : ∀ x ∈ ws, (32 : UInt8) ∉ x.data.toList) (hJ : (Lib.join (bytesOf ws) [32]).length ≤ 140737488355328) :
    Calls Tryd.prog 35 #[.slice (some ⟨g, 0, none⟩) ws.length c] w fun e w' => ∃ (i : S48) (ok : Bool), e = .returned (.tuple #[.agg #[.int .u8 i.f0, .int .i64 i.f1, .int .i64 i.f2, .int .i64 i.f3, .int .i64 i.f4], .bool ok]) ∧ IPost (bytesOf ws) i ok ∧ Below w.heap.size w w' := by
  obtain ⟨x0, hx0⟩ : ∃ x0, ws[0]? = some x0 := ⟨ws[0], List.getElem?_eq_getElem (by omega)⟩
  have HX0 := Lib.hid hx0
  have HCells := Lib.hid hcells
  have HSz := Lib.hid hsz
  have HSp := Lib.hid hsp
  have HJj := Lib.hid hJ
  have hu48 := Tryd.underlying48
  have hO : Aside0 (OInv w g ws (w.alloc (.cells #[.int .u8 0, .int .i64 0, .int .i64 0, .int .i64 0, .int .i64 0] 48))) := by
    have hb : Below w.heap.size w (w.alloc (.cells #[.int .u8 0, .int .i64 0, .int .i64 0, .int .i64 0, .int .i64 0] 48)) := below_alloc (Below.refl _ _) _
    exact ⟨hE.below hb, hb, blk_new _ _, fun j x hx => (hb.cell hg).trans (hcells j x hx), by simp; omega⟩
  have HE := Aside0.mk hE
  clear hx0 hcells hsz hsp hJ hE
  go_enter Tryd.func35, Tryd.ntmps35
  go_wp2
  go_loopw [11] (fun v wr => ∃ j : Nat, j ≤ 30 ∧ v = .int .u8 j ∧ Aside0 (∀ q : Nat, q < j → mnem (q : Int) ≠ x0.data.toList) ∧ Aside0 (OInv w g ws wr)) (fun v _ => 30 - (intOf v).toNat)
  case atStart => exact ⟨0, by omega, rfl, ⟨fun q hq => by omega⟩, hO⟩
  case round =>
    obtain ⟨j, hj, rfl, HM, HO⟩ := hrel
    by_cases hlt : j < 30
    · obtain ⟨hc1, hc2, hc3, hc4, hc5, _, _, hm⟩ := cls_facts (j : Int) (by omega) (by omega)
      have hj01 := nat_lt30 j hlt
      have HMn := Lib.hid hm
      have HC1 := Lib.hid hc1
      have HC2 := Lib.hid hc2
      have HC5 := Lib.hid hc5
      clear hm hc1 hc2 hc5
      have cw := HO.out.words 0 x0 HX0.out
      have hpos : 0 < ws.length := h1
      by_cases he : (rowOf (j : Int)).f0 = x0
      · subst he
        have heq := toList_same (rowOf (j : Int)).f0
        have hcsl : (clsOf (j : Int)).size = (shapeI (j : Int)).length := by rw [← nums8_len, HC2.out]; simp
        generalize hcs : clsOf (j : Int) = cs at HC1 HC2 hcsl
        have HCs := Lib.hid hcs
        clear hcs
        have hcs3 : cs.size ≤ 3 := by omega
        have HCsl := Lib.hid hcsl
        clear hcsl
        go_wp2
        refine wp_region_quiet_below (by kernel_rfl) (by kernel_rfl) ?_
        have k0 := cell_regrown cw
        have cQ := fun d os w => Calls.regrown_of (d := d) (os := os) (w := w) (isa_Mnemonic.calls 20 (j : Int) _ (grow (redrawn w d) os) HMn.out)
        repeat (quiet_step (exact cQ _ _ _))
        refine wpQuiet_nil ?_
        intro _ hw'
        obtain ⟨⟨dq, osq⟩, hw''⟩ := hw'
        subst hw''
        clear k0 cQ
        have HO2 := Aside0.mk (HO.out.step (below_regrown _ dq osq))
        generalize grow (redrawn wr dq) osq = wq at HO2 ⊢
        clear HO heq
        by_cases hlen : ws.length = cs.size + 1
        · have hl3 : (cs.size : Int) + 1 = (ws.length : Int) := by omega
          have HLen := Lib.hid hlen
          clear hlen
          have hcv := fun (w : World) => Lib.run_convert_string_bytes (P := Tryd.prog) w 9 36 5 cs Tryd.underlying9 Tryd.underlying36 Tryd.underlying5
          go_wp2_with (go_at_call 42; refine (asm_classes.calls 10 (j : Int) _ _ HC1.out).mono ?_; rintro e w2 ⟨rfl, hd2⟩; have HJ2 : Aside0 (JInv w wq.heap.size w2.heap.size g ws cs ⟨(j : Int), 0, 0, 0, 0⟩ (Lib.bytesWorld w2 5 cs)) := ⟨jinv_start w wq g ws cs (j : Int) w2 hg HO2.out hd2⟩)
          clear hd2 hcv
          go_loopw [34] (fun v wr => ∃ (k : Nat) (cur : S48), k ≤ cs.size ∧ v = .int .i64 k ∧ Aside0 (Part ws (j : Int) k cur) ∧ Aside0 (JInv w wq.heap.size w2.heap.size g ws cs cur wr)) (fun v _ => cs.size - (intOf v).toNat)
          case atStart => exact ⟨0, _, by omega, rfl, ⟨Part.start ws _⟩, HJ2⟩
          case round =>
            obtain ⟨k, cur, hk, rfl, HP, HJ⟩ := hrel
            clear HJ2
            by_cases hlt2 : k < cs.size
            · have hcell := HJ.out.cs k hlt2
              obtain ⟨sc, hsc, hsc2⟩ := shape_code HC2.out k hlt2
              rw [hsc2] at hcell
              have hcl : sc = 97 ∨ sc = 98 ∨ sc = 99 ∨ sc = 105 := HC5.out sc (List.mem_of_getElem? hsc)
              obtain ⟨x, hx⟩ : ∃ x, ws[k + 1]? = some x := ⟨ws[k + 1]'(by have := HLen.out; omega), List.getElem?_eq_getElem _⟩
              have hxs := HSz.out x (List.mem_of_getElem? hx)
              have cw := HJ.out.outer.words (k + 1) x hx
              have hfl := HJ.out.fields sc
              have hfr : wr.frozen? ⟨wq.heap.size, fo2 (sc - 32), none⟩ = false := blk_frozen HJ.out.blk _
              have HX := Lib.hid hx
              have HSC := Lib.hid hsc
              have HCL := Lib.hid hcl
              have HEr := Aside0.mk HJ.out.outer.env
              have HG := HJ.out.outer.lt
              have hko : k + 1 < ws.length := by have := HLen.out; omega
              clear hx hsc hcl hsc2
              generalize hcle : sc - 32 = cl at hcell hfl hfr
              have HCle := Lib.hid hcle
              clear hcle
              have hclo : (wr.drew.alloc (.cells #[.int .u8 cl] 5)).cell? ⟨wr.heap.size, 0, none⟩ = some (.int .u8 cl) := World.cell?_alloc_mark _ _ _ _ _
              have HG3 : g < (wr.drew.alloc (.cells #[.int .u8 cl] 5)).heap.size := size_next HG
              by_cases hv : ∃ v, Lib.atoiAll (opText cl x.data.toList) = .ok v
              · obtain ⟨v, hv⟩ := hv
                go_wp2
                obtain ⟨hk1, hk2, hk3, hk4⟩ := next_idx k ws.length hko hN
                -- BEGIN r12yes
                refine start_ (n := 13) (S := fun w' => w'.cell? ⟨g, k + 1, none⟩ = some (.string x)) (ds := []) #[false, false, false, false, false, false, false, false, false, false, false, false, false] (by kernel_rfl) rfl rfl (cw) (fun hHeld => ?_)
                refine pure_ (i := 0) (N := some 40) (v := ?_) (a' := ?_) #[true, false, false, false, false, false, false, false, false, false, false, false, false] rfl rfl (by kernel_rfl) (fun _ _ _ h => h) (Or.inl ⟨by rfl, ?_⟩) ?_ ?_
                rotate_left
                · intro w'
                  go_simp
                  with_reducible rfl
                rotate_left
                · simp only [Act.put, List.setIfInBounds_toArray, List.set_cons_zero, List.set_cons_succ, i64_w, i32_w]
                  rfl
                refine pure_ (i := 2) (N := some 42) (v := ?_) (a' := ?_) #[true, false, true, false, false, false, false, false, false, false, false, false, false] rfl rfl (by kernel_rfl) (fun _ _ _ h => h) (Or.inl ⟨by rfl, ?_⟩) ?_ ?_
                rotate_left
                · intro w'
                  go_simp
                  with_reducible rfl
                rotate_left
                · simp only [Act.put, List.setIfInBounds_toArray, List.set_cons_zero, List.set_cons_succ, i64_w, i32_w]
                  rfl
                refine pure_ (i := 3) (N := some 43) (v := ?_) (a' := ?_) #[true, false, true, true, false, false, false, false, false, false, false, false, false] rfl rfl (by kernel_rfl) (fun _ _ _ h => h) (Or.inl ⟨by rfl, ?_⟩) ?_ ?_
                rotate_left
                · intro w'
                  go_simp
                  with_reducible rfl
                rotate_left
                · simp only [Act.put, List.setIfInBounds_toArray, List.set_cons_zero, List.set_cons_succ, i64_w, i32_w]
                  rfl
                refine pure_ (i := 4) (N := some 44) (v := ?_) (a' := ?_) #[true, false, true, true, true, false, false, false, false, false, false, false, false] rfl rfl (by kernel_rfl) (fun _ _ _ h => h) (Or.inl ⟨by rfl, ?_⟩) ?_ ?_
                rotate_left
                · intro w'
                  go_simp
                  with_reducible rfl
                rotate_left
                · simp only [Act.put, List.setIfInBounds_toArray, List.set_cons_zero, List.set_cons_succ, i64_w, i32_w]
                  rfl
                refine pure_ (i := 5) (N := some 45) (v := ?_) (a' := ?_) #[true, false, true, true, true, true, false, false, false, false, false, false, false] rfl rfl (by kernel_rfl) (fun _ _ _ h => h) (Or.inl ⟨by rfl, ?_⟩) ?_ ?_
                rotate_left
                · intro w'
                  go_simp
                  with_reducible rfl
                rotate_left
                · simp only [Act.put, List.setIfInBounds_toArray, List.set_cons_zero, List.set_cons_succ, i64_w, i32_w]
                  rfl
                refine take_ (i := 6) (N := some 46) (v := ?_) (a' := ?_) #[true, false, true, true, true, true, true, false, false, false, false, false, false] rfl rfl (by kernel_rfl) (fun _ _ _ h => h) (Or.inl ⟨by rfl, ?_⟩) hHeld ?_ ?_
                rotate_left
                · intro w' s0
                  go_simp
                  with_reducible rfl
                rotate_left
                · simp only [Act.put, List.setIfInBounds_toArray, List.set_cons_zero, List.set_cons_succ, i64_w, i32_w]
                  rfl
                refine one_ (i := 1) (N := some 41) #[true, true, true, true, true, true, true, false, false, false, false, false, false] rfl rfl (by kernel_rfl) (by decide) (fun K hK => ?_)
                refine goes_ Tryd.func51 (by kernel_rfl) rfl #[.int .u8 cl] (by rfl) rfl rfl (by simp only [List.map_toArray, List.map_cons, List.map_nil]; rfl) ?_
                with_reducible refine (read_calls cl _).mono ?_
                rintro e w3 ⟨rfl, rfl⟩
                refine ⟨_, rfl, ?_⟩
                refine hK.out _ _ ((World.cell?_alloc_lt _ _ _ HG).trans hHeld) (fun hHeld => ?_)
                clear hK K
                refine norm_ (a' := ?_) ?_ ?_
                rotate_left
                · show Act.put _ (some 41) _ = _
                  simp only [Act.put, List.setIfInBounds_toArray, List.set_cons_zero, List.set_cons_succ, i64_w, i32_w]
                  rfl
                refine one_ (i := 7) (N := some 47) #[true, true, true, true, true, true, true, true, false, false, false, false, false] rfl rfl (by kernel_rfl) (by decide) (fun K hK => ?_)
                refine call_ 66 #[.string x, .pointer (some ⟨wr.heap.size, 0, none⟩)] (by rfl) rfl (by go_simp) ?_
                with_reducible refine (read1_yes x _ cl v _ hxs hclo hv).mono ?_
                rintro e w3 ⟨rfl, hb3⟩
                refine ⟨_, rfl, ?_⟩
                refine hK.out _ _ ((hb3.cell HG3).trans hHeld) (fun hHeld => ?_)
                clear hK K
                refine norm_ (a' := ?_) ?_ ?_
                rotate_left
                · show Act.put _ (some 47) _ = _
                  simp only [Act.put, List.setIfInBounds_toArray, List.set_cons_zero, List.set_cons_succ, i64_w, i32_w]
                  rfl
                refine pure_ (i := 8) (N := some 39) (v := ?_) (a' := ?_) #[true, true, true, true, true, true, true, true, true, false, false, false, false] rfl rfl (by kernel_rfl) (fun _ _ _ h => h) (Or.inl ⟨by rfl, ?_⟩) ?_ ?_
                rotate_left
                · intro w'
                  go_simp
                  with_reducible rfl
                rotate_left
                · simp only [Act.put, List.setIfInBounds_toArray, List.set_cons_zero, List.set_cons_succ, i64_w, i32_w]
                  rfl
                refine pure_ (i := 9) (N := some 48) (v := ?_) (a' := ?_) #[true, true, true, true, true, true, true, true, true, true, false, false, false] rfl rfl (by kernel_rfl) (fun _ _ _ h => h) (Or.inl ⟨by rfl, ?_⟩) ?_ ?_
                rotate_left
                · intro w'
                  go_simp
                  with_reducible rfl
                rotate_left
                · simp only [Act.put, List.setIfInBounds_toArray, List.set_cons_zero, List.set_cons_succ, i64_w, i32_w]
                  rfl
                refine pure_ (i := 10) (N := some 49) (v := ?_) (a' := ?_) #[true, true, true, true, true, true, true, true, true, true, true, false, false] rfl rfl (by kernel_rfl) (fun _ _ _ h => h) (Or.inl ⟨by rfl, ?_⟩) ?_ ?_
                rotate_left
                · intro w'
                  go_simp
                  with_reducible rfl
                rotate_left
                · simp only [Act.put, List.setIfInBounds_toArray, List.set_cons_zero, List.set_cons_succ, i64_w, i32_w]
                  rfl
                refine pure_ (i := 11) (N := some 9) (v := ?_) (a' := ?_) #[true, true, true, true, true, true, true, true, true, true, true, true, false] rfl rfl (by kernel_rfl) (fun _ _ _ h => h) (Or.inl ⟨by rfl, ?_⟩) ?_ ?_
                rotate_left
                · intro w'
                  go_simp
                  with_reducible rfl
                rotate_left
                · simp only [Act.put, List.setIfInBounds_toArray, List.set_cons_zero, List.set_cons_succ, i64_w, i32_w]
                  rfl
                refine pure_ (i := 12) (N := some 10) (v := ?_) (a' := ?_) #[true, true, true, true, true, true, true, true, true, true, true, true, true] rfl rfl (by kernel_rfl) (fun _ _ _ h => h) (Or.inl ⟨by rfl, ?_⟩) ?_ ?_
                rotate_left
                · intro w'
                  go_simp
                  with_reducible rfl
                rotate_left
                · simp only [Act.put, List.setIfInBounds_toArray, List.set_cons_zero, List.set_cons_succ, i64_w, i32_w]
                  rfl
                refine done_ (by kernel_rfl) ?_
                -- END r12yes
                have HJ4 : Aside0 (JInv w wq.heap.size w2.heap.size g ws cs cur w3) := ⟨HJ.out.step (below_next hb3)⟩
                have hfl4 := HJ4.out.fields sc
                rw [HCle.out] at hfl4
                have hfr4 : w3.frozen? ⟨wq.heap.size, fo2 cl, none⟩ = false := blk_frozen HJ4.out.blk _
                clear hfl hfr hclo
                go_wp2_with (go_at_call 44; refine (asm_operand.calls _ _ _).mono ?_; rintro e w' ⟨rfl, rfl⟩)
                go_roundw
                case rel => exact ⟨k + 1, setF cur sc v, hlt2, congrArg _ (num_next k _ hlt2 (Nat.le_trans hcs3 (by decide))), ⟨HP.out.step hj01.1 hj01.2 sc v x HSC.out HX.out (by rw [HCle.out]; exact hv)⟩, ⟨by rw [← HCle.out]; exact HJ4.out.put HE.out sc v HCL.out⟩⟩
                case measure => exact meas_next k _ hlt2 (Nat.le_trans hcs3 (by decide))
              · have hv : ∀ v, Lib.atoiAll (opText cl x.data.toList) ≠ .ok v := fun v h => hv ⟨v, h⟩
                go_wp2
                obtain ⟨hk1, hk2, hk3, hk4⟩ := next_idx k ws.length hko hN
                -- BEGIN r12no
                refine start_ (n := 13) (S := fun w' => w'.cell? ⟨g, k + 1, none⟩ = some (.string x)) (ds := []) #[false, false, false, false, false, false, false, false, false, false, false, false, false] (by kernel_rfl) rfl rfl (cw) (fun hHeld => ?_)
                refine pure_ (i := 0) (N := some 40) (v := ?_) (a' := ?_) #[true, false, false, false, false, false, false, false, false, false, false, false, false] rfl rfl (by kernel_rfl) (fun _ _ _ h => h) (Or.inl ⟨by rfl, ?_⟩) ?_ ?_
                rotate_left
                · intro w'
                  go_simp
                  with_reducible rfl
                rotate_left
                · simp only [Act.put, List.setIfInBounds_toArray, List.set_cons_zero, List.set_cons_succ, i64_w, i32_w]
                  rfl
                refine pure_ (i := 2) (N := some 42) (v := ?_) (a' := ?_) #[true, false, true, false, false, false, false, false, false, false, false, false, false] rfl rfl (by kernel_rfl) (fun _ _ _ h => h) (Or.inl ⟨by rfl, ?_⟩) ?_ ?_
                rotate_left
                · intro w'
                  go_simp
                  with_reducible rfl
                rotate_left
                · simp only [Act.put, List.setIfInBounds_toArray, List.set_cons_zero, List.set_cons_succ, i64_w, i32_w]
                  rfl
                refine pure_ (i := 3) (N := some 43) (v := ?_) (a' := ?_) #[true, false, true, true, false, false, false, false, false, false, false, false, false] rfl rfl (by kernel_rfl) (fun _ _ _ h => h) (Or.inl ⟨by rfl, ?_⟩) ?_ ?_
                rotate_left
                · intro w'
                  go_simp
                  with_reducible rfl
                rotate_left
                · simp only [Act.put, List.setIfInBounds_toArray, List.set_cons_zero, List.set_cons_succ, i64_w, i32_w]
                  rfl
                refine pure_ (i := 4) (N := some 44) (v := ?_) (a' := ?_) #[true, false, true, true, true, false, false, false, false, false, false, false, false] rfl rfl (by kernel_rfl) (fun _ _ _ h => h) (Or.inl ⟨by rfl, ?_⟩) ?_ ?_
                rotate_left
                · intro w'
                  go_simp
                  with_reducible rfl
                rotate_left
                · simp only [Act.put, List.setIfInBounds_toArray, List.set_cons_zero, List.set_cons_succ, i64_w, i32_w]
                  rfl
                refine pure_ (i := 5) (N := some 45) (v := ?_) (a' := ?_) #[true, false, true, true, true, true, false, false, false, false, false, false, false] rfl rfl (by kernel_rfl) (fun _ _ _ h => h) (Or.inl ⟨by rfl, ?_⟩) ?_ ?_
                rotate_left
                · intro w'
                  go_simp
                  with_reducible rfl
                rotate_left
                · simp only [Act.put, List.setIfInBounds_toArray, List.set_cons_zero, List.set_cons_succ, i64_w, i32_w]
                  rfl
                refine take_ (i := 6) (N := some 46) (v := ?_) (a' := ?_) #[true, false, true, true, true, true, true, false, false, false, false, false, false] rfl rfl (by kernel_rfl) (fun _ _ _ h => h) (Or.inl ⟨by rfl, ?_⟩) hHeld ?_ ?_
                rotate_left
                · intro w' s0
                  go_simp
                  with_reducible rfl
                rotate_left
                · simp only [Act.put, List.setIfInBounds_toArray, List.set_cons_zero, List.set_cons_succ, i64_w, i32_w]
                  rfl
                refine one_ (i := 1) (N := some 41) #[true, true, true, true, true, true, true, false, false, false, false, false, false] rfl rfl (by kernel_rfl) (by decide) (fun K hK => ?_)
                refine goes_ Tryd.func51 (by kernel_rfl) rfl #[.int .u8 cl] (by rfl) rfl rfl (by simp only [List.map_toArray, List.map_cons, List.map_nil]; rfl) ?_
                with_reducible refine (read_calls cl _).mono ?_
                rintro e w3 ⟨rfl, rfl⟩
                refine ⟨_, rfl, ?_⟩
                refine hK.out _ _ ((World.cell?_alloc_lt _ _ _ HG).trans hHeld) (fun hHeld => ?_)
                clear hK K
                refine norm_ (a' := ?_) ?_ ?_
                rotate_left
                · show Act.put _ (some 41) _ = _
                  simp only [Act.put, List.setIfInBounds_toArray, List.set_cons_zero, List.set_cons_succ, i64_w, i32_w]
                  rfl
                refine one_ (i := 7) (N := some 47) #[true, true, true, true, true, true, true, true, false, false, false, false, false] rfl rfl (by kernel_rfl) (by decide) (fun K hK => ?_)
                refine call_ 66 #[.string x, .pointer (some ⟨wr.heap.size, 0, none⟩)] (by rfl) rfl (by go_simp) ?_
                with_reducible refine (read1_no x _ cl _ hxs hclo hv (HEr.out.below (below_alloc (below_drew1 (Below.refl _ _)) _))).mono ?_
                rintro e w3 ⟨n, rfl, hb3⟩
                refine ⟨_, rfl, ?_⟩
                refine hK.out _ _ ((hb3.cell HG3).trans hHeld) (fun hHeld => ?_)
                clear hK K
                refine norm_ (a' := ?_) ?_ ?_
                rotate_left
                · show Act.put _ (some 47) _ = _
                  simp only [Act.put, List.setIfInBounds_toArray, List.set_cons_zero, List.set_cons_succ, i64_w, i32_w]
                  rfl
                refine pure_ (i := 8) (N := some 39) (v := ?_) (a' := ?_) #[true, true, true, true, true, true, true, true, true, false, false, false, false] rfl rfl (by kernel_rfl) (fun _ _ _ h => h) (Or.inl ⟨by rfl, ?_⟩) ?_ ?_
                rotate_left
                · intro w'
                  go_simp
                  with_reducible rfl
                rotate_left
                · simp only [Act.put, List.setIfInBounds_toArray, List.set_cons_zero, List.set_cons_succ, i64_w, i32_w]
                  rfl
                refine pure_ (i := 9) (N := some 48) (v := ?_) (a' := ?_) #[true, true, true, true, true, true, true, true, true, true, false, false, false] rfl rfl (by kernel_rfl) (fun _ _ _ h => h) (Or.inl ⟨by rfl, ?_⟩) ?_ ?_
                rotate_left
                · intro w'
                  go_simp
                  with_reducible rfl
                rotate_left
                · simp only [Act.put, List.setIfInBounds_toArray, List.set_cons_zero, List.set_cons_succ, i64_w, i32_w]
                  rfl
                refine pure_ (i := 10) (N := some 49) (v := ?_) (a' := ?_) #[true, true, true, true, true, true, true, true, true, true, true, false, false] rfl rfl (by kernel_rfl) (fun _ _ _ h => h) (Or.inl ⟨by rfl, ?_⟩) ?_ ?_
                rotate_left
                · intro w'
                  go_simp
                  with_reducible rfl
                rotate_left
                · simp only [Act.put, List.setIfInBounds_toArray, List.set_cons_zero, List.set_cons_succ, i64_w, i32_w]
                  rfl
                refine pure_ (i := 11) (N := some 9) (v := ?_) (a' := ?_) #[true, true, true, true, true, true, true, true, true, true, true, true, false] rfl rfl (by kernel_rfl) (fun _ _ _ h => h) (Or.inl ⟨by rfl, ?_⟩) ?_ ?_
                rotate_left
                · intro w'
                  go_simp
                  with_reducible rfl
                rotate_left
                · simp only [Act.put, List.setIfInBounds_toArray, List.set_cons_zero, List.set_cons_succ, i64_w, i32_w]
                  rfl
                refine pure_ (i := 12) (N := some 10) (v := ?_) (a' := ?_) #[true, true, true, true, true, true, true, true, true, true, true, true, true] rfl rfl (by kernel_rfl) (fun _ _ _ h => h) (Or.inl ⟨by rfl, ?_⟩) ?_ ?_
                rotate_left
                · intro w'
                  go_simp
                  with_reducible rfl
                rotate_left
                · simp only [Act.put, List.setIfInBounds_toArray, List.set_cons_zero, List.set_cons_succ, i64_w, i32_w]
                  rfl
                refine done_ (by kernel_rfl) ?_
                -- END r12no
                have HJ4 : Aside0 (OInv w g ws w3) := ⟨HJ.out.outer.step (below_next hb3)⟩
                have hb := HJ4.out.blk
                have b0 := blk_cell hb 0
                have b1 := blk_cell hb 1
                have b2 := blk_cell hb 2
                have b3 := blk_cell hb 3
                have b4 := blk_cell hb 4
                have bf := fun i => blk_frozen hb i
                have HB := Aside0.mk hb
                clear hb
                go_wp2
                refine bodyPost_ret (results_ct rfl _ _ w.heap.size 48 #[.int .u8 0, .int .i64 0, .int .i64 0, .int .i64 0, .int .i64 0] (0, 0) _ rfl (zero_blk HB.out) Tryd.underlying48 rfl (by kernel_rfl)) rfl ?_
                refine ⟨⟨0, 0, 0, 0, 0⟩, false, rfl, ⟨(fun h => nomatch h), fun _ i' hd => ?_⟩, ?_⟩
                · obtain ⟨a, b, c, d⟩ := dec_op hd HX0.out
                  have ho := mnem_inj i'.f0 (j : Int) b c hj01.1 hj01.2 a
                  refine hv (xF i' sc) ?_
                  rw [← HCle.out]
                  exact dec_word hd k sc (by rw [ho]; exact HSC.out) x HX.out
                · exact zero_below HJ4.out.below
            · have hk4 : k = cs.size := Nat.le_antisymm hk (Nat.not_lt.1 hlt2)
              subst hk4
              have HP5 : Aside0 (Part ws (j : Int) (shapeI (j : Int)).length cur) := ⟨by have := HP.out; rw [HCsl.out] at this; exact this⟩
              have hop0 : 0 ≤ cur.f0 := by rw [HP.out.same]; exact hj01.1
              have hop1 : cur.f0 < 30 := by rw [HP.out.same]; exact hj01.2
              have q0 := blk_cell HJ.out.blk 0
              have q1 := blk_cell HJ.out.blk 1
              have q2 := blk_cell HJ.out.blk 2
              have q3 := blk_cell HJ.out.blk 3
              have q4 := blk_cell HJ.out.blk 4
              have HEr := Aside0.mk HJ.out.outer.env
              have HG1 : wq.heap.size < wr.drew.heap.size := blk_lt HJ.out.blk
              have HJn := HJj
              by_cases hv : validB cur = true
              · have HV := Lib.hid hv
                have HVc : ∀ w, Calls Tryd.prog 29 #[.agg #[.int .u8 cur.f0, .int .i64 cur.f1, .int .i64 cur.f2, .int .i64 cur.f3, .int .i64 cur.f4]] w fun e w' => e = .returned (.bool true) ∧ Below w.heap.size w w' := fun w => by
                  have := isa_Valid_yes cur w hop0 hop1
                  rw [hv] at this
                  exact this
                clear hv
                go_wp2
                -- BEGIN r17yes
                refine start_ (n := 12) (S := fun w' => w'.cell? ⟨wq.heap.size, 0, none⟩ = some (.int .u8 cur.f0) ∧ w'.cell? ⟨wq.heap.size, 1, none⟩ = some (.int .i64 cur.f1) ∧ w'.cell? ⟨wq.heap.size, 2, none⟩ = some (.int .i64 cur.f2) ∧ w'.cell? ⟨wq.heap.size, 3, none⟩ = some (.int .i64 cur.f3) ∧ w'.cell? ⟨wq.heap.size, 4, none⟩ = some (.int .i64 cur.f4)) (ds := [10]) #[false, false, false, false, false, false, false, false, false, false, false, false] (by kernel_rfl) rfl rfl ⟨q0, q1, q2, q3, q4⟩ (fun hHeld => ?_)
                refine take_ (i := 0) (N := some 58) (v := ?_) (a' := ?_) #[true, false, false, false, false, false, false, false, false, false, false, false] rfl rfl (by kernel_rfl) (fun _ _ _ h => h) (Or.inl ⟨by rfl, ?_⟩) hHeld ?_ ?_
                rotate_left
                · rintro w' ⟨s0, s1, s2, s3, s4⟩
                  go_simp
                  with_reducible rfl
                rotate_left
                · simp only [Act.put, List.setIfInBounds_toArray, List.set_cons_zero, List.set_cons_succ, i64_w, i32_w]
                  rfl
                refine take_ (i := 1) (N := some 59) (v := ?_) (a' := ?_) #[true, true, false, false, false, false, false, false, false, false, false, false] rfl rfl (by kernel_rfl) (fun _ _ _ h => h) (Or.inl ⟨by rfl, ?_⟩) hHeld ?_ ?_
                rotate_left
                · rintro w' ⟨s0, s1, s2, s3, s4⟩
                  go_simp
                  with_reducible rfl
                rotate_left
                · simp only [Act.put, List.setIfInBounds_toArray, List.set_cons_zero, List.set_cons_succ, i64_w, i32_w]
                  rfl
                refine one_ (i := 2) (N := some 60) #[true, true, true, false, false, false, false, false, false, false, false, false] rfl rfl (by kernel_rfl) (by decide) (fun K hK => ?_)
                refine goes_ Tryd.func29 (by kernel_rfl) rfl #[.agg #[.int .u8 cur.f0, .int .i64 cur.f1, .int .i64 cur.f2, .int .i64 cur.f3, .int .i64 cur.f4]] (by rfl) rfl rfl (by simp only [List.map_toArray, List.map_cons, List.map_nil]; rfl) ?_
                with_reducible refine (HVc _).mono ?_
                rintro e w3 ⟨rfl, hb3⟩
                refine ⟨_, rfl, ?_⟩
                refine hK.out _ _ ⟨(hb3.cell HG1).trans hHeld.1, (hb3.cell HG1).trans hHeld.2.1, (hb3.cell HG1).trans hHeld.2.2.1, (hb3.cell HG1).trans hHeld.2.2.2.1, (hb3.cell HG1).trans hHeld.2.2.2.2⟩ (fun hHeld => ?_)
                clear hK K
                refine norm_ (a' := ?_) ?_ ?_
                rotate_left
                · show Act.put _ (some 60) _ = _
                  simp only [Act.put, List.setIfInBounds_toArray, List.set_cons_zero, List.set_cons_succ, i64_w, i32_w]
                  rfl
                refine pure_ (i := 3) (N := some 61) (v := ?_) (a' := ?_) #[true, true, true, true, false, false, false, false, false, false, false, false] rfl rfl (by kernel_rfl) (fun _ _ _ h => h) (Or.inl ⟨by rfl, ?_⟩) ?_ ?_
                rotate_left
                · intro w'
                  go_simp
                  with_reducible rfl
                rotate_left
                · simp only [Act.put, List.setIfInBounds_toArray, List.set_cons_zero, List.set_cons_succ, i64_w, i32_w]
                  rfl
                refine pure_ (i := 6) (N := some 64) (v := ?_) (a' := ?_) #[true, true, true, true, false, false, true, false, false, false, false, false] rfl rfl (by kernel_rfl) (fun _ _ _ h => h) (Or.inl ⟨by rfl, ?_⟩) ?_ ?_
                rotate_left
                · intro w'
                  go_simp
                  with_reducible rfl
                rotate_left
                · simp only [Act.put, List.setIfInBounds_toArray, List.set_cons_zero, List.set_cons_succ, i64_w, i32_w]
                  rfl
                refine take_ (i := 4) (N := some 62) (v := ?_) (a' := ?_) #[true, true, true, true, true, false, true, false, false, false, false, false] rfl rfl (by kernel_rfl) (fun _ _ _ h => h) (Or.inl ⟨by rfl, ?_⟩) hHeld ?_ ?_
                rotate_left
                · rintro w' ⟨s0, s1, s2, s3, s4⟩
                  go_simp
                  with_reducible rfl
                rotate_left
                · simp only [Act.put, List.setIfInBounds_toArray, List.set_cons_zero, List.set_cons_succ, i64_w, i32_w]
                  rfl
                refine one_ (i := 5) (N := some 63) #[true, true, true, true, true, true, true, false, false, false, false, false] rfl rfl (by kernel_rfl) (by decide) (fun K hK => ?_)
                have HG2 := Nat.lt_of_lt_of_le HG1 hb3.size
                refine goes_ Tryd.func26 (by kernel_rfl) rfl #[.agg #[.int .u8 cur.f0, .int .i64 cur.f1, .int .i64 cur.f2, .int .i64 cur.f3, .int .i64 cur.f4]] (by rfl) rfl rfl (by simp only [List.map_toArray, List.map_cons, List.map_nil]; rfl) ?_
                with_reducible refine (line_calls cur _ hop0 HV.out ((HEr.out.below (below_drew1 (Below.refl _ _))).below hb3)).mono ?_
                rintro e w4 ⟨rfl, hb4⟩
                refine ⟨_, rfl, ?_⟩
                refine hK.out _ _ ⟨(hb4.cell HG2).trans hHeld.1, (hb4.cell HG2).trans hHeld.2.1, (hb4.cell HG2).trans hHeld.2.2.1, (hb4.cell HG2).trans hHeld.2.2.2.1, (hb4.cell HG2).trans hHeld.2.2.2.2⟩ (fun hHeld => ?_)
                clear hK K
                refine norm_ (a' := ?_) ?_ ?_
                rotate_left
                · show Act.put _ (some 63) _ = _
                  simp only [Act.put, List.setIfInBounds_toArray, List.set_cons_zero, List.set_cons_succ, i64_w, i32_w]
                  rfl
                refine one_ (i := 7) (N := some 65) #[true, true, true, true, true, true, true, true, false, false, false, false] rfl rfl (by kernel_rfl) (by decide) (fun K hK => ?_)
                have HG4 := Nat.lt_of_lt_of_le HG2 hb4.size
                have HW4 : Aside0 (OInv w g ws w4) := ⟨((HJ.out.outer.step (below_drew1 (Below.refl _ _))).step hb3).step hb4⟩
                refine goes_ Tryd.func52 (by kernel_rfl) rfl #[.slice (some ⟨g, 0, none⟩) ws.length c, .string ⟨#[32]⟩] (by rfl) rfl rfl (by simp only [List.map_toArray, List.map_cons, List.map_nil]; rfl) ?_
                with_reducible refine (join_calls g c ws _ HW4.out.words HW4.out.lt hN hcap HJn.out).mono ?_
                rintro e w5 ⟨rfl, hb5⟩
                refine ⟨_, rfl, ?_⟩
                refine hK.out _ _ ⟨(hb5.cell HG4).trans hHeld.1, (hb5.cell HG4).trans hHeld.2.1, (hb5.cell HG4).trans hHeld.2.2.1, (hb5.cell HG4).trans hHeld.2.2.2.1, (hb5.cell HG4).trans hHeld.2.2.2.2⟩ (fun hHeld => ?_)
                clear hK K
                refine norm_ (a' := ?_) ?_ ?_
                rotate_left
                · show Act.put _ (some 65) _ = _
                  simp only [Act.put, List.setIfInBounds_toArray, List.set_cons_zero, List.set_cons_succ, i64_w, i32_w]
                  rfl
                refine pure_ (i := 8) (N := some 66) (v := ?_) (a' := ?_) #[true, true, true, true, true, true, true, true, true, false, false, false] rfl rfl (by kernel_rfl) (fun _ _ _ h => h) (Or.inl ⟨by rfl, ?_⟩) ?_ ?_
                rotate_left
                · intro w'
                  go_simp
                  with_reducible rfl
                rotate_left
                · simp only [Act.put, List.setIfInBounds_toArray, List.set_cons_zero, List.set_cons_succ, i64_w, i32_w]
                  rfl
                refine pure_ (i := 9) (N := some 67) (v := ?_) (a' := ?_) #[true, true, true, true, true, true, true, true, true, true, false, false] rfl rfl (by kernel_rfl) (fun _ _ _ h => h) (Or.inl ⟨by rfl, ?_⟩) ?_ ?_
                rotate_left
                · intro w'
                  go_simp
                  with_reducible rfl
                rotate_left
                · simp only [Act.put, List.setIfInBounds_toArray, List.set_cons_zero, List.set_cons_succ, i64_w, i32_w]
                  rfl
                refine last_ (i := 10) (N := none) #[true, true, true, true, true, true, true, true, true, true, true, false] rfl rfl (by kernel_rfl) (by decide) (fun K hK => ?_)
                have HJ3 : Aside0 (OInv w g ws w5) := ⟨HW4.out.step hb5⟩
                have hbR := HJ3.out.blk
                have r0 := blk_cell hbR 0
                have r1 := blk_cell hbR 1
                have r2 := blk_cell hbR 2
                have r3 := blk_cell hbR 3
                have r4 := blk_cell hbR 4
                have rf := fun i => blk_frozen hbR i
                have HBR := Aside0.mk hbR
                clear hbR
                refine skip_ (w1 := ?_) (by rfl) rfl ?_ ?_
                rotate_left
                · go_simp
                  rfl
                refine hK.out _ _ ?_
                clear hK K
                refine pure_ (i := 11) (N := some 3) (v := ?_) (a' := ?_) #[true, true, true, true, true, true, true, true, true, true, true, true] rfl rfl (by kernel_rfl) (fun _ _ _ h => h) (Or.inl ⟨by rfl, ?_⟩) ?_ ?_
                rotate_left
                · intro w'
                  go_simp
                  with_reducible rfl
                rotate_left
                · simp only [Act.put, List.setIfInBounds_toArray, List.set_cons_zero, List.set_cons_succ, i64_w, i32_w]
                  rfl
                refine done_ (by kernel_rfl) ?_
                -- END r17yes
                go_wp2
                refine bodyPost_ret (results_ct rfl _ _ w.heap.size 48 #[.int .u8 cur.f0, .int .i64 cur.f1, .int .i64 cur.f2, .int .i64 cur.f3, .int .i64 cur.f4] (0, 0) _ rfl (five_blk HBR.out _ _ _ _ _) Tryd.underlying48 rfl (by kernel_rfl)) rfl ?_
                refine ⟨cur, _, rfl, dec_end HP5.out hj01.1 hj01.2 HX0.out rfl HSp.out _ ?_, five_below HJ3.out.below _ _ _ _ _⟩
                rw [HV.out]
                exact str_eq_dec _ _
              · have hv0 : validB cur = false := by simpa using hv
                have HVc : ∀ w, Calls Tryd.prog 29 #[.agg #[.int .u8 cur.f0, .int .i64 cur.f1, .int .i64 cur.f2, .int .i64 cur.f3, .int .i64 cur.f4]] w fun e w' => e = .returned (.bool false) ∧ Below w.heap.size w w' := fun w => by
                  have := isa_Valid_yes cur w hop0 hop1
                  rw [hv0] at this
                  exact this
                have HV := Lib.hid hv0
                clear hv hv0
                go_wp2
                -- BEGIN r17no
                refine start_ (n := 12) (S := fun w' => w'.cell? ⟨wq.heap.size, 0, none⟩ = some (.int .u8 cur.f0) ∧ w'.cell? ⟨wq.heap.size, 1, none⟩ = some (.int .i64 cur.f1) ∧ w'.cell? ⟨wq.heap.size, 2, none⟩ = some (.int .i64 cur.f2) ∧ w'.cell? ⟨wq.heap.size, 3, none⟩ = some (.int .i64 cur.f3) ∧ w'.cell? ⟨wq.heap.size, 4, none⟩ = some (.int .i64 cur.f4)) (ds := [10]) #[false, false, false, false, false, false, false, false, false, false, false, false] (by kernel_rfl) rfl rfl ⟨q0, q1, q2, q3, q4⟩ (fun hHeld => ?_)
                refine take_ (i := 0) (N := some 58) (v := ?_) (a' := ?_) #[true, false, false, false, false, false, false, false, false, false, false, false] rfl rfl (by kernel_rfl) (fun _ _ _ h => h) (Or.inl ⟨by rfl, ?_⟩) hHeld ?_ ?_
                rotate_left
                · rintro w' ⟨s0, s1, s2, s3, s4⟩
                  go_simp
                  with_reducible rfl
                rotate_left
                · simp only [Act.put, List.setIfInBounds_toArray, List.set_cons_zero, List.set_cons_succ, i64_w, i32_w]
                  rfl
                refine take_ (i := 1) (N := some 59) (v := ?_) (a' := ?_) #[true, true, false, false, false, false, false, false, false, false, false, false] rfl rfl (by kernel_rfl) (fun _ _ _ h => h) (Or.inl ⟨by rfl, ?_⟩) hHeld ?_ ?_
                rotate_left
                · rintro w' ⟨s0, s1, s2, s3, s4⟩
                  go_simp
                  with_reducible rfl
                rotate_left
                · simp only [Act.put, List.setIfInBounds_toArray, List.set_cons_zero, List.set_cons_succ, i64_w, i32_w]
                  rfl
                refine one_ (i := 2) (N := some 60) #[true, true, true, false, false, false, false, false, false, false, false, false] rfl rfl (by kernel_rfl) (by decide) (fun K hK => ?_)
                refine goes_ Tryd.func29 (by kernel_rfl) rfl #[.agg #[.int .u8 cur.f0, .int .i64 cur.f1, .int .i64 cur.f2, .int .i64 cur.f3, .int .i64 cur.f4]] (by rfl) rfl rfl (by simp only [List.map_toArray, List.map_cons, List.map_nil]; rfl) ?_
                with_reducible refine (HVc _).mono ?_
                rintro e w3 ⟨rfl, hb3⟩
                refine ⟨_, rfl, ?_⟩
                refine hK.out _ _ ⟨(hb3.cell HG1).trans hHeld.1, (hb3.cell HG1).trans hHeld.2.1, (hb3.cell HG1).trans hHeld.2.2.1, (hb3.cell HG1).trans hHeld.2.2.2.1, (hb3.cell HG1).trans hHeld.2.2.2.2⟩ (fun hHeld => ?_)
                clear hK K
                refine norm_ (a' := ?_) ?_ ?_
                rotate_left
                · show Act.put _ (some 60) _ = _
                  simp only [Act.put, List.setIfInBounds_toArray, List.set_cons_zero, List.set_cons_succ, i64_w, i32_w]
                  rfl
                refine pure_ (i := 3) (N := some 61) (v := ?_) (a' := ?_) #[true, true, true, true, false, false, false, false, false, false, false, false] rfl rfl (by kernel_rfl) (fun _ _ _ h => h) (Or.inl ⟨by rfl, ?_⟩) ?_ ?_
                rotate_left
                · intro w'
                  go_simp
                  with_reducible rfl
                rotate_left
                · simp only [Act.put, List.setIfInBounds_toArray, List.set_cons_zero, List.set_cons_succ, i64_w, i32_w]
                  rfl
                refine pure_ (i := 4) (N := some 62) (v := undef) (a' := ?_) #[true, true, true, true, true, false, false, false, false, false, false, false] rfl rfl (by kernel_rfl) (fun _ _ _ h => h) (Or.inr ⟨by rfl, rfl⟩) ?_ ?_
                rotate_left
                · simp only [Act.put, List.setIfInBounds_toArray, List.set_cons_zero, List.set_cons_succ, i64_w, i32_w]
                  rfl
                refine pure_ (i := 5) (N := some 63) (v := undef) (a' := ?_) #[true, true, true, true, true, true, false, false, false, false, false, false] rfl rfl (by kernel_rfl) (fun _ _ _ h => h) (Or.inr ⟨by rfl, rfl⟩) ?_ ?_
                rotate_left
                · simp only [Act.put, List.setIfInBounds_toArray, List.set_cons_zero, List.set_cons_succ, i64_w, i32_w]
                  rfl
                refine pure_ (i := 6) (N := some 64) (v := undef) (a' := ?_) #[true, true, true, true, true, true, true, false, false, false, false, false] rfl rfl (by kernel_rfl) (fun _ _ _ h => h) (Or.inr ⟨by rfl, rfl⟩) ?_ ?_
                rotate_left
                · simp only [Act.put, List.setIfInBounds_toArray, List.set_cons_zero, List.set_cons_succ, i64_w, i32_w]
                  rfl
                refine pure_ (i := 7) (N := some 65) (v := undef) (a' := ?_) #[true, true, true, true, true, true, true, true, false, false, false, false] rfl rfl (by kernel_rfl) (fun _ _ _ h => h) (Or.inr ⟨by rfl, rfl⟩) ?_ ?_
                rotate_left
                · simp only [Act.put, List.setIfInBounds_toArray, List.set_cons_zero, List.set_cons_succ, i64_w, i32_w]
                  rfl
                refine pure_ (i := 8) (N := some 66) (v := undef) (a' := ?_) #[true, true, true, true, true, true, true, true, true, false, false, false] rfl rfl (by kernel_rfl) (fun _ _ _ h => h) (Or.inr ⟨by rfl, rfl⟩) ?_ ?_
                rotate_left
                · simp only [Act.put, List.setIfInBounds_toArray, List.set_cons_zero, List.set_cons_succ, i64_w, i32_w]
                  rfl
                refine pure_ (i := 9) (N := some 67) (v := ?_) (a' := ?_) #[true, true, true, true, true, true, true, true, true, true, false, false] rfl rfl (by kernel_rfl) (fun _ _ _ h => h) (Or.inl ⟨by rfl, ?_⟩) ?_ ?_
                rotate_left
                · intro w'
                  go_simp
                  with_reducible rfl
                rotate_left
                · simp only [Act.put, List.setIfInBounds_toArray, List.set_cons_zero, List.set_cons_succ, i64_w, i32_w]
                  rfl
                refine last_ (i := 10) (N := none) #[true, true, true, true, true, true, true, true, true, true, true, false] rfl rfl (by kernel_rfl) (by decide) (fun K hK => ?_)
                have HJ3 : Aside0 (OInv w g ws w3) := ⟨(HJ.out.outer.step (below_drew1 (Below.refl _ _))).step hb3⟩
                have hbR := HJ3.out.blk
                have r0 := blk_cell hbR 0
                have r1 := blk_cell hbR 1
                have r2 := blk_cell hbR 2
                have r3 := blk_cell hbR 3
                have r4 := blk_cell hbR 4
                have rf := fun i => blk_frozen hbR i
                have HBR := Aside0.mk hbR
                clear hbR
                refine skip_ (w1 := ?_) (by rfl) rfl ?_ ?_
                rotate_left
                · go_simp
                  rfl
                refine hK.out _ _ ?_
                clear hK K
                refine pure_ (i := 11) (N := some 3) (v := ?_) (a' := ?_) #[true, true, true, true, true, true, true, true, true, true, true, true] rfl rfl (by kernel_rfl) (fun _ _ _ h => h) (Or.inl ⟨by rfl, ?_⟩) ?_ ?_
                rotate_left
                · intro w'
                  go_simp
                  with_reducible rfl
                rotate_left
                · simp only [Act.put, List.setIfInBounds_toArray, List.set_cons_zero, List.set_cons_succ, i64_w, i32_w]
                  rfl
                refine done_ (by kernel_rfl) ?_
                -- END r17no
                go_wp2
                refine bodyPost_ret (results_ct rfl _ _ w.heap.size 48 #[.int .u8 cur.f0, .int .i64 cur.f1, .int .i64 cur.f2, .int .i64 cur.f3, .int .i64 cur.f4] (0, 0) _ rfl (five_blk HBR.out _ _ _ _ _) Tryd.underlying48 rfl (by kernel_rfl)) rfl ?_
                refine ⟨cur, _, rfl, dec_end HP5.out hj01.1 hj01.2 HX0.out rfl HSp.out _ ?_, five_below HJ3.out.below _ _ _ _ _⟩
                rw [HV.out]
                rfl
        · go_wp2_with (go_at_call 42; refine (asm_classes.calls 10 (j : Int) _ _ HC1.out).mono ?_; rintro e w2 ⟨rfl, hd2⟩; have HO3 : Aside0 (OInv w g ws w2) := ⟨HO2.out.step (by obtain ⟨n, rfl⟩ := hd2.out; exact pw_below_drewN (below_alloc (Below.refl _ _) _) n)⟩; have hb := HO3.out.blk; have b0 := blk_cell hb 0; have b1 := blk_cell hb 1; have b2 := blk_cell hb 2; have b3 := blk_cell hb 3; have b4 := blk_cell hb 4; have bf := (fun i => blk_frozen hb i); have HB := Aside0.mk hb; clear hb)
          refine bodyPost_ret (results_ct rfl _ _ w.heap.size 48 #[.int .u8 0, .int .i64 0, .int .i64 0, .int .i64 0, .int .i64 0] (0, 0) _ rfl (zero_blk HB.out) Tryd.underlying48 rfl (by kernel_rfl)) rfl ?_
          refine ⟨⟨0, 0, 0, 0, 0⟩, false, rfl, ⟨(fun h => nomatch h), fun _ i' hd => ?_⟩, ?_⟩
          · obtain ⟨a, b, c, d⟩ := dec_op hd HX0.out
            have ho := mnem_inj i'.f0 (j : Int) b c hj01.1 hj01.2 a
            rw [ho] at d
            have := HCsl.out
            omega
          · exact zero_below HO3.out.below
      · have hne : ((rowOf (j : Int)).f0.toList == x0.toList) = false := toList_ne he
        go_wp2
        refine wp_region_quiet_below (by kernel_rfl) (by kernel_rfl) ?_
        have k0 := cell_regrown cw
        have cQ := fun d os w => Calls.regrown_of (d := d) (os := os) (w := w) (isa_Mnemonic.calls 20 (j : Int) _ (grow (redrawn w d) os) HMn.out)
        repeat (quiet_step (exact cQ _ _ _))
        refine wpQuiet_nil ?_
        intro _ hw'
        obtain ⟨⟨dq, osq⟩, hw''⟩ := hw'
        subst hw''
        have HO2 := Aside0.mk (HO.out.step (below_regrown _ dq osq))
        go_wp2
        go_roundw
        case rel =>
          refine ⟨j + 1, by omega, by go_num, ⟨fun q hq => ?_⟩, HO2⟩
          by_cases e : q = j
          · subst e
            exact fun h => he (ByteArray.ext (Array.toList_inj.1 h))
          · exact HM.out q (by omega)
        case measure => simp [intOf]; omega
    · have hj4 : j = 30 := by omega
      subst hj4
      have hb := HO.out.blk
      have b0 := blk_cell hb 0
      have b1 := blk_cell hb 1
      have b2 := blk_cell hb 2
      have b3 := blk_cell hb 3
      have b4 := blk_cell hb 4
      have bf := fun i => blk_frozen hb i
      have HB := Aside0.mk hb
      clear hb
      go_wp2
      refine bodyPost_ret (results_ct rfl _ _ w.heap.size 48 #[.int .u8 0, .int .i64 0, .int .i64 0, .int .i64 0, .int .i64 0] (0, 0) _ rfl (zero_blk HB.out) Tryd.underlying48 rfl (by kernel_rfl)) rfl ?_
      refine ⟨⟨0, 0, 0, 0, 0⟩, false, rfl, ⟨(fun h => nomatch h), fun _ i' hd => ?_⟩, ?_⟩
      · obtain ⟨a, b, c, d⟩ := dec_op hd HX0.out
        refine HM.out i'.f0.toNat (by omega) ?_
        rw [show ((i'.f0.toNat : Nat) : Int) = i'.f0 by omega]
        exact a
      · exact zero_below HO.out.below
end Go.Proofs.YtmgafakahbanaaaDoor.Pa

namespace Go.Proofs.YtmgafakahbanaaaDoor.Pa
open Go.RowKit
set_option linter.unusedVariables false
set_option linter.unusedSimpArgs false

/-! ### the instruction of a line's words -/
def opVal (c : Int) (w : List UInt8) : Int := match Lib.atoiAll (opText (c - 32) w) with | .ok v => v | _ => 0
def mkI (op : Int) (os : List (List UInt8)) : S48 := ((shapeI op).zip os).foldl (fun i p => setF i p.1 (opVal p.1 p.2)) ⟨op, 0, 0, 0, 0⟩
def decTry (ws : List (List UInt8)) (op : Nat) : Option S48 := if validB (mkI op ws.tail) = true ∧ 0 ≤ (mkI op ws.tail).f0 ∧ ws = mnem (mkI op ws.tail).f0 :: opWords (mkI op ws.tail) then some (mkI op ws.tail) else none
def decO (ws : List (List UInt8)) : Option S48 := (List.range 30).findSome? (decTry ws)

theorem setF_f0 (i : S48) (c v : Int) : (setF i c v).f0 = i.f0 := rfl
theorem mk_fold (i : S48) (h0 : 0 ≤ i.f0) (hv : validB i = true) : ∀ (cs : List Int) (acc : S48), (∀ c ∈ cs, c = 97 ∨ c = 98 ∨ c = 99 ∨ c = 105) →
    ((cs.zip (cs.map (opWord i))).foldl (fun i p => setF i p.1 (opVal p.1 p.2)) acc).f0 = acc.f0 ∧
    ∀ d, (d = 97 ∨ d = 98 ∨ d = 99 ∨ d = 105) → xF ((cs.zip (cs.map (opWord i))).foldl (fun i p => setF i p.1 (opVal p.1 p.2)) acc) d = if d ∈ cs then xF i d else xF acc d := by
  intro cs
  induction cs with
  | nil => intro acc _; simp
  | cons c cs ih =>
    intro acc hc
    have hcc := hc c List.mem_cons_self
    have hb := valid_bound i h0 hv c
    have hov : opVal c (opWord i c) = xF i c := by
      unfold opVal
      rw [opText_word i c hcc hb.1 hb.2]
    obtain ⟨e1, e2⟩ := ih (setF acc c (xF i c)) (fun d hd => hc d (List.mem_cons_of_mem _ hd))
    simp only [List.map_cons, List.zip_cons_cons, List.foldl_cons, hov]
    refine ⟨by rw [e1, setF_f0], fun d hd => ?_⟩
    rw [e2 d hd]
    by_cases h1 : d ∈ cs
    · rw [if_pos h1, if_pos (List.mem_cons_of_mem _ h1)]
    · rw [if_neg h1]
      by_cases h2 : d = c
      · subst h2
        rw [if_pos List.mem_cons_self, setF_same _ _ _ hd]
      · rw [if_neg (by simp [h1, h2]), setF_far _ _ _ _ hcc hd (fun e => h2 e.symm)]
theorem mkI_self (i : S48) (h0 : 0 ≤ i.f0) (hv : validB i = true) : mkI i.f0 (opWords i) = i := by
  have h1 := (valid_parts i hv).1
  have hcs := (cls_facts i.f0 h0 h1).2.2.2.2.1
  obtain ⟨e1, e2⟩ := mk_fold i h0 hv (shapeI i.f0) ⟨i.f0, 0, 0, 0, 0⟩ hcs
  refine xF_ext _ _ e1 (fun c hc => ?_)
  refine (e2 c hc).trans ?_
  by_cases hm : c ∈ shapeI i.f0
  · rw [if_pos hm]
  · rw [if_neg hm]
    obtain ⟨_, a, b, d, e⟩ := valid_parts i hv
    rcases hc with rfl | rfl | rfl | rfl
    · exact (okF_absent _ 97 _ hm a).symm
    · exact (okF_absent _ 98 _ hm b).symm
    · exact (okF_absent _ 99 _ hm d).symm
    · exact (okF_absent _ 105 _ hm e).symm
theorem decTry_some {ws : List (List UInt8)} {op : Nat} {i : S48} (h : decTry ws op = some i) : Dec ws i := by
  unfold decTry at h
  split at h
  · rename_i hc
    obtain rfl := Option.some.inj h
    exact ⟨hc.2.1, hc.1, hc.2.2⟩
  · cases h
theorem dec_unique {ws : List (List UInt8)} {i j : S48} (hi : Dec ws i) (hj : Dec ws j) : i = j := by
  obtain ⟨a1, a2, a3⟩ := hi
  obtain ⟨b1, b2, b3⟩ := hj
  have e := a3.symm.trans b3
  simp only [List.cons.injEq] at e
  have ho := mnem_inj _ _ a1 (valid_parts i a2).1 b1 (valid_parts j b2).1 e.1
  have m1 := mkI_self i a1 a2
  have m2 := mkI_self j b1 b2
  rw [ho, e.2] at m1
  exact m1.symm.trans m2
theorem decO_some {ws : List (List UInt8)} {i : S48} : decO ws = some i ↔ Dec ws i := by
  constructor
  · intro h
    obtain ⟨op, _, h⟩ := List.exists_of_findSome?_eq_some h
    exact decTry_some h
  · intro h
    have h' := h
    obtain ⟨a1, a2, a3⟩ := h
    have h1 := (valid_parts i a2).1
    cases hd : decO ws with
    | some j =>
      obtain ⟨op, _, hj⟩ := List.exists_of_findSome?_eq_some hd
      rw [dec_unique h' (decTry_some hj)]
    | none =>
      exfalso
      have := List.findSome?_eq_none_iff.1 hd i.f0.toNat (by simp; omega)
      unfold decTry at this
      rw [show ((i.f0.toNat : Nat) : Int) = i.f0 by omega, a3, List.tail_cons, mkI_self i a1 a2, if_pos ⟨a2, a1, rfl⟩] at this
      cases this
theorem decO_none {ws : List (List UInt8)} : decO ws = none ↔ ∀ i, ¬ Dec ws i := by
  constructor
  · intro h i hi
    rw [decO_some.2 hi] at h
    cases h
  · intro h
    cases hd : decO ws with
    | none => rfl
    | some i => exact absurd (decO_some.1 hd) (h i)

/-! ### lines, comments, words -/
def linesL : List UInt8 → List (List UInt8)
  | [] => [[]]
  | b :: l => if b = 10 then [] :: linesL l else match linesL l with | x :: xs => (b :: x) :: xs | [] => [[b]]
theorem linesL_ne (l : List UInt8) : linesL l ≠ [] := by
  cases l with
  | nil => simp [linesL]
  | cons b l =>
    unfold linesL
    split
    · simp
    · split <;> simp
def codeL (l : List UInt8) : List UInt8 := l.takeWhile fun b => b != 59
def blankB (b : UInt8) : Bool := b == 32 || b == 9
def fieldsGo : List UInt8 → List UInt8 → List (List UInt8)
  | cur, [] => if cur = [] then [] else [cur]
  | cur, b :: l => if blankB b = true then (if cur = [] then fieldsGo [] l else cur :: fieldsGo [] l) else fieldsGo (cur ++ [b]) l
def wordsL (l : List UInt8) : List (List UInt8) := fieldsGo [] (codeL l)
theorem fieldsGo_skip : ∀ (p : List UInt8) (cur l : List UInt8), (∀ b ∈ p, blankB b = false) → fieldsGo cur (p ++ l) = fieldsGo (cur ++ p) l
  | [], cur, l, _ => by simp
  | b :: p, cur, l, h => by
    have hb := h b List.mem_cons_self
    rw [List.cons_append, fieldsGo, if_neg (by simp [hb]), fieldsGo_skip p _ l (fun c hc => h c (List.mem_cons_of_mem _ hc))]
    simp

/-! #### strings.Cut at ";" -/
theorem index_one (c : UInt8) : ∀ l : List UInt8, (Lib.index l [c] = -1 ∧ c ∉ l) ∨ ∃ n : Nat, Lib.index l [c] = (n : Int) ∧ n < l.length ∧ l.take n = l.takeWhile (fun b => b != c) ∧ l.drop (n + 1) = (l.dropWhile fun b => b != c).tail
  | [] => by left; simp [Lib.index]
  | b :: l => by
    by_cases h : b = c
    · subst h
      right
      refine ⟨0, ?_, by simp, by simp, by simp⟩
      rw [Lib.index]; simp [List.isPrefixOf]
    · have hp : ([c] : List UInt8).isPrefixOf (b :: l) = false := by simp [List.isPrefixOf, Ne.symm h]
      have hix : Lib.index (b :: l) [c] = if Lib.index l [c] == -1 then -1 else Lib.index l [c] + 1 := by rw [Lib.index, hp]; simp
      rcases index_one c l with ⟨h1, h2⟩ | ⟨n, h1, h2, h3, h4⟩
      · left
        exact ⟨by rw [hix, h1]; rfl, by simp [h2, Ne.symm h]⟩
      · right
        refine ⟨n + 1, ?_, by simp; omega, ?_, ?_⟩
        · rw [hix, h1, if_neg (by simp)]; rfl
        · rw [List.take_succ_cons, h3, List.takeWhile_cons_of_pos (by simpa using h)]
        · rw [List.drop_succ_cons, h4, List.dropWhile_cons_of_pos (by simpa using h)]
theorem takeWhile_all (c : UInt8) : ∀ (l : List UInt8), c ∉ l → l.takeWhile (fun b => b != c) = l
  | [], _ => rfl
  | b :: l, h => by
    have h1 : ¬ b = c := fun e => h (by simp [e])
    rw [List.takeWhile_cons_of_pos (by simpa using h1), takeWhile_all c l (fun hh => h (List.mem_cons_of_mem _ hh))]
theorem cut_code (l : List UInt8) : (Lib.cut l [59]).1 = codeL l := by
  unfold Lib.cut codeL
  rcases index_one 59 l with ⟨h1, h2⟩ | ⟨n, h1, h2, h3, _⟩
  · rw [h1, if_neg (by omega), takeWhile_all _ _ h2]
  · rw [h1, if_pos (by omega)]
    simpa using h3

/-! #### strings.Split at "\n" -/
theorem linesL_none : ∀ l : List UInt8, (10 : UInt8) ∉ l → linesL l = [l]
  | [], _ => rfl
  | b :: l, h => by
    have h1 : ¬ b = 10 := fun e => h (by simp [e])
    rw [linesL, if_neg h1, linesL_none l (fun hh => h (List.mem_cons_of_mem _ hh))]
theorem linesL_cut : ∀ (l : List UInt8) (n : Nat), n < l.length → l.take n = l.takeWhile (fun b => b != 10) → linesL l = l.take n :: linesL (l.drop (n + 1))
  | [], n, h, _ => by simp at h
  | b :: l, 0, h, ht => by
    have h1 : b = 10 := by
      by_cases e : b = 10
      · exact e
      · rw [List.takeWhile_cons_of_pos (by simpa using e)] at ht
        simp at ht
    simp [linesL, h1]
  | b :: l, n + 1, h, ht => by
    have h1 : ¬ b = 10 := by
      rintro rfl
      simp at ht
    rw [List.takeWhile_cons_of_pos (by simpa using h1), List.take_succ_cons, List.cons.injEq] at ht
    rw [linesL, if_neg h1, linesL_cut l n (by simpa using h) ht.2, List.take_succ_cons, List.drop_succ_cons]
theorem split_lines : ∀ (k : Nat) (l : List UInt8), Lib.count l [10] = k → Lib.splitK [10] 0 k l = linesL l
  | 0, l, hk => by
    have : (10 : UInt8) ∉ l := by
      rw [Lib.count_one] at hk
      exact List.count_eq_zero.1 hk
    rw [Lib.splitK, linesL_none l this]
  | k + 1, l, hk => by
    rw [Lib.splitK]
    rcases index_one 10 l with ⟨h1, h2⟩ | ⟨n, h1, h2, h3, _⟩
    · exfalso
      rw [Lib.count_one, List.count_eq_zero.2 h2] at hk
      omega
    · have hc : Lib.count (l.drop (n + 1)) [10] = k := by
        rw [Lib.count_one] at hk ⊢
        have e : l = l.take n ++ l.drop n := (List.take_append_drop n l).symm
        have hd : l.drop n = 10 :: l.drop (n + 1) := by
          have h5 := List.drop_eq_getElem_cons h2
          rw [h5]
          congr 1
          have h6 := congrArg List.length h3
          rw [List.length_take, Nat.min_eq_left (by omega)] at h6
          by_cases e9 : l[n] = 10
          · exact e9
          · exfalso
            have : l.take (n + 1) = l.takeWhile (fun b => b != 10) ∨ True := .inr trivial
            have h7 : l.takeWhile (fun b => b != 10) ++ l.dropWhile (fun b => b != 10) = l := List.takeWhile_append_dropWhile
            have h8 : l.dropWhile (fun b => b != 10) = l.drop n := by
              have h9 := congrArg (List.drop n) h7
              rw [← h3, List.drop_append_of_le_length (by rw [List.length_take]; omega), List.drop_take_self, List.nil_append] at h9
              exact h9
            rw [h5] at h8
            have h10 := List.head?_dropWhile_not (fun b : UInt8 => b != 10) l
            rw [h8] at h10
            simp [List.getElem?_eq_getElem h2] at h10
            exact e9 h10
        rw [e, List.count_append, hd, List.count_cons_self] at hk
        have h0 : (l.take n).count 10 = 0 := by
          rw [List.count_eq_zero, h3]
          intro hm
          have := List.all_eq_true.1 (List.all_takeWhile (p := fun b : UInt8 => b != 10) (l := l)) _ hm
          simp at this
        omega
      rw [h1, if_neg (by simp)]
      simp only [Int.toNat_natCast, Nat.add_zero, List.length_singleton]
      rw [split_lines k _ hc, ← linesL_cut l n h2 h3]
theorem splitB_lines (s : ByteArray) : (Lib.splitB ⟨#[10]⟩ 0 (Lib.countB s ⟨#[10]⟩) s).map (·.data.toList) = linesL s.data.toList := by
  rw [Lib.splitB_data]
  exact split_lines _ _ rfl
end Go.Proofs.YtmgafakahbanaaaDoor.Pa

namespace Go.Proofs.YtmgafakahbanaaaDoor.Pa
open Go.RowKit
set_option linter.unusedVariables false
set_option linter.unusedSimpArgs false

/-! #### strings.FieldsFunc at blanks -/
def blankR (r : Nat) : Bool := r == 32 || r == 9
theorem decodeN_high (n b0 b1 b2 b3 : Nat) (hn : 1 ≤ n) (h0 : 128 ≤ b0) : (Lib.decodeN n b0 b1 b2 b3).2 ≤ n ∧ (Lib.decodeN n b0 b1 b2 b3).2 ≤ 4 ∧ (1 < (Lib.decodeN n b0 b1 b2 b3).2 → 128 ≤ b1) ∧ (2 < (Lib.decodeN n b0 b1 b2 b3).2 → 128 ≤ b2) ∧ (3 < (Lib.decodeN n b0 b1 b2 b3).2 → 128 ≤ b3) := by
  unfold Lib.decodeN
  repeat' split
  all_goals (simp only; omega)
theorem bt_getD (s : ByteArray) (pos : Nat) (h : pos < s.size) : s.data.toList.getD pos 0 = s[pos]'h := by
  have hj' : pos < s.data.toList.length := by simpa using h
  rw [List.getD_eq_getElem?_getD, List.getElem?_eq_getElem hj']
  simp
  rfl
theorem size_len (s : ByteArray) : s.data.toList.length = s.size := by simp
/-- A rune that is no blank: its bytes are none. -/
theorem decode_run (s : ByteArray) (pos : Nat) (h : pos < s.size) :
    1 ≤ (Utf8.decode s pos).2 ∧ pos + (Utf8.decode s pos).2 ≤ s.size ∧
    (blankR (Utf8.decode s pos).1 = true → (Utf8.decode s pos).2 = 1 ∧ blankB (s.data.toList.getD pos 0) = true) ∧
    (blankR (Utf8.decode s pos).1 = false → ∀ b ∈ (s.data.toList.drop pos).take (Utf8.decode s pos).2, blankB b = false) := by
  have hg := bt_getD s pos h
  have hl := size_len s
  by_cases ha : (s[pos]'h).toNat < 128
  · rw [decode_ascii s pos h ha]
    refine ⟨Nat.le_refl _, by simp only; omega, fun hb => ⟨rfl, ?_⟩, fun hb b hm => ?_⟩
    · rw [hg]
      unfold blankR at hb
      unfold blankB
      simp only [Bool.or_eq_true, beq_iff_eq] at hb ⊢
      rcases hb with hb | hb
      · left; exact UInt8.toNat_inj.1 hb
      · right; exact UInt8.toNat_inj.1 hb
    · rw [List.drop_eq_getElem_cons (by omega)] at hm
      simp only [List.take_succ_cons, List.take_zero, List.mem_singleton] at hm
      have : b = s[pos]'h := by rw [hm, ← hg, List.getD_eq_getElem?_getD, List.getElem?_eq_getElem (by omega)]; rfl
      rw [this]
      unfold blankR at hb
      unfold blankB
      simp only [Bool.or_eq_false_iff, beq_eq_false_iff_ne, ne_eq] at hb ⊢
      exact ⟨fun e => hb.1 (by rw [e]; rfl), fun e => hb.2 (by rw [e]; rfl)⟩
  · have h128 : 128 ≤ (s[pos]'h).toNat := by omega
    have hh := decode_high s pos h h128
    have hd := decodeN_high (s.data.toList.length - pos) (s.data.toList.getD pos 0).toNat (s.data.toList.getD (pos + 1) 0).toNat (s.data.toList.getD (pos + 2) 0).toNat (s.data.toList.getD (pos + 3) 0).toNat (by omega) (by rw [hg]; exact h128)
    rw [← Lib.decode_N] at hd
    obtain ⟨d1, d2, d3, d4, d5⟩ := hd
    refine ⟨hh.2, by omega, fun hb => ?_, fun hb b hm => ?_⟩
    · exfalso
      unfold blankR at hb
      simp only [Bool.or_eq_true, beq_iff_eq] at hb
      omega
    · obtain ⟨i, hi, rfl⟩ := List.getElem_of_mem hm
      rw [List.getElem_take, List.getElem_drop]
      simp only [List.length_take, List.length_drop] at hi
      have e : ∀ (q : Nat) (hq : q < s.data.toList.length), s.data.toList[q] = s.data.toList.getD q 0 := fun q hq => by rw [List.getD_eq_getElem?_getD, List.getElem?_eq_getElem hq]; rfl
      have key : 128 ≤ (s.data.toList.getD (pos + i) 0).toNat := by
        rcases (by omega : i = 0 ∨ i = 1 ∨ i = 2 ∨ i = 3) with rfl | rfl | rfl | rfl
        · rw [Nat.add_zero, hg]; exact h128
        · exact d3 (by omega)
        · exact d4 (by omega)
        · exact d5 (by omega)
      rw [e _ (by omega)]
      unfold blankB
      simp only [Bool.or_eq_false_iff, beq_eq_false_iff_ne, ne_eq]
      refine ⟨fun e2 => ?_, fun e2 => ?_⟩
      · rw [e2] at key; exact absurd key (by decide)
      · rw [e2] at key; exact absurd key (by decide)
def pieces (s : ByteArray) (x : List (Nat × Nat)) : List (List UInt8) := x.map fun p => (s.data.toList.drop p.1).take (p.2 - p.1)
def curOf (s : ByteArray) (pos : Nat) : Option Nat → List UInt8
  | none => []
  | some a => (s.data.toList.drop a).take (pos - a)
theorem pieces_snoc (s : ByteArray) (x : List (Nat × Nat)) (a b : Nat) : pieces s (x ++ [(a, b)]) = pieces s x ++ [(s.data.toList.drop a).take (b - a)] := by simp [pieces]
theorem spans_end (s : ByteArray) (st : Option Nat) (acc : List (Nat × Nat)) (hst : ∀ a, st = some a → a < s.size) : pieces s (Lib.closeSpans s (acc, st)) = pieces s acc ++ fieldsGo (curOf s s.size st) [] := by
  cases st with
  | none => simp [Lib.closeSpans, curOf, fieldsGo]
  | some a =>
    have h := hst a rfl
    have hl := size_len s
    simp only [Lib.closeSpans]
    rw [pieces_snoc]
    have hne : ¬ curOf s s.size (some a) = [] := by
      intro e
      have := congrArg List.length e
      simp only [curOf, List.length_take, List.length_drop, List.length_nil] at this
      omega
    rw [fieldsGo, if_neg hne]
    rfl
theorem take_more (L : List UInt8) (a pos k : Nat) (h : a ≤ pos) : (L.drop a).take (pos + k - a) = (L.drop a).take (pos - a) ++ (L.drop pos).take k := by
  have e : pos + k - a = (pos - a) + k := by omega
  rw [e, List.take_add, List.drop_drop, show a + (pos - a) = pos by omega]
theorem spans_fields (s : ByteArray) : ∀ (f pos : Nat) (st : Option Nat) (acc : List (Nat × Nat)), s.size ≤ pos + f → pos ≤ s.size → (∀ a, st = some a → a < pos) →
    pieces s (Lib.closeSpans s (Lib.spansFromP blankR s f pos st acc)) = pieces s acc ++ fieldsGo (curOf s pos st) (s.data.toList.drop pos)
  | 0, pos, st, acc, hf, hp, hst => by
    have hl := size_len s
    have e : pos = s.size := by omega
    subst e
    rw [Lib.spansFromP_end _ _ _ _ _ _ (by omega), spans_end s st acc hst, List.drop_of_length_le (by omega)]
  | f + 1, pos, st, acc, hf, hp, hst => by
    have hl := size_len s
    by_cases hlt : pos < s.size
    · obtain ⟨d1, d2, d3, d4⟩ := decode_run s pos hlt
      unfold Lib.spansFromP
      rw [if_pos hlt]
      by_cases hb : blankR (Utf8.decode s pos).1 = true
      · obtain ⟨e1, e2⟩ := d3 hb
        have hd : s.data.toList.drop pos = s.data.toList.getD pos 0 :: s.data.toList.drop (pos + 1) := by
          rw [List.drop_eq_getElem_cons (by omega), List.getD_eq_getElem?_getD, List.getElem?_eq_getElem (by omega)]
          rfl
        rw [if_pos hb, e1, hd, fieldsGo, if_pos e2]
        cases st with
        | none =>
          simp only [curOf, if_true]
          exact spans_fields s f (pos + 1) none acc (by omega) (by omega) (fun a h => by cases h)
        | some a =>
          have ha := hst a rfl
          have hne : ¬ curOf s pos (some a) = [] := by
            intro e
            have := congrArg List.length e
            simp only [curOf, List.length_take, List.length_drop, List.length_nil] at this
            omega
          rw [if_neg hne]
          simp only
          rw [spans_fields s f (pos + 1) none (acc ++ [(a, pos)]) (by omega) (by omega) (fun a h => by cases h), pieces_snoc]
          simp [curOf]
      · have hb' : blankR (Utf8.decode s pos).1 = false := by simpa using hb
        have hnb := d4 hb'
        rw [if_neg hb]
        have hd : s.data.toList.drop pos = (s.data.toList.drop pos).take (Utf8.decode s pos).2 ++ s.data.toList.drop (pos + (Utf8.decode s pos).2) := by
          rw [← List.drop_drop, List.take_append_drop]
        generalize (Utf8.decode s pos).2 = k at *
        cases st with
        | none =>
          simp only
          rw [spans_fields s f (pos + k) (some pos) acc (by omega) (by omega) (fun a h => by injection h with h; omega), hd, fieldsGo_skip _ _ _ hnb]
          simp [curOf]
        | some a =>
          have ha := hst a rfl
          simp only
          rw [spans_fields s f (pos + k) (some a) acc (by omega) (by omega) (fun a' h => by injection h with h; omega), hd, fieldsGo_skip _ _ _ hnb]
          simp only [curOf]
          rw [take_more _ _ _ _ (by omega)]
    · have e : pos = s.size := by omega
      subst e
      rw [Lib.spansFromP_end _ _ _ _ _ _ hlt, spans_end s st acc hst, List.drop_of_length_le (by omega)]
theorem fields_eq (s : ByteArray) : (Lib.goFieldsP blankR s).map (·.data.toList) = fieldsGo [] s.data.toList := by
  have h := spans_fields s s.size 0 none [] (by omega) (by omega) (fun a h => by cases h)
  simp only [curOf, List.drop_zero, pieces, List.map_nil, List.nil_append] at h
  rw [← h]
  unfold Lib.goFieldsP Lib.spansOfP
  rw [List.map_map]
  apply List.map_congr_left
  intro p _
  simp only [Function.comp]
  rw [Lib.extract_data]

/-! #### words hold no blanks and are not empty -/
theorem fieldsGo_good : ∀ (l cur : List UInt8), (∀ b ∈ cur, blankB b = false) → ∀ w ∈ fieldsGo cur l, w ≠ [] ∧ ∀ b ∈ w, blankB b = false
  | [], cur, hc, w, hw => by
    rw [fieldsGo] at hw
    split at hw
    · cases hw
    · rename_i hne
      simp only [List.mem_singleton] at hw
      subst hw
      exact ⟨hne, hc⟩
  | b :: l, cur, hc, w, hw => by
    rw [fieldsGo] at hw
    split at hw
    · split at hw
      · exact fieldsGo_good l [] (fun _ h => by cases h) w hw
      · rename_i hne
        rcases List.mem_cons.1 hw with rfl | hw
        · exact ⟨hne, hc⟩
        · exact fieldsGo_good l [] (fun _ h => by cases h) w hw
    · rename_i hb
      refine fieldsGo_good l (cur ++ [b]) (fun c h => ?_) w hw
      rcases List.mem_append.1 h with h | h
      · exact hc c h
      · simp only [List.mem_singleton] at h
        subst h
        simpa using hb
theorem fieldsGo_size : ∀ (l cur : List UInt8), (fieldsGo cur l).length ≤ l.length + cur.length ∧ ((fieldsGo cur l).flatten).length ≤ l.length + cur.length
  | [], cur => by
    rw [fieldsGo]
    split
    · simp
    · rename_i h
      have : 0 < cur.length := List.length_pos_iff.2 h
      simp
      omega
  | b :: l, cur => by
    rw [fieldsGo]
    split
    · split
      · have := fieldsGo_size l []
        simp only [List.length_cons, List.length_nil] at *
        omega
      · rename_i h
        have hp : 0 < cur.length := List.length_pos_iff.2 h
        have := fieldsGo_size l []
        simp only [List.length_cons, List.length_nil, List.flatten_cons, List.length_append] at *
        omega
    · have := fieldsGo_size l (cur ++ [b])
      simp only [List.length_append, List.length_cons, List.length_nil] at *
      omega
theorem codeL_len (l : List UInt8) : (codeL l).length ≤ l.length := by
  unfold codeL
  exact List.Sublist.length_le (List.takeWhile_sublist _)
theorem wordsL_good (l : List UInt8) : ∀ w ∈ wordsL l, w ≠ [] ∧ ∀ b ∈ w, blankB b = false := fieldsGo_good _ [] (fun _ h => by cases h)
theorem wordsL_size (l : List UInt8) : (wordsL l).length ≤ l.length ∧ ((wordsL l).flatten).length ≤ l.length := by
  have h1 := fieldsGo_size (codeL l) []
  have h2 := codeL_len l
  simp only [List.length_nil, Nat.add_zero] at h1
  unfold wordsL
  omega

/-! ### what Parse answers -/
def parseGo : List (List UInt8) → Nat → List S48 → List S48 × Int × Int
  | [], _, out => (out, 0, 0)
  | l :: ls, n, out =>
    if wordsL l = [] then parseGo ls (n + 1) out
    else match decO (wordsL l) with
      | none => ([], (n : Int) + 1, 3)
      | some i => if out.length = 4096 then ([], (n : Int) + 1, 5) else parseGo ls (n + 1) (out ++ [i])
def parseL (s : List UInt8) : List S48 × Int × Int := if s.length > 65536 then ([], 0, 5) else parseGo (linesL s) 0 []
end Go.Proofs.YtmgafakahbanaaaDoor.Pa

namespace Go.Proofs.YtmgafakahbanaaaDoor.Pa
open Go.RowKit Go.Proofs.YtmgafakahbanaaaDoorW.PrintWords Go.Proofs.YtmgafakahbanaaaDoorW.PrintLast Go.Proofs.YtmgafakahbanaaaDoorW.PrintMore
set_option linter.unusedVariables false
set_option linter.unusedSimpArgs false

/-! ### the instruction of a line, told by decO -/
structure WordsAt (w : World) (g c : Nat) (ws : List ByteArray) : Prop where
  env : EnvW w
  cells : ∀ (j : Nat) x, ws[j]? = some x → w.cell? ⟨g, j, none⟩ = some (.string x)
  lt : g < w.heap.size
  pos : 1 ≤ ws.length
  cap : ws.length ≤ c
  most : ws.length ≤ 100000
  size : ∀ x ∈ ws, x.size ≤ 100000
  space : ∀ x ∈ ws, (32 : UInt8) ∉ x.data.toList
  join : (Lib.join (bytesOf ws) [32]).length ≤ 140737488355328
theorem instr_yes (g c : Nat) (ws : List ByteArray) (w : World) (i : S48) (h : WordsAt w g c ws) (hd : decO (bytesOf ws) = some i) :
    Calls Tryd.prog 35 #[.slice (some ⟨g, 0, none⟩) ws.length c] w fun e w' => e = .returned (.tuple #[.agg #[.int .u8 i.f0, .int .i64 i.f1, .int .i64 i.f2, .int .i64 i.f3, .int .i64 i.f4], .bool true]) ∧ Below w.heap.size w w' := by
  refine (instr_calls g c ws w h.env h.cells h.lt h.pos h.cap h.most h.size h.space h.join).mono ?_
  rintro e w' ⟨i', ok, rfl, hp, hb⟩
  cases ok with
  | false => exact absurd (decO_some.1 hd) (hp.no rfl i)
  | true => rw [dec_unique (hp.yes rfl) (decO_some.1 hd)]; exact ⟨rfl, hb⟩
theorem instr_no (g c : Nat) (ws : List ByteArray) (w : World) (h : WordsAt w g c ws) (hd : decO (bytesOf ws) = none) :
    Calls Tryd.prog 35 #[.slice (some ⟨g, 0, none⟩) ws.length c] w fun e w' => ∃ i : S48, e = .returned (.tuple #[.agg #[.int .u8 i.f0, .int .i64 i.f1, .int .i64 i.f2, .int .i64 i.f3, .int .i64 i.f4], .bool false]) ∧ Below w.heap.size w w' := by
  refine (instr_calls g c ws w h.env h.cells h.lt h.pos h.cap h.most h.size h.space h.join).mono ?_
  rintro e w' ⟨i', ok, rfl, hp, hb⟩
  cases ok with
  | true => exact absurd (hp.yes rfl) (decO_none.1 hd i')
  | false => exact ⟨i', rfl, hb⟩

/-! ### strings.Split, Cut, FieldsFunc at Parse's arguments -/
def piecesB (s : ByteArray) : List ByteArray := Lib.splitB ⟨#[10]⟩ 0 (Lib.countB s ⟨#[10]⟩) s
theorem pieces_lines (s : ByteArray) : (piecesB s).map (·.data.toList) = linesL s.data.toList := splitB_lines s
theorem splitB_small (sep : ByteArray) : ∀ (k : Nat) (s : ByteArray), ∀ x ∈ Lib.splitB sep 0 k s, x.size ≤ s.size
  | 0, s, x, h => by
    simp only [Lib.splitB, List.mem_singleton] at h
    subst h
    exact Nat.le_refl _
  | k + 1, s, x, h => by
    unfold Lib.splitB at h
    split at h
    · simp only [List.mem_singleton] at h
      subst h
      exact Nat.le_refl _
    · rcases List.mem_cons.1 h with rfl | h
      · rw [ByteArray.size_extract]; omega
      · have := splitB_small sep k _ x h
        rw [ByteArray.size_extract] at this
        omega
theorem piece_small (s : ByteArray) (hs : s.size ≤ 100000) : ∀ x ∈ piecesB s, x.size ≤ 100000 := fun x hx => Nat.le_trans (splitB_small _ _ s x hx) hs
theorem split_calls (s : ByteArray) (w : World) (hs : s.size ≤ 100000) (hE : EnvW w) :
    Calls Tryd.prog 31 #[.string s, .string ⟨#[10]⟩] w fun e w' => e = .returned (.slice (some ⟨w.heap.size, 0, none⟩) (piecesB s).length (piecesB s).length) ∧ w' = w.alloc (.cells ((piecesB s).map Value.string).toArray 9) := by
  obtain ⟨m, hm⟩ := hE.maxLen
  have hl : (piecesB s).length = Lib.countB s ⟨#[10]⟩ + 1 := Lib.splitB_all _ (by decide) 0 _ s rfl
  rw [hl]
  exact Tryd.strings_Split s ⟨#[10]⟩ m w (by omega) hm (by decide)
theorem cut_calls (s : ByteArray) (w : World) (hs : s.size ≤ 100000) (hE : EnvW w) :
    Calls Tryd.prog 32 #[.string s, .string ⟨#[59]⟩] w fun e w' => ∃ (a : ByteArray) (b : Bool), e = .returned (.tuple #[.string (str (codeL s.data.toList)), .string a, .bool b]) ∧ Below w.heap.size w w' := by
  obtain ⟨m, hm⟩ := hE.maxLen
  refine (Tryd.strings_Cut s ⟨#[59]⟩ m w (by omega) hm).mono ?_
  rintro e w' ⟨rfl, n, rfl⟩
  exact ⟨str (Lib.cut s.data.toList [59]).2.1, (Lib.cut s.data.toList [59]).2.2, by rw [← cut_code]; rfl, pw_below_drewN (Below.refl _ _) n⟩
def wordsB (s : ByteArray) : List ByteArray := Lib.goFieldsP blankR s
theorem words_bytes (s : ByteArray) : bytesOf (wordsB s) = fieldsGo [] s.data.toList := fields_eq s
theorem blank_pays (w : World) : PredAt Tryd.prog 34 #[] encR blankR w := by
  intro W x hb
  have h : asm_blank.f (x : Int) = some (blankR x) := by
    unfold asm_blank.f blankR
    by_cases h : x = 32
    · subst h; rfl
    · rw [if_neg (by omega)]
      congr 1
      rw [Bool.eq_iff_iff]
      simp
      omega
  exact (asm_blank.calls (x : Int) _ W h).mono fun e w' ⟨he, hd⟩ => ⟨he, hd.out⟩
theorem fields_calls (s : ByteArray) (w : World) (hs : s.size ≤ 100000) :
    Calls Tryd.prog 33 #[.string s, .func (.func 34) #[] #[]] w fun e w' => ∃ A, e = .returned (.slice (some ⟨A, 0, none⟩) (wordsB s).length (wordsB s).length) ∧ (A < w'.heap.size ∨ (wordsB s).length = 0) ∧ (∀ (j : Nat) x, (wordsB s)[j]? = some x → w'.cell? ⟨A, j, none⟩ = some (.string x)) ∧ Below w.heap.size w w' := by
  refine (Tryd.strings_FieldsFunc 34 #[] (enters_ Tryd.func34 rfl rfl) blankR s w (by omega) (blank_pays w)).mono ?_
  rintro e w' ⟨A, rfl, hA, ho, hb⟩
  have hc : ∀ (j : Nat) x, (wordsB s)[j]? = some x → w'.cell? ⟨A, j, none⟩ = some (.string x) := by
    intro j x hx
    have := ho.cells (g := A) rfl j (.string x) (by
      have e : (Lib.goFieldsP blankR s)[j]? = some x := hx
      rw [List.getElem?_map, e]; rfl)
    rw [add_plain] at this
    simpa using this
  refine ⟨A, rfl, ?_, hc, hb⟩
  by_cases h0 : (wordsB s).length = 0
  · exact .inr h0
  · left
    have := hc 0 ((wordsB s)[0]'(by omega)) (List.getElem?_eq_getElem _)
    exact World.block_lt_of_cell? _ _ this
theorem join_len : ∀ (ws : List (List UInt8)), (Lib.join ws [32]).length ≤ ws.flatten.length + ws.length
  | [] => by simp [Lib.join]
  | x :: ws => by
    rw [Num.join_spaced]
    induction ws generalizing x with
    | nil => simp [Num.spaced]
    | cons y ws ih =>
      have := ih y
      simp [Num.spaced] at this ⊢
      omega
theorem flat_mem : ∀ (ws : List (List UInt8)) (x : List UInt8), x ∈ ws → x.length ≤ ws.flatten.length
  | [], x, h => by cases h
  | y :: ws, x, h => by
    rcases List.mem_cons.1 h with rfl | h
    · simp
    · have := flat_mem ws x h
      rw [List.flatten_cons, List.length_append]
      omega
theorem words_at (s : ByteArray) (w : World) (A : Nat) (hs : s.size ≤ 100000) (hE : EnvW w) (hA : A < w.heap.size ∨ (wordsB s).length = 0) (hc : ∀ (j : Nat) x, (wordsB s)[j]? = some x → w.cell? ⟨A, j, none⟩ = some (.string x)) (hne : ¬ (wordsB s).length = 0) : WordsAt w A (wordsB s).length (wordsB s) := by
  have hb := words_bytes s
  have hl := size_len s
  have h1 := fieldsGo_size s.data.toList []
  rw [← hb] at h1
  have hlen : (bytesOf (wordsB s)).length = (wordsB s).length := by simp [bytesOf]
  have hj := join_len (bytesOf (wordsB s))
  simp only [List.length_nil, Nat.add_zero] at h1
  have hm : ∀ x ∈ wordsB s, x.data.toList ∈ bytesOf (wordsB s) := fun x hx => List.mem_map_of_mem hx
  refine ⟨hE, hc, hA.resolve_right hne, by omega, Nat.le_refl _, by omega, fun x hx => ?_, fun x hx hsp => ?_, by omega⟩
  · have := flat_mem _ _ (hm x hx)
    rw [size_len] at this
    omega
  · have hg := fieldsGo_good s.data.toList [] (fun _ h => by cases h) x.data.toList (by rw [← hb]; exact hm x hx)
    have := hg.2 32 hsp
    simp [blankB] at this

/-- What the loop of Parse keeps. -/
structure PInv (w : World) (ls : List ByteArray) (v : Value) (out : List S48) (wr : World) : Prop where
  env : EnvW wr
  below : Below w.heap.size w wr
  row : Kd.R k48 48 wr w.heap.size (fun k => k ≠ w.heap.size) v out
  cells : ∀ (j : Nat) x, ls[j]? = some x → wr.cell? ⟨w.heap.size, j, none⟩ = some (.string x)
  lt : w.heap.size < wr.heap.size
theorem PInv.step {w : World} {ls : List ByteArray} {v : Value} {out : List S48} {wr w1 : World} (h : PInv w ls v out wr) (hb : Below wr.heap.size wr w1) : PInv w ls v out w1 := by
  obtain ⟨h0, h1, h2, h3, h4⟩ := h
  exact ⟨h0.below hb, below_then h1 h1.size hb, Kd.R_below h2 hb, fun j x hx => (hb.cell h4).trans (h3 j x hx), Nat.lt_of_lt_of_le h4 hb.size⟩
theorem PInv.grow {w : World} {ls : List ByteArray} {v v1 : Value} {out out1 : List S48} {W w1 : World} (h : PInv w ls v out W) (hE : EnvW w) (hr : Kd.R k48 48 w1 w.heap.size (fun k => k ≠ w.heap.size) v1 out1) (hb : Below w.heap.size w w1) (hg : W.grownBy w1 v.ownBlock) : PInv w ls v1 out1 w1 := by
  obtain ⟨h0, h1, h2, h3, h4⟩ := h
  have hne : some w.heap.size ≠ v.ownBlock := fun e => h2.1 _ e.symm rfl
  have hblk := hg.block w.heap.size h4 hne
  refine ⟨hE.below hb, hb, hr, fun j x hx => ?_, ?_⟩
  · have := h3 j x hx
    simpa [World.cell?, hblk] using this
  · have hc := Array.getElem?_eq_getElem (xs := W.heap) h4
    rw [hc] at hblk
    exact (Array.getElem?_eq_some_iff.1 hblk).1
theorem pinv_start (w : World) (ls : List ByteArray) (hE : EnvW w) : PInv w ls (.slice none 0 0) [] (w.alloc (.cells (ls.map Value.string).toArray 9)) := by
  have hb : Below w.heap.size w (w.alloc (.cells (ls.map Value.string).toArray 9)) := below_alloc (Below.refl _ _) _
  refine ⟨hE.below hb, hb, Kd.R_nil _ _ _ _ _, fun j x hx => ?_, by simp⟩
  rw [World.cell?_alloc_mark]
  simp [hx]
end Go.Proofs.YtmgafakahbanaaaDoor.Pa

namespace Go.Proofs.YtmgafakahbanaaaDoor.Pa
open Go.RowKit Go.Proofs.YtmgafakahbanaaaDoorW.PrintWords Go.Proofs.YtmgafakahbanaaaDoorW.PrintLast Go.Proofs.YtmgafakahbanaaaDoorW.PrintMore
set_option linter.unusedVariables false
set_option linter.unusedSimpArgs false

theorem parse_drop (ls : List ByteArray) (j : Nat) (hj : j < ls.length) (n : Nat) (out : List S48) (x : ByteArray) (hx : ls[j]? = some x) :
    parseGo ((bytesOf ls).drop j) n out = parseGo (x.data.toList :: (bytesOf ls).drop (j + 1)) n out := by
  have h1 : j < (bytesOf ls).length := by simpa [bytesOf] using hj
  have h2 : (bytesOf ls)[j]? = some x.data.toList := by simp [bytesOf, hx]
  rw [List.drop_eq_getElem_cons h1]
  rw [List.getElem?_eq_getElem h1] at h2
  rw [Option.some.inj h2]
theorem idx_next (j N : Nat) (h : j < N) (hn : N ≤ 100001) : wrap64 ((j : Int) + 1) = ((j + 1 : Nat) : Int) := by unfold wrap64; omega
theorem idx_next' (j N : Nat) (h : j < N) (hn : N ≤ 100001) : wrap64 ((j : Int) + 1) = (j : Int) + 1 := by unfold wrap64; omega
theorem idx_meas (j N : Nat) (h : j < N) (hn : N ≤ 100001) : N - (intOf (Value.int IntKind.i64 (wrap64 ((j : Int) + 1)))).toNat < N - (intOf (Value.int IntKind.i64 (j : Int))).toNat := by
  rw [idx_next j N h hn]
  simp [intOf]
  omega
theorem idx_meas' (j N : Nat) (h : j < N) : N - (intOf (Value.int IntKind.i64 ((j : Int) + 1))).toNat < N - (intOf (Value.int IntKind.i64 (j : Int))).toNat := by
  simp [intOf]
  omega
theorem cap_bound (out : List S48) (h : out.length ≤ 4096) : (out.length + 1) * 40 ≤ 140737488355328 := by omega
theorem len_next (out : List S48) (i : S48) (h : out.length ≤ 4096) (h2 : ¬ out.length = 4096) : (out ++ [i]).length ≤ 4096 := by
  rw [List.length_append]
  simp
  omega
theorem code_small (x : ByteArray) (h : x.size ≤ 100000) : (str (codeL x.data.toList)).size ≤ 100000 := by
  have := codeL_len x.data.toList
  rw [size_len] at this
  rw [str_size]
  omega
set_option maxRecDepth 100000 in
set_option maxHeartbeats 4000000 in
theorem Parse_calls (s : ByteArray) (w : World) (r1 : List S48) (r2 r3 : Int) (hE : EnvW w) (hr : parseL s.data.toList = (r1, r2, r3)) :
    Calls Tryd.prog 16 #[.string s] w fun e w' => ∃ v0_, e = .returned (.tuple #[v0_, .int .i64 r2, .int .i64 r3]) ∧ Kd.R k48 48 w' w.heap.size (fun _ => True) v0_ r1 ∧ Below w.heap.size w w' := by
  by_cases hbig : 65536 < s.size
  · have e : parseL s.data.toList = ([], 0, 5) := by
      unfold parseL
      rw [if_pos (by rw [size_len]; exact hbig)]
    rw [e] at hr
    injection hr with e1 e2
    injection e2 with e2 e3
    subst e1 e2 e3
    clear e
    have hb2 : (65536 : Int) < (s.size : Int) := by omega
    go_enter Tryd.func16, Tryd.ntmps16
    go_wp2
    go_ret3
    exact ⟨_, rfl, Kd.R_nil _ _ _ _ _, Below.refl _ _⟩
  · have e : parseL s.data.toList = parseGo (linesL s.data.toList) 0 [] := by
      unfold parseL
      rw [if_neg (by rw [size_len]; omega)]
    rw [e, ← pieces_lines] at hr
    have HR : Hid (parseGo (bytesOf (piecesB s)) 0 [] = (r1, r2, r3)) := Lib.hid hr
    clear e hr
    have hs1 : s.size ≤ 65536 := Nat.not_lt.1 hbig
    have hs2 : ¬ (65536 : Int) < (s.size : Int) := by omega
    have hsplit := fun w h => split_calls s w (Nat.le_trans hs1 (by decide)) h
    have hlenP : (piecesB s).length ≤ 100001 := by
      have h1 : (piecesB s).length = Lib.countB s ⟨#[10]⟩ + 1 := Lib.splitB_all _ (by decide) 0 _ s rfl
      have h2 := Lib.countB_le ⟨#[10]⟩ (by decide) s.size s (Nat.le_refl _)
      omega
    have hsz : ∀ x ∈ piecesB s, x.size ≤ 100000 := piece_small s (Nat.le_trans hs1 (by decide))
    generalize piecesB s = ls at HR hsplit hlenP hsz
    have HSp := Aside0.mk hsplit
    have HSz := Lib.hid hsz
    have HE := Aside0.mk hE
    clear hsplit hsz hE
    go_enter Tryd.func16, Tryd.ntmps16
    go_wp2_with (go_at_call 31; refine (HSp.out _ HE.out).mono ?_; rintro e w1 ⟨rfl, hw1⟩; have HP : Aside0 (PInv w ls (.slice none 0 0) [] w1) := ⟨by rw [hw1]; exact pinv_start w ls HE.out⟩; clear hw1)
    go_loopw [20, 5] (fun n v wr => ∃ (j : Nat) (out : List S48), j ≤ ls.length ∧ n = .int .i64 j ∧ out.length ≤ 4096 ∧ Aside0 (parseGo ((bytesOf ls).drop j) j out = (r1, r2, r3)) ∧ Aside0 (PInv w ls v out wr)) (fun n _ _ => ls.length - (intOf n).toNat)
    case atStart => exact ⟨0, [], by omega, rfl, by simp, ⟨HR.out⟩, HP⟩
    case round =>
      obtain ⟨j, out, hj, rfl, hout, HQ, HI⟩ := hrel
      clear HP
      by_cases hlt : j < ls.length
      · obtain ⟨x, hx⟩ : ∃ x, ls[j]? = some x := ⟨ls[j], List.getElem?_eq_getElem hlt⟩
        have hxs := HSz.out x (List.mem_of_getElem? hx)
        have hq := HQ.out
        rw [parse_drop ls j hlt j out x hx, parseGo] at hq
        have hcell := HI.out.cells j x hx
        have HCut := Aside0.mk (fun w h => cut_calls x w hxs h)
        have hcs := code_small x hxs
        have HF := Aside0.mk (fun w => fields_calls (str (codeL x.data.toList)) w hcs)
        have HWA := Aside0.mk (fun w A hE hA hc hn => words_at (str (codeL x.data.toList)) w A hcs hE hA hc hn)
        have hwb : bytesOf (wordsB (str (codeL x.data.toList))) = wordsL x.data.toList := words_bytes _
        have hwl : wordsL x.data.toList = [] ↔ (wordsB (str (codeL x.data.toList))).length = 0 := by
          rw [← hwb]; simp [bytesOf]
        rw [← hwb] at hq hwl
        generalize wordsB (str (codeL x.data.toList)) = ws at *
        generalize str (codeL x.data.toList) = cB at *
        clear hwb hcs hx
        have HEr := Aside0.mk HI.out.env
        by_cases h0 : ws.length = 0
        · rw [if_pos (hwl.2 h0)] at hq
          have HQ2 := Aside0.mk hq
          clear hq hwl
          go_wp2_with (first | (go_at_call 32; refine (HCut.out _ HEr.out).mono ?_; rintro e w1 ⟨a, b, rfl, hb1⟩; have HI1 := Aside0.mk (HI.out.step hb1)) | (go_at_call 33; refine (HF.out _).mono ?_; rintro e w2 ⟨A, rfl, hA2, hc2, hb2⟩; have HI2 := Aside0.mk (HI1.out.step hb2); clear hc2))
          go_roundw
          case rel => exact ⟨j + 1, out, hlt, rfl, hout, HQ2, HI2⟩
          case measure => exact idx_meas' j _ hlt
        · rw [if_neg (fun h => h0 (hwl.1 h))] at hq
          clear hwl
          cases hd : decO (bytesOf ws) with
          | none =>
            rw [hd] at hq
            injection hq with e1 e2
            injection e2 with e2 e3
            subst e1 e2 e3
            have HD := Lib.hid hd
            clear hd
            go_wp2_with (first | (go_at_call 32; refine (HCut.out _ HEr.out).mono ?_; rintro e w1 ⟨a, b, rfl, hb1⟩; have HI1 := Aside0.mk (HI.out.step hb1)) | (go_at_call 33; refine (HF.out _).mono ?_; rintro e w2 ⟨A, rfl, hA2, hc2, hb2⟩; have HI2 := Aside0.mk (HI1.out.step hb2); have HC2 := Aside0.mk hc2; have HA2 := Aside0.mk hA2; clear hc2 hA2) | (go_at_call 35; refine (instr_no A ws.length ws _ (HWA.out _ _ HI2.out.env HA2.out HC2.out h0) HD.out).mono ?_; rintro e w3 ⟨i, rfl, hb3⟩))
            go_ret3
            exact ⟨_, rfl, Kd.R_nil _ _ _ _ _, below_alloc (HI2.out.step hb3).below _⟩
          | some i =>
            rw [hd] at hq
            simp only at hq
            have HD := Lib.hid hd
            clear hd
            obtain ⟨Ao, co, eo⟩ := Kd.R_slice HI.out.row
            subst eo
            by_cases hfull : out.length = 4096
            · rw [if_pos hfull] at hq
              injection hq with e1 e2
              injection e2 with e2 e3
              subst e1 e2 e3
              go_wp2_with (first | (go_at_call 32; refine (HCut.out _ HEr.out).mono ?_; rintro e w1 ⟨a, b, rfl, hb1⟩; have HI1 := Aside0.mk (HI.out.step hb1)) | (go_at_call 33; refine (HF.out _).mono ?_; rintro e w2 ⟨A, rfl, hA2, hc2, hb2⟩; have HI2 := Aside0.mk (HI1.out.step hb2); have HC2 := Aside0.mk hc2; have HA2 := Aside0.mk hA2; clear hc2 hA2) | (go_at_call 35; refine (instr_yes A ws.length ws _ i (HWA.out _ _ HI2.out.env HA2.out HC2.out h0) HD.out).mono ?_; rintro e w3 ⟨rfl, hb3⟩))
              go_ret3
              exact ⟨_, rfl, Kd.R_nil _ _ _ _ _, below_alloc (HI2.out.step hb3).below _⟩
            · rw [if_neg hfull] at hq
              have HQ2 := Aside0.mk hq
              clear hq
              go_wp2_with (first | (go_at_call 32; refine (HCut.out _ HEr.out).mono ?_; rintro e w1 ⟨a, b, rfl, hb1⟩; have HI1 := Aside0.mk (HI.out.step hb1)) | (go_at_call 33; refine (HF.out _).mono ?_; rintro e w2 ⟨A, rfl, hA2, hc2, hb2⟩; have HI2 := Aside0.mk (HI1.out.step hb2); have HC2 := Aside0.mk hc2; have HA2 := Aside0.mk hA2; clear hc2 hA2) | (go_at_call 35; refine (instr_yes A ws.length ws _ i (HWA.out _ _ HI2.out.env HA2.out HC2.out h0) HD.out).mono ?_; rintro e w3 ⟨rfl, hb3⟩; have HI3 := Aside0.mk (HI2.out.step hb3)) | ((with_reducible refine gate_builtin (b := .append) (xs := #[.tmp 50, .tmp 52]) rfl ?_); at_builtin; have HI4 := Aside0.mk (HI3.out.step (below_alloc (Below.refl _ _) (.cells #[.int .u8 i.f0, .int .i64 i.f1, .int .i64 i.f2, .int .i64 i.f3, .int .i64 i.f4] 48))); refine Kd.R_append k48 (w0 := w) w.heap.size rfl (.tmp 50) (.tmp 52) 22 48 (.agg #[(.int .u8 0), (.int .i64 0), (.int .i64 0), (.int .i64 0), (.int .i64 0)]) 40 rfl Tryd.underlying22 info48 rfl (by decide) (by omega) (.slice Ao out.length co) out i [.int .u8 i.f0, .int .i64 i.f1, .int .i64 i.f2, .int .i64 i.f3, .int .i64 i.f4] (fun k_ => k_ ≠ w.heap.size) (fun _ => False) rfl (by first | (go_simp; done) | (go_simp; rfl)) (k48_mkM _ _ _ i) (fun _ hk => hk.elim) (fun k hk => Nat.ne_of_gt (Nat.lt_of_lt_of_le HI4.out.lt hk)) HI4.out.row HI4.out.below HI4.out.below.size (cap_bound out hout) ?_; intro v1 w5 ho hb5 hg5 hat; have HI5 := Aside0.mk (HI4.out.grow HE.out ho hb5 hg5); clear ho hb5 hg5 hat))
              go_roundw
              case rel => exact ⟨j + 1, out ++ [i], hlt, rfl, len_next out i hout hfull, HQ2, HI5⟩
              case measure => exact idx_meas' j _ hlt
      · have e : j = ls.length := Nat.le_antisymm hj (Nat.not_lt.1 hlt)
        subst e
        have hq := HQ.out
        rw [List.drop_of_length_le (by simp [bytesOf]), parseGo] at hq
        injection hq with e1 e2
        injection e2 with e2 e3
        subst e1 e2 e3
        go_wp2
        go_ret3
        exact ⟨_, rfl, Kd.R_mono HI.out.row (fun _ _ => trivial), HI.out.below⟩

/-! ### in the printed form -/
def asm_Parse.f (a0 : ByteArray) : Option (List S48 × Int × Int) := some (parseL a0.data.toList)
theorem asm_Parse.calls (a0 : ByteArray) (r1 : List S48) (r2 r3 : Int) (w : World) (h : asm_Parse.f a0 = some (r1, r2, r3)) (hE : EnvW w) :
    Calls Tryd.prog 16 #[.string a0] w fun e w' => ∃ v0_, e = .returned (.tuple #[v0_, .int .i64 r2, .int .i64 r3]) ∧ Kd.R k48 48 w' w.heap.size (fun _ => True) v0_ r1 ∧ Below w.heap.size w w' :=
  Parse_calls a0 w r1 r2 r3 hE (Option.some.inj h)
end Go.Proofs.YtmgafakahbanaaaDoor.Pa
