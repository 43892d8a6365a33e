/- The plain law AsmFull: what the functions answer, in plain words. -/
import Derived.Test.YtmgafakahbanaaaDoorPcx2
import Derived.Test.YtmgafakahbanaaaDoorE3
import Derived.Test.YtmgafakahbanaaaDoorPdx2
import Derived.Test.YtmgafakahbanaaaDoorPdx5
namespace Go.Proofs.YtmgafakahbanaaaDoor.Pa
open Go.RowKit Go.Proofs.YtmgafakahbanaaaDoorW.PrintWords Go.Proofs.YtmgafakahbanaaaDoorW.PrintLast Go.Proofs.YtmgafakahbanaaaDoorW.PrintMore
set_option linter.unusedVariables false
set_option linter.unusedSimpArgs false
theorem awake_eval : ontimelaw05_awake.f = some true := by kernel_rfl
theorem format_eval (l : List S48) (hok : ∀ i ∈ l, opOk i = true) : asm_Format.f l = some (fmtL l) := by
  unfold asm_Format.f
  rw [if_pos (List.all_eq_true.2 hok)]
theorem fmtL_yes (l : List S48) (hl : l.length ≤ 4096) (hv : l.all validB = true) : fmtL l = (str (textL l), 0) := by
  unfold fmtL
  rw [if_neg (by omega), if_pos hv]
theorem wrap_next (i N : Nat) (h : i < N) (hn : N ≤ 100000000) : wrap64 ((i : Int) + 1) = ((i + 1 : Nat) : Int) := by unfold wrap64; omega
theorem dec_len : ∀ (k u : Nat), u < 10 ^ (k + 1) → (Lib.decDigits u).length ≤ k + 1
  | 0, u, h => by
    have h10 : u < 10 := by simpa using h
    rw [Lib.decDigits, dif_pos h10]
    simp
  | k + 1, u, h => by
    by_cases h10 : u < 10
    · rw [Lib.decDigits, dif_pos h10]
      simp
    · rw [Lib.decDigits, dif_neg h10]
      have h2 : u / 10 < 10 ^ (k + 1) := by rw [Nat.pow_succ] at h; omega
      have := dec_len k (u / 10) h2
      simp
      omega
theorem itoa_len6 (n : Int) (h0 : -200000 ≤ n) (h1 : n ≤ 200000) : (Lib.itoa n).length ≤ 8 := by
  have key : ∀ u : Nat, u ≤ 200000 → (Lib.decDigits u).length ≤ 6 := fun u hu => by
    exact dec_len 5 u (by have : (10 : Nat) ^ (5 + 1) = 1000000 := rfl; omega)
  by_cases hn : n < 0
  · obtain ⟨u, rfl⟩ : ∃ u : Nat, n = -(u : Int) := ⟨n.natAbs, by omega⟩
    rw [Lib.itoa_neg u (by omega)]
    have := key u (by omega)
    simp
    omega
  · obtain ⟨u, rfl⟩ : ∃ u : Nat, n = (u : Int) := ⟨n.toNat, by omega⟩
    rw [Lib.itoa_nonneg]
    have := key u (by omega)
    omega
theorem nn (n : Nat) : (0 : Int) ≤ (n : Int) := by omega
def plainB (b : UInt8) : Bool := b != 9 && b != 10 && b != 32 && b != 59
def mnemPlain : Bool := (List.range 30).all fun n => (mnem (n : Int)).all plainB && decide (mnem (n : Int) ≠ []) && decide ((mnem (n : Int)).length ≤ 10)
theorem mnemPlain_all : mnemPlain = true := by kernel_rfl
theorem mnem_facts (op : Int) (h0 : 0 ≤ op) (h1 : op < 30) : (mnem op).all plainB = true ∧ mnem op ≠ [] ∧ (mnem op).length ≤ 10 := by
  have h := List.all_eq_true.1 mnemPlain_all op.toNat (by simp; omega)
  rw [show ((op.toNat : Nat) : Int) = op by omega] at h
  simp only [Bool.and_eq_true, decide_eq_true_eq] at h
  exact ⟨h.1.1, h.1.2, h.2⟩
theorem itoa_plain (n : Int) : (Lib.itoa n).all plainB = true := by
  rw [List.all_eq_true]
  intro b hb
  have h := Num.itoa_bytes n b hb
  have e : ∀ c : UInt8, b = c → b.toNat = c.toNat := fun c h => by rw [h]
  simp only [plainB, Bool.and_eq_true, bne_iff_ne, ne_eq]
  refine ⟨⟨⟨fun hc => ?_, fun hc => ?_⟩, fun hc => ?_⟩, fun hc => ?_⟩
  all_goals
    subst hc
    rcases h with h | ⟨h, h'⟩
    · exact absurd h (by decide)
    · first
        | exact absurd h (by decide)
        | exact absurd h' (by decide)
theorem opWord_facts (i : S48) (h0 : 0 ≤ i.f0) (hv : validB i = true) (c : Int) : (opWord i c).all plainB = true ∧ opWord i c ≠ [] ∧ (opWord i c).length ≤ 9 := by
  have hb5 := valid_bound i h0 hv 105
  have hbc := valid_bound i h0 hv c
  have e5 : xF i 105 = i.f4 := rfl
  rw [e5] at hb5
  unfold opWord
  split
  · exact ⟨itoa_plain _, Num.itoa_ne _, by have := itoa_len6 i.f4 hb5.1 hb5.2; omega⟩
  · refine ⟨?_, by simp, by have := itoa_len6 (xF i c) hbc.1 hbc.2; simp; omega⟩
    rw [List.all_cons, itoa_plain]
    rfl
theorem plain_blank {l : List UInt8} (h : l.all plainB = true) : ∀ b ∈ l, blankB b = false := fun b hb => by
  have := List.all_eq_true.1 h b hb
  simp only [plainB, Bool.and_eq_true, bne_iff_ne, ne_eq] at this
  simp [blankB, this.1.1.1, this.1.2]
theorem plain_no {l : List UInt8} (h : l.all plainB = true) : (10 : UInt8) ∉ l ∧ (59 : UInt8) ∉ l := by
  constructor
  · intro hm
    have := List.all_eq_true.1 h _ hm
    simp [plainB] at this
  · intro hm
    have := List.all_eq_true.1 h _ hm
    simp [plainB] at this
theorem fields_words : ∀ (ws : List (List UInt8)) (cur : List UInt8), (∀ w ∈ ws, w.all plainB = true ∧ w ≠ []) → fieldsGo cur (spaced ws) = (if cur = [] then [] else [cur]) ++ ws
  | [], cur, _ => by simp [spaced, fieldsGo]
  | w :: ws, cur, h => by
    have hw := h w List.mem_cons_self
    have e : spaced (w :: ws) = 32 :: (w ++ spaced ws) := by simp [spaced]
    have ih := fields_words ws w (fun v hv => h v (List.mem_cons_of_mem _ hv))
    rw [if_neg hw.2] at ih
    have hs : fieldsGo [] (w ++ spaced ws) = [w] ++ ws := by
      rw [fieldsGo_skip w [] _ (plain_blank hw.1), List.nil_append, ih]
    rw [e, fieldsGo, if_pos (show blankB 32 = true from rfl), hs]
    by_cases hc : cur = []
    · rw [if_pos hc, if_pos hc]; rfl
    · rw [if_neg hc, if_neg hc]; rfl
theorem line_words (i : S48) (h0 : 0 ≤ i.f0) (hv : validB i = true) : ∀ w ∈ mnem i.f0 :: opWords i, w.all plainB = true ∧ w ≠ [] := by
  intro w hw
  rcases List.mem_cons.1 hw with rfl | hw
  · have := mnem_facts i.f0 h0 (valid_parts i hv).1
    exact ⟨this.1, this.2.1⟩
  · simp only [opWords, List.mem_map] at hw
    obtain ⟨c, _, rfl⟩ := hw
    have := opWord_facts i h0 hv c
    exact ⟨this.1, this.2.1⟩
theorem spaced_no (ws : List (List UInt8)) (h : ∀ w ∈ ws, w.all plainB = true) (b : UInt8) (hb : b = 10 ∨ b = 59) : b ∉ spaced ws := by
  intro hm
  simp only [spaced, List.mem_flatMap] at hm
  obtain ⟨w, hw, hm⟩ := hm
  rcases List.mem_cons.1 hm with e | hm
  · rcases hb with rfl | rfl <;> exact absurd e (by decide)
  · have := plain_no (h w hw)
    rcases hb with rfl | rfl
    · exact this.1 hm
    · exact this.2 hm
theorem lineL_no (i : S48) (h0 : 0 ≤ i.f0) (hv : validB i = true) : (10 : UInt8) ∉ lineL i ∧ (59 : UInt8) ∉ lineL i := by
  have hw := line_words i h0 hv
  have h1 := plain_no (hw _ List.mem_cons_self).1
  have h2 := spaced_no (opWords i) (fun w h => (hw w (List.mem_cons_of_mem _ h)).1)
  unfold lineL
  constructor
  · intro hm
    rcases List.mem_append.1 hm with hm | hm
    · exact h1.1 hm
    · exact h2 10 (.inl rfl) hm
  · intro hm
    rcases List.mem_append.1 hm with hm | hm
    · exact h1.2 hm
    · exact h2 59 (.inr rfl) hm
theorem wordsL_line (i : S48) (h0 : 0 ≤ i.f0) (hv : validB i = true) : wordsL (lineL i) = mnem i.f0 :: opWords i := by
  have hw := line_words i h0 hv
  have hm := hw _ List.mem_cons_self
  have hc : codeL (lineL i) = lineL i := takeWhile_all 59 _ (lineL_no i h0 hv).2
  unfold wordsL
  rw [hc]
  unfold lineL
  rw [fieldsGo_skip _ [] _ (plain_blank hm.1), List.nil_append, fields_words _ _ (fun w h => hw w (List.mem_cons_of_mem _ h)), if_neg hm.2]
  rfl
theorem decO_line (i : S48) (h0 : 0 ≤ i.f0) (hv : validB i = true) : decO (wordsL (lineL i)) = some i := by
  rw [wordsL_line i h0 hv]
  exact decO_some.2 ⟨h0, hv, rfl⟩
theorem linesL_line (a rest : List UInt8) (h : (10 : UInt8) ∉ a) : linesL (a ++ 10 :: rest) = a :: linesL rest := by
  induction a with
  | nil => simp [linesL]
  | cons b a ih =>
    have hb : ¬ b = 10 := fun e => h (by simp [e])
    rw [List.cons_append, linesL, if_neg hb, ih (fun hm => h (List.mem_cons_of_mem _ hm))]
theorem textL_cons (i : S48) (l : List S48) (s : List UInt8) : textL (i :: l) ++ s = lineL i ++ 10 :: (textL l ++ s) := by simp [textL]
theorem parse_text : ∀ (l : List S48) (s : List UInt8) (n : Nat) (out : List S48), (∀ i ∈ l, 0 ≤ i.f0 ∧ validB i = true) → out.length + l.length ≤ 4096 →
    parseGo (linesL (textL l ++ s)) n out = parseGo (linesL s) (n + l.length) (out ++ l)
  | [], s, n, out, _, _ => by simp [textL]
  | i :: l, s, n, out, h, hl => by
    have hi := h i List.mem_cons_self
    have hne : ¬ wordsL (lineL i) = [] := by rw [wordsL_line i hi.1 hi.2]; simp
    simp only [List.length_cons] at hl
    rw [textL_cons, linesL_line _ _ (lineL_no i hi.1 hi.2).1, parseGo, if_neg hne, decO_line i hi.1 hi.2]
    simp only
    rw [if_neg (by omega), parse_text l s (n + 1) (out ++ [i]) (fun j hj => h j (List.mem_cons_of_mem _ hj)) (by simp; omega)]
    rw [List.append_assoc, List.length_cons, show n + 1 + l.length = n + (l.length + 1) by omega]
    rfl
theorem parseL_text (l : List S48) (h : ∀ i ∈ l, 0 ≤ i.f0 ∧ validB i = true) (hl : l.length ≤ 4096) (ht : (textL l).length ≤ 65536) : parseL (textL l) = (l, 0, 0) := by
  unfold parseL
  rw [if_neg (by omega)]
  have := parse_text l [] 0 [] h (by simpa using hl)
  rw [List.append_nil] at this
  rw [this, List.nil_append]
  rfl
theorem parseL_small (s : List UInt8) (h : s.length ≤ 65536) : parseL s = parseGo (linesL s) 0 [] := by
  unfold parseL
  rw [if_neg (by omega)]
theorem fieldsGo_cons (cur : List UInt8) (b : UInt8) (l : List UInt8) : fieldsGo cur (b :: l) = if blankB b = true then (if cur = [] then fieldsGo [] l else cur :: fieldsGo [] l) else fieldsGo (cur ++ [b]) l := by rw [fieldsGo]
theorem lt_int (i n : Nat) (h : i < n) : (i : Int) < (n : Int) := by omega
theorem fields_blank (b : UInt8) (hb : blankB b = true) (l : List UInt8) : fieldsGo [] (b :: l) = fieldsGo [] l := by
  rw [fieldsGo_cons, if_pos hb, if_pos rfl]
theorem fields_lead : ∀ (bl l : List UInt8), (∀ b ∈ bl, blankB b = true) → fieldsGo [] (bl ++ l) = fieldsGo [] l
  | [], l, _ => rfl
  | b :: bl, l, h => by
    rw [List.cons_append, fields_blank b (h b List.mem_cons_self), fields_lead bl l (fun c hc => h c (List.mem_cons_of_mem _ hc))]
theorem check_at (l : List S48) (hok : ∀ i ∈ l, opOk i = true) (k : Nat) (hk : l.length < k) : asm_check.f k l = some (if 4096 < l.length then 5 else if l.all validB = true then 0 else 3) := by
  unfold asm_check.f
  by_cases h : l.length ≤ 4096
  · rw [if_neg (by omega), if_neg (by omega)]
    have := check_loop l hok h l.length k 0 (by omega) hk
    rw [List.drop_zero] at this
    exact this
  · rw [if_pos (by omega), if_pos (by omega)]
theorem z48_ok : (0 ≤ z48.f0 ∧ validB z48 = true) ∧ opOk z48 = true ∧ (lineL z48).length = 3 := by
  have h1 : validB z48 = true := by kernel_rfl
  have h2 : opOk z48 = true := by kernel_rfl
  have h3 : (lineL z48).length = 3 := by kernel_rfl
  exact ⟨⟨Int.le_refl _, h1⟩, h2, h3⟩
theorem zeros_text : ∀ l : List S48, (∀ i ∈ l, i = z48) → (textL l).length = 4 * l.length
  | [], _ => rfl
  | i :: l, h => by
    have hi := h i List.mem_cons_self
    have ih := zeros_text l fun j hj => h j (List.mem_cons_of_mem _ hj)
    have e := textL_cons i l []
    rw [List.append_nil, List.append_nil] at e
    rw [e, List.length_append, List.length_cons, List.length_cons, ih, hi, z48_ok.2.2]
    omega
theorem nop_words : wordsL [110, 111, 112] = [[110, 111, 112]] := by rfl
theorem nop_dec : decO (wordsL [110, 111, 112]) = some z48 := by
  have h : lineL z48 = [110, 111, 112] := by kernel_rfl
  rw [← h]
  exact decO_line z48 z48_ok.1.1 z48_ok.1.2
theorem nop_lines : linesL [110, 111, 112] = [[110, 111, 112]] := by rfl
theorem zeros_more (P : List S48) (h : ∀ i ∈ P, i = z48) (hP : P.length = 4096) : parseL (textL P ++ [110, 111, 112]) = ([], 4097, 5) := by
  have hg : ∀ i ∈ P, 0 ≤ i.f0 ∧ validB i = true := fun i hi => by rw [h i hi]; exact z48_ok.1
  have ht := zeros_text P h
  rw [parseL_small _ (by rw [List.length_append, ht, hP]; decide), parse_text P [110, 111, 112] 0 [] hg (by rw [List.length_nil]; omega), nop_lines, parseGo, if_neg (by rw [nop_words]; simp), nop_dec]
  simp only [List.nil_append]
  rw [if_pos hP, hP]
  rfl
theorem zeros_same (P : List S48) (h : ∀ i ∈ P, i = z48) (hP : P.length = 4096) : parseL (textL P) = (P, 0, 0) := by
  have hg : ∀ i ∈ P, 0 ≤ i.f0 ∧ validB i = true := fun i hi => by rw [h i hi]; exact z48_ok.1
  have ht := zeros_text P h
  exact parseL_text P hg (by omega) (by rw [ht, hP]; decide)
theorem blanks_parse (l : List UInt8) (h : ∀ b ∈ l, b = 32) (hl : l.length ≤ 65536) : (parseL l).2.2 = 0 := by
  have h10 : (10 : UInt8) ∉ l := fun hm => absurd (h _ hm) (by decide)
  have h59 : (59 : UInt8) ∉ l := fun hm => absurd (h _ hm) (by decide)
  have hw : wordsL l = [] := by
    have hc : codeL l = l := takeWhile_all 59 _ h59
    have := fields_lead l [] (fun b hb => by rw [h b hb]; rfl)
    rw [List.append_nil] at this
    unfold wordsL
    rw [hc, this]
    rfl
  rw [parseL_small l hl, linesL_none l h10, parseGo, if_pos hw]
  rfl
theorem long_parse (l : List UInt8) (h : 65536 < l.length) : parseL l = ([], 0, 5) := by
  unfold parseL
  rw [if_pos h]
theorem nums_len (xs : List Int) : (strOfNums xs).data.toList.length = xs.length := by simp [strOfNums]
theorem nums_blank (xs : List Int) (h : ∀ v ∈ xs, v = 32) : ∀ b ∈ (strOfNums xs).data.toList, b = 32 := by
  intro b hb
  simp only [strOfNums, List.mem_map] at hb
  obtain ⟨v, hv, rfl⟩ := hb
  rw [h v hv]
  rfl
theorem full_end (P : List S48) (hP : P.length = 4096) (x : List Int) (n : Nat) (hn : x.length = n) (h1 : 65536 < n) (h32 : ∀ v ∈ x, v = 32) (k : Nat) : ontimelaw05_AsmFull.l0 (k + 1) 0 5 4097 5 P 0 5 0 5 x (n : Int) = some true := by
  have e1 : parseL (strOfNums x).data.toList = ([], 0, 5) := long_parse _ (by rw [nums_len]; omega)
  have e2 : (parseL (strOfNums (x.take 65536)).data.toList).2.2 = 0 := blanks_parse _ (nums_blank _ fun v hv => h32 v (List.mem_of_mem_take hv)) (by rw [nums_len, List.length_take]; omega)
  have hPi : (P.length : Int) = 4096 := by omega
  have hx : (65536 : Int) ≤ (x.length : Int) := by omega
  rw [ontimelaw05_AsmFull.l0, if_neg (by omega)]
  unfold asm_Parse.f
  rw [Option.bind_some, if_pos hx, Option.bind_some, if_pos rfl, if_pos rfl, if_pos rfl, if_pos rfl, if_pos rfl, if_pos hPi, if_pos rfl, if_pos rfl, if_pos rfl, e1, if_pos rfl, if_pos rfl, e2]
  rfl
theorem fill_loop (P : List S48) (hP : P.length = 4096) (n : Nat) (h1 : 65536 < n) (hn2 : n ≤ 100000) : ∀ (d k j : Nat) (x : List Int), x.length = n → j + d = n → d < k → (∀ (i : Nat) (h : i < x.length), i < j → x[i] = 32) →
    ontimelaw05_AsmFull.l0 k 0 5 4097 5 P 0 5 0 5 x (j : Int) = some true := by
  intro d
  induction d with
  | zero =>
    intro k j x hx hj hk hi
    obtain ⟨k, rfl⟩ : ∃ m, k = m + 1 := ⟨k - 1, by omega⟩
    have e : j = n := by omega
    subst e
    refine full_end P hP x j hx h1 (fun v hv => ?_) k
    obtain ⟨i, hil, rfl⟩ := List.getElem_of_mem hv
    exact hi i hil (by omega)
  | succ d ih =>
    intro k j x hx hj hk hi
    obtain ⟨k, rfl⟩ : ∃ m, k = m + 1 := ⟨k - 1, by omega⟩
    have hlt : j < x.length := by omega
    rw [ontimelaw05_AsmFull.l0, if_pos (lt_int j _ hlt), if_pos (nn j), Int.toNat_natCast, wrap_next j n (by omega) (by omega)]
    refine ih k (j + 1) (x.set j 32) (by rw [List.length_set]; exact hx) (by omega) (by omega) (fun i hil hij => ?_)
    rw [List.getElem_set]
    by_cases e : j = i
    · rw [if_pos e]
    · rw [if_neg e]
      exact hi i (by rw [List.length_set] at hil; exact hil) (by omega)
theorem AsmFull_pure (a0 : Int) (ha : (Lit.int .u8 a0).wf = true) : ∃ k, ontimelaw05_AsmFull.f k a0 = some true := by
  have hab : 0 ≤ a0 ∧ a0 ≤ 255 := by
    simp [Lit.wf, IntKind.min, IntKind.max, IntKind.signed, IntKind.bits] at ha
    omega
  obtain ⟨K, hK⟩ : ∃ K : Nat, 100000 ≤ K := ⟨100000, Nat.le_refl _⟩
  refine ⟨K, ?_⟩
  unfold ontimelaw05_AsmFull.f
  rw [awake_eval, Option.bind_some, if_pos rfl, if_pos (show (4097 : Nat) ≤ 7036874417766 by decide)]
  have hRl : (List.replicate 4097 z48).length = 4097 := List.length_replicate
  have hRz : ∀ i ∈ List.replicate 4097 z48, i = z48 := fun i hi => List.eq_of_mem_replicate hi
  have hZl : (List.replicate 4097 (0 : Int)).length = 4097 := List.length_replicate
  generalize List.replicate 4097 z48 = R at *
  generalize List.replicate 4097 (0 : Int) = Z at *
  have hPl : (R.take 4096).length = 4096 := by rw [List.length_take, hRl]; decide
  have hPz : ∀ i ∈ R.take 4096, i = z48 := fun i hi => hRz i (List.mem_of_mem_take hi)
  have hlen : (4096 : Int) ≤ (R.length : Int) := by omega
  rw [Option.bind_some, if_pos hlen]
  generalize R.take 4096 = P at *
  have hRok : ∀ i ∈ R, opOk i = true := fun i hi => by rw [hRz i hi]; exact z48_ok.2.1
  have hPok : ∀ i ∈ P, opOk i = true := fun i hi => by rw [hPz i hi]; exact z48_ok.2.1
  have hPv : P.all validB = true := by
    rw [List.all_eq_true]
    exact fun i hi => by rw [hPz i hi]; exact z48_ok.1.2
  have hfR : fmtL R = (⟨#[]⟩, 5) := by
    unfold fmtL
    rw [if_pos (by omega)]
  have ht := zeros_text P hPz
  have e3 : (⟨#[110, 111, 112]⟩ : ByteArray) = str [110, 111, 112] := rfl
  have hs3 : (str (textL P)).size + 3 ≤ 9223372036854775807 := by rw [str_size]; omega
  have hck := check_at R hRok K (by omega)
  rw [if_pos (by omega)] at hck
  have has : asm_Assemble.f K R = some ([], 5) := by
    unfold asm_Assemble.f
    rw [hck, Option.bind_some, if_neg (by decide)]
  have hds : asm_Disassemble.f K Z = some ([], 0, 5) := by
    unfold asm_Disassemble.f
    rw [if_pos (by omega)]
  have hw : wrap64 (65537 + wrap64 a0) = ((65537 + a0.toNat : Nat) : Int) := by unfold wrap64; omega
  have hw0 : (0 : Int) ≤ ((65537 + a0.toNat : Nat) : Int) := nn _
  have hw1 : ((65537 + a0.toNat : Nat) : Int).toNat ≤ 281474976710656 := by omega
  rw [format_eval P hPok, Option.bind_some, format_eval R hRok, Option.bind_some, fmtL_yes P (by omega) hPv, hfR]
  unfold asm_Parse.f
  dsimp only
  rw [if_pos hs3, Option.bind_some, Option.bind_some, e3, str_append, str_data, str_data, zeros_more P hPz hPl, zeros_same P hPz hPl, has, Option.bind_some, if_pos (show (4097 : Nat) ≤ 70368744177664 by decide), hds, Option.bind_some, hw, if_pos hw0, if_pos hw1]
  dsimp only
  rw [Int.toNat_natCast]
  exact fill_loop P hPl (65537 + a0.toNat) (by omega) (by omega) (65537 + a0.toNat) K 0 _ List.length_replicate (by omega) (by omega) (fun i _ h => by omega)
end Go.Proofs.YtmgafakahbanaaaDoor.Pa
