/- The plain law AsmFixed: what the functions answer, in plain words. -/
import Derived.Test.YtmgafakahbanaaaDoorPcx2
import Derived.Test.YtmgafakahbanaaaDoorPcx6
namespace Go.Proofs.YtmgafakahbanaaaDoor.Pa
open Go.RowKit Go.Proofs.YtmgafakahbanaaaDoorW.PrintWords Go.Proofs.YtmgafakahbanaaaDoorW.PrintLast Go.Proofs.YtmgafakahbanaaaDoorW.PrintMore
set_option linter.unusedVariables false
set_option linter.unusedSimpArgs false
theorem awake_eval : ontimelaw05_awake.f = some true := by kernel_rfl
theorem rd_T48_at (l : List S48) (j : Nat) (h : j < l.length) : rd_T48 l (j : Int) = l[j] := by
  simp [rd_T48, List.getD, List.getElem?_eq_getElem h]
theorem valid_loop (l : List S48) (hl : l.length ≤ 1000000) (hok : ∀ i ∈ l, opOk i = true) : ∀ (d k j : Nat), j + d = l.length → d < k →
    ontimelaw05_valid.l0 k l (j : Int) = some (if (l.drop j).all validB = true then 1 else 0) := by
  intro d
  induction d with
  | zero =>
    intro k j hj hk
    obtain ⟨k, rfl⟩ : ∃ m, k = m + 1 := ⟨k - 1, by omega⟩
    simp only [ontimelaw05_valid.l0]
    rw [if_neg (by omega), List.drop_of_length_le (by omega)]
    rfl
  | succ d ih =>
    intro k j hj hk
    obtain ⟨k, rfl⟩ : ∃ m, k = m + 1 := ⟨k - 1, by omega⟩
    have hlt : j < l.length := by omega
    have ho := hok l[j] (List.getElem_mem hlt)
    simp only [opOk, Bool.and_eq_true, decide_eq_true_eq] at ho
    have hw : wrap64 ((j : Int) + 1) = ((j + 1 : Nat) : Int) := by unfold wrap64; omega
    simp only [ontimelaw05_valid.l0]
    rw [if_pos (by omega), if_pos (by omega), rd_T48_at l j hlt, hw, isa_Valid.f, if_pos ho, List.drop_eq_getElem_cons hlt, List.all_cons]
    simp only [Option.bind_some]
    by_cases hv : validB l[j] = true
    · rw [if_pos hv, ih k (j + 1) (by omega) (by omega), hv, Bool.true_and]
    · rw [if_neg hv]
      have : validB l[j] = false := by simpa using hv
      rw [this, Bool.false_and, if_neg (by simp)]
theorem valid_eval (l : List S48) (hl : l.length ≤ 1000000) (hok : ∀ i ∈ l, opOk i = true) (k : Nat) (hk : l.length < k) : ontimelaw05_valid.f k l = some (if l.all validB = true then 1 else 0) := by
  have := valid_loop l hl hok l.length k 0 (by omega) hk
  rw [List.drop_zero] at this
  exact this
theorem format_eval (l : List S48) (hok : ∀ i ∈ l, opOk i = true) : asm_Format.f l = some (fmtL l) := by
  unfold asm_Format.f
  rw [if_pos (List.all_eq_true.2 hok)]
theorem fmtL_yes (l : List S48) (hl : l.length ≤ 4096) (hv : l.all validB = true) : fmtL l = (str (textL l), 0) := by
  unfold fmtL
  rw [if_neg (by omega), if_pos hv]
theorem wrap_next (i N : Nat) (h : i < N) (hn : N ≤ 100000000) : wrap64 ((i : Int) + 1) = ((i + 1 : Nat) : Int) := by unfold wrap64; omega
theorem dec_len : ∀ (k u : Nat), u < 10 ^ (k + 1) → (Lib.decDigits u).length ≤ k + 1
  | 0, u, h => by
    have h10 : u < 10 := by simpa using h
    rw [Lib.decDigits, dif_pos h10]
    simp
  | k + 1, u, h => by
    by_cases h10 : u < 10
    · rw [Lib.decDigits, dif_pos h10]
      simp
    · rw [Lib.decDigits, dif_neg h10]
      have h2 : u / 10 < 10 ^ (k + 1) := by rw [Nat.pow_succ] at h; omega
      have := dec_len k (u / 10) h2
      simp
      omega
theorem itoa_len6 (n : Int) (h0 : -200000 ≤ n) (h1 : n ≤ 200000) : (Lib.itoa n).length ≤ 8 := by
  have key : ∀ u : Nat, u ≤ 200000 → (Lib.decDigits u).length ≤ 6 := fun u hu => by
    exact dec_len 5 u (by have : (10 : Nat) ^ (5 + 1) = 1000000 := rfl; omega)
  by_cases hn : n < 0
  · obtain ⟨u, rfl⟩ : ∃ u : Nat, n = -(u : Int) := ⟨n.natAbs, by omega⟩
    rw [Lib.itoa_neg u (by omega)]
    have := key u (by omega)
    simp
    omega
  · obtain ⟨u, rfl⟩ : ∃ u : Nat, n = (u : Int) := ⟨n.toNat, by omega⟩
    rw [Lib.itoa_nonneg]
    have := key u (by omega)
    omega
theorem same_loop (l : List S48) (hl : l.length ≤ 1000000) : ∀ (d k j : Nat), j + d = l.length → d < k → ontimeref05_Same.l0 k l l (j : Int) = some true := by
  intro d
  induction d with
  | zero =>
    intro k j hj hk
    obtain ⟨k, rfl⟩ : ∃ m, k = m + 1 := ⟨k - 1, by omega⟩
    simp only [ontimeref05_Same.l0]
    rw [if_neg (by omega)]
  | succ d ih =>
    intro k j hj hk
    obtain ⟨k, rfl⟩ : ∃ m, k = m + 1 := ⟨k - 1, by omega⟩
    simp only [ontimeref05_Same.l0, beq_self_eq_true, Bool.not_true, Bool.or_self]
    rw [if_pos (by omega), if_pos (by omega), if_pos (by omega), if_neg (by simp), wrap_next j l.length (by omega) (by omega)]
    exact ih k (j + 1) (by omega) (by omega)
theorem same_self (l : List S48) (hl : l.length ≤ 1000000) (k : Nat) (hk : l.length < k) : ontimeref05_Same.f k l l = some true := by
  unfold ontimeref05_Same.f
  rw [if_pos rfl]
  exact same_loop l hl l.length k 0 (by omega) hk
theorem parseGo_len : ∀ (ls : List (List UInt8)) (n : Nat) (out : List S48), out.length ≤ 4096 → (parseGo ls n out).1.length ≤ 4096
  | [], n, out, h => h
  | l :: ls, n, out, h => by
    rw [parseGo]
    split
    · exact parseGo_len ls _ _ h
    · split
      · simp
      · split
        · simp
        · rename_i hne
          exact parseGo_len ls _ _ (by simp; omega)
theorem parseL_len (s : List UInt8) : (parseL s).1.length ≤ 4096 := by
  unfold parseL
  split
  · simp
  · exact parseGo_len _ _ _ (by simp)
def plainB (b : UInt8) : Bool := b != 9 && b != 10 && b != 32 && b != 59
def mnemPlain : Bool := (List.range 30).all fun n => (mnem (n : Int)).all plainB && decide (mnem (n : Int) ≠ []) && decide ((mnem (n : Int)).length ≤ 10)
theorem mnemPlain_all : mnemPlain = true := by kernel_rfl
theorem mnem_facts (op : Int) (h0 : 0 ≤ op) (h1 : op < 30) : (mnem op).all plainB = true ∧ mnem op ≠ [] ∧ (mnem op).length ≤ 10 := by
  have h := List.all_eq_true.1 mnemPlain_all op.toNat (by simp; omega)
  rw [show ((op.toNat : Nat) : Int) = op by omega] at h
  simp only [Bool.and_eq_true, decide_eq_true_eq] at h
  exact ⟨h.1.1, h.1.2, h.2⟩
theorem itoa_plain (n : Int) : (Lib.itoa n).all plainB = true := by
  rw [List.all_eq_true]
  intro b hb
  have h := Num.itoa_bytes n b hb
  have e : ∀ c : UInt8, b = c → b.toNat = c.toNat := fun c h => by rw [h]
  simp only [plainB, Bool.and_eq_true, bne_iff_ne, ne_eq]
  refine ⟨⟨⟨fun hc => ?_, fun hc => ?_⟩, fun hc => ?_⟩, fun hc => ?_⟩
  all_goals
    subst hc
    rcases h with h | ⟨h, h'⟩
    · exact absurd h (by decide)
    · first
        | exact absurd h (by decide)
        | exact absurd h' (by decide)
theorem opWord_facts (i : S48) (h0 : 0 ≤ i.f0) (hv : validB i = true) (c : Int) : (opWord i c).all plainB = true ∧ opWord i c ≠ [] ∧ (opWord i c).length ≤ 9 := by
  have hb5 := valid_bound i h0 hv 105
  have hbc := valid_bound i h0 hv c
  have e5 : xF i 105 = i.f4 := rfl
  rw [e5] at hb5
  unfold opWord
  split
  · exact ⟨itoa_plain _, Num.itoa_ne _, by have := itoa_len6 i.f4 hb5.1 hb5.2; omega⟩
  · refine ⟨?_, by simp, by have := itoa_len6 (xF i c) hbc.1 hbc.2; simp; omega⟩
    rw [List.all_cons, itoa_plain]
    rfl
theorem plain_blank {l : List UInt8} (h : l.all plainB = true) : ∀ b ∈ l, blankB b = false := fun b hb => by
  have := List.all_eq_true.1 h b hb
  simp only [plainB, Bool.and_eq_true, bne_iff_ne, ne_eq] at this
  simp [blankB, this.1.1.1, this.1.2]
theorem plain_no {l : List UInt8} (h : l.all plainB = true) : (10 : UInt8) ∉ l ∧ (59 : UInt8) ∉ l := by
  constructor
  · intro hm
    have := List.all_eq_true.1 h _ hm
    simp [plainB] at this
  · intro hm
    have := List.all_eq_true.1 h _ hm
    simp [plainB] at this
theorem fields_words : ∀ (ws : List (List UInt8)) (cur : List UInt8), (∀ w ∈ ws, w.all plainB = true ∧ w ≠ []) → fieldsGo cur (spaced ws) = (if cur = [] then [] else [cur]) ++ ws
  | [], cur, _ => by simp [spaced, fieldsGo]
  | w :: ws, cur, h => by
    have hw := h w List.mem_cons_self
    have e : spaced (w :: ws) = 32 :: (w ++ spaced ws) := by simp [spaced]
    have ih := fields_words ws w (fun v hv => h v (List.mem_cons_of_mem _ hv))
    rw [if_neg hw.2] at ih
    have hs : fieldsGo [] (w ++ spaced ws) = [w] ++ ws := by
      rw [fieldsGo_skip w [] _ (plain_blank hw.1), List.nil_append, ih]
    rw [e, fieldsGo, if_pos (show blankB 32 = true from rfl), hs]
    by_cases hc : cur = []
    · rw [if_pos hc, if_pos hc]; rfl
    · rw [if_neg hc, if_neg hc]; rfl
theorem line_words (i : S48) (h0 : 0 ≤ i.f0) (hv : validB i = true) : ∀ w ∈ mnem i.f0 :: opWords i, w.all plainB = true ∧ w ≠ [] := by
  intro w hw
  rcases List.mem_cons.1 hw with rfl | hw
  · have := mnem_facts i.f0 h0 (valid_parts i hv).1
    exact ⟨this.1, this.2.1⟩
  · simp only [opWords, List.mem_map] at hw
    obtain ⟨c, _, rfl⟩ := hw
    have := opWord_facts i h0 hv c
    exact ⟨this.1, this.2.1⟩
theorem spaced_no (ws : List (List UInt8)) (h : ∀ w ∈ ws, w.all plainB = true) (b : UInt8) (hb : b = 10 ∨ b = 59) : b ∉ spaced ws := by
  intro hm
  simp only [spaced, List.mem_flatMap] at hm
  obtain ⟨w, hw, hm⟩ := hm
  rcases List.mem_cons.1 hm with e | hm
  · rcases hb with rfl | rfl <;> exact absurd e (by decide)
  · have := plain_no (h w hw)
    rcases hb with rfl | rfl
    · exact this.1 hm
    · exact this.2 hm
theorem lineL_no (i : S48) (h0 : 0 ≤ i.f0) (hv : validB i = true) : (10 : UInt8) ∉ lineL i ∧ (59 : UInt8) ∉ lineL i := by
  have hw := line_words i h0 hv
  have h1 := plain_no (hw _ List.mem_cons_self).1
  have h2 := spaced_no (opWords i) (fun w h => (hw w (List.mem_cons_of_mem _ h)).1)
  unfold lineL
  constructor
  · intro hm
    rcases List.mem_append.1 hm with hm | hm
    · exact h1.1 hm
    · exact h2 10 (.inl rfl) hm
  · intro hm
    rcases List.mem_append.1 hm with hm | hm
    · exact h1.2 hm
    · exact h2 59 (.inr rfl) hm
theorem wordsL_line (i : S48) (h0 : 0 ≤ i.f0) (hv : validB i = true) : wordsL (lineL i) = mnem i.f0 :: opWords i := by
  have hw := line_words i h0 hv
  have hm := hw _ List.mem_cons_self
  have hc : codeL (lineL i) = lineL i := takeWhile_all 59 _ (lineL_no i h0 hv).2
  unfold wordsL
  rw [hc]
  unfold lineL
  rw [fieldsGo_skip _ [] _ (plain_blank hm.1), List.nil_append, fields_words _ _ (fun w h => hw w (List.mem_cons_of_mem _ h)), if_neg hm.2]
  rfl
theorem decO_line (i : S48) (h0 : 0 ≤ i.f0) (hv : validB i = true) : decO (wordsL (lineL i)) = some i := by
  rw [wordsL_line i h0 hv]
  exact decO_some.2 ⟨h0, hv, rfl⟩
theorem linesL_line (a rest : List UInt8) (h : (10 : UInt8) ∉ a) : linesL (a ++ 10 :: rest) = a :: linesL rest := by
  induction a with
  | nil => simp [linesL]
  | cons b a ih =>
    have hb : ¬ b = 10 := fun e => h (by simp [e])
    rw [List.cons_append, linesL, if_neg hb, ih (fun hm => h (List.mem_cons_of_mem _ hm))]
theorem textL_cons (i : S48) (l : List S48) (s : List UInt8) : textL (i :: l) ++ s = lineL i ++ 10 :: (textL l ++ s) := by simp [textL]
theorem parse_text : ∀ (l : List S48) (s : List UInt8) (n : Nat) (out : List S48), (∀ i ∈ l, 0 ≤ i.f0 ∧ validB i = true) → out.length + l.length ≤ 4096 →
    parseGo (linesL (textL l ++ s)) n out = parseGo (linesL s) (n + l.length) (out ++ l)
  | [], s, n, out, _, _ => by simp [textL]
  | i :: l, s, n, out, h, hl => by
    have hi := h i List.mem_cons_self
    have hne : ¬ wordsL (lineL i) = [] := by rw [wordsL_line i hi.1 hi.2]; simp
    simp only [List.length_cons] at hl
    rw [textL_cons, linesL_line _ _ (lineL_no i hi.1 hi.2).1, parseGo, if_neg hne, decO_line i hi.1 hi.2]
    simp only
    rw [if_neg (by omega), parse_text l s (n + 1) (out ++ [i]) (fun j hj => h j (List.mem_cons_of_mem _ hj)) (by simp; omega)]
    rw [List.append_assoc, List.length_cons, show n + 1 + l.length = n + (l.length + 1) by omega]
    rfl
theorem parseL_text (l : List S48) (h : ∀ i ∈ l, 0 ≤ i.f0 ∧ validB i = true) (hl : l.length ≤ 4096) (ht : (textL l).length ≤ 65536) : parseL (textL l) = (l, 0, 0) := by
  unfold parseL
  rw [if_neg (by omega)]
  have := parse_text l [] 0 [] h (by simpa using hl)
  rw [List.append_nil] at this
  rw [this, List.nil_append]
  rfl
theorem lineL_len (i : S48) (h0 : 0 ≤ i.f0) (hv : validB i = true) : (lineL i).length ≤ 40 := by
  have h1 := (mnem_facts i.f0 h0 (valid_parts i hv).1).2.2
  have h2 := (cls_facts i.f0 h0 (valid_parts i hv).1).2.2.2.1
  have key : ∀ ws : List (List UInt8), (∀ w ∈ ws, w.length ≤ 9) → (spaced ws).length ≤ 10 * ws.length := by
    intro ws
    induction ws with
    | nil => intro _; simp [spaced]
    | cons w ws ih =>
      intro h
      have a := h w List.mem_cons_self
      have b := ih fun v hv => h v (List.mem_cons_of_mem _ hv)
      simp only [spaced, List.flatMap_cons, List.length_append, List.length_cons] at b ⊢
      omega
  have h3 := key (opWords i) (fun w hw => by
    simp only [opWords, List.mem_map] at hw
    obtain ⟨c, _, rfl⟩ := hw
    exact (opWord_facts i h0 hv c).2.2)
  have h4 : (opWords i).length = (shapeI i.f0).length := by simp [opWords]
  unfold lineL
  rw [List.length_append]
  omega
theorem textL_len : ∀ (l : List S48), (∀ i ∈ l, 0 ≤ i.f0 ∧ validB i = true) → (textL l).length ≤ 41 * l.length
  | [], _ => by simp [textL]
  | i :: l, h => by
    have hi := h i List.mem_cons_self
    have h1 := lineL_len i hi.1 hi.2
    have h2 := textL_len l fun j hj => h j (List.mem_cons_of_mem _ hj)
    have e := textL_cons i l []
    rw [List.append_nil, List.append_nil] at e
    rw [e, List.length_append, List.length_cons, List.length_cons]
    omega
/-- What Parse returns is valid, and no longer than the lines. -/
theorem parseGo_good : ∀ (ls : List (List UInt8)) (n : Nat) (out : List S48), (∀ i ∈ out, 0 ≤ i.f0 ∧ validB i = true) → (∀ i ∈ (parseGo ls n out).1, 0 ≤ i.f0 ∧ validB i = true) ∧ (parseGo ls n out).1.length ≤ out.length + ls.length ∧ ((parseGo ls n out).2.2 = 0 ∧ (parseGo ls n out).2.1 = 0 ∨ (parseGo ls n out).1 = [] ∧ (parseGo ls n out).2.2 ≠ 0 ∧ (n : Int) + 1 ≤ (parseGo ls n out).2.1)
  | [], n, out, h => by
    rw [parseGo]
    exact ⟨h, by simp, .inl ⟨rfl, rfl⟩⟩
  | l :: ls, n, out, h => by
    rw [parseGo]
    split
    · obtain ⟨a, b, c⟩ := parseGo_good ls (n + 1) out h
      refine ⟨a, by simp; omega, ?_⟩
      rcases c with c | ⟨c1, c2, c3⟩
      · exact .inl c
      · exact .inr ⟨c1, c2, by omega⟩
    · cases hd : decO (wordsL l) with
      | none => exact ⟨fun i hi => (by cases hi), by simp, .inr ⟨rfl, show (3 : Int) ≠ 0 by decide, Int.le_refl _⟩⟩
      | some i =>
        simp only
        split
        · exact ⟨fun i hi => (by cases hi), by simp, .inr ⟨rfl, show (5 : Int) ≠ 0 by decide, Int.le_refl _⟩⟩
        · have hdec := decO_some.1 hd
          obtain ⟨a, b, c⟩ := parseGo_good ls (n + 1) (out ++ [i]) (fun j hj => by
            rcases List.mem_append.1 hj with hj | hj
            · exact h j hj
            · simp only [List.mem_singleton] at hj
              subst hj
              exact ⟨hdec.1, hdec.2.1⟩)
          refine ⟨a, by simp at b ⊢; omega, ?_⟩
          rcases c with c | ⟨c1, c2, c3⟩
          · exact .inl c
          · exact .inr ⟨c1, c2, by omega⟩
theorem linesL_len : ∀ l : List UInt8, (linesL l).length ≤ l.length + 1
  | [] => by simp [linesL]
  | b :: l => by
    have ih := linesL_len l
    unfold linesL
    split
    · simp; omega
    · split
      · rename_i x xs e
        rw [e] at ih
        simp at ih ⊢
        omega
      · simp
theorem parseL_good (s : List UInt8) : (∀ i ∈ (parseL s).1, 0 ≤ i.f0 ∧ validB i = true) ∧ (parseL s).1.length ≤ s.length + 1 ∧ ((parseL s).2.2 = 0 ∧ (parseL s).2.1 = 0 ∨ (parseL s).1 = [] ∧ (parseL s).2.2 ≠ 0) := by
  unfold parseL
  split
  · exact ⟨fun i hi => (by cases hi), by simp, .inr ⟨rfl, by decide⟩⟩
  · obtain ⟨a, b, c⟩ := parseGo_good (linesL s) 0 [] (fun i hi => by cases hi)
    have := linesL_len s
    refine ⟨a, by simp at b; omega, ?_⟩
    rcases c with c | ⟨c1, c2, _⟩
    · exact .inl c
    · exact .inr ⟨c1, c2⟩
theorem good_ok {l : List S48} (h : ∀ i ∈ l, 0 ≤ i.f0 ∧ validB i = true) : (∀ i ∈ l, opOk i = true) ∧ l.all validB = true := by
  constructor
  · intro i hi
    have h1 := h i hi
    have h2 := (valid_parts i h1.2).1
    simp only [opOk, Bool.and_eq_true, decide_eq_true_eq]
    omega
  · rw [List.all_eq_true]
    exact fun i hi => (h i hi).2
theorem good_fmt (l : List S48) (h : ∀ i ∈ l, 0 ≤ i.f0 ∧ validB i = true) (hl : l.length ≤ 1500) : asm_Format.f l = some (fmtL l) ∧ (fmtL l).2 = 0 ∧ (fmtL l).1 = str (textL l) ∧ parseL (fmtL l).1.data.toList = (l, 0, 0) := by
  have hok := good_ok h
  have ht := textL_len l h
  have e := fmtL_yes l (by omega) hok.2
  refine ⟨format_eval l hok.1, by rw [e], by rw [e], ?_⟩
  rw [e]
  exact parseL_text l h (by omega) (by omega)
theorem parseL_small (s : List UInt8) (h : s.length ≤ 65536) : parseL s = parseGo (linesL s) 0 [] := by
  unfold parseL
  rw [if_neg (by omega)]
theorem parseL_at (s : List UInt8) (h : s.length ≤ 65536) (he : ¬ (parseL s).2.2 = 0) : (parseL s).1 = [] ∧ 1 ≤ (parseL s).2.1 := by
  rw [parseL_small s h] at he ⊢
  obtain ⟨_, _, c⟩ := parseGo_good (linesL s) 0 [] (fun i hi => by cases hi)
  rcases c with c | ⟨c1, c2, c3⟩
  · exact absurd c.1 he
  · exact ⟨c1, by simpa using c3⟩
theorem AsmFixed_pure (a0 : ByteArray) : ∃ k, ontimelaw05_AsmFixed.f k a0 = some true := by
  obtain ⟨K, hK⟩ : ∃ K : Nat, 5000 ≤ K := ⟨5000, Nat.le_refl _⟩
  refine ⟨K, ?_⟩
  have hg := parseL_good a0.data.toList
  have hlen := parseL_len a0.data.toList
  have hsz := size_len a0
  unfold ontimelaw05_AsmFixed.f
  rw [awake_eval, Option.bind_some, if_pos rfl]
  by_cases h : (a0.size : Int) > 600
  · rw [if_pos h]
  · rw [if_neg h]
    have hat := parseL_at a0.data.toList (by omega)
    unfold asm_Parse.f
    rw [Option.bind_some]
    by_cases he : (parseL a0.data.toList).2.2 = 0
    · rw [if_pos he]
      have hl2 : (parseL a0.data.toList).1.length ≤ 1500 := by omega
      obtain ⟨h1, h2, h3, h4⟩ := good_fmt _ hg.1 hl2
      have hok := good_ok hg.1
      generalize (parseL a0.data.toList).1 = l at *
      rw [h1, Option.bind_some, h4, Option.bind_some]
      dsimp only
      rw [h1, Option.bind_some, if_pos h2, if_pos rfl, if_pos h2, same_self l (by omega) K (by omega), Option.bind_some, if_pos rfl, if_pos rfl, valid_eval l (by omega) hok.1 K (by omega), Option.bind_some, if_pos hok.2]
      rfl
    · obtain ⟨e1, e2⟩ := hat he
      rw [if_neg he, if_pos (by rw [e1]; rfl), decide_eq_true e2]
end Go.Proofs.YtmgafakahbanaaaDoor.Pa
