/- The plain law AsmJoins: what the functions answer, in plain words. -/
import Derived.Test.YtmgafakahbanaaaDoorPcx2
import Derived.Test.YtmgafakahbanaaaDoorPcx5
namespace Go.Proofs.YtmgafakahbanaaaDoor.Pa
open Go.RowKit Go.Proofs.YtmgafakahbanaaaDoorW.PrintWords Go.Proofs.YtmgafakahbanaaaDoorW.PrintLast Go.Proofs.YtmgafakahbanaaaDoorW.PrintMore
set_option linter.unusedVariables false
set_option linter.unusedSimpArgs false
theorem awake_eval : ontimelaw05_awake.f = some true := by kernel_rfl
theorem format_eval (l : List S48) (hok : ∀ i ∈ l, opOk i = true) : asm_Format.f l = some (fmtL l) := by
  unfold asm_Format.f
  rw [if_pos (List.all_eq_true.2 hok)]
theorem fmtL_yes (l : List S48) (hl : l.length ≤ 4096) (hv : l.all validB = true) : fmtL l = (str (textL l), 0) := by
  unfold fmtL
  rw [if_neg (by omega), if_pos hv]
theorem fmtL_no (l : List S48) (hl : l.length ≤ 4096) (hv : ¬ l.all validB = true) : fmtL l = (⟨#[]⟩, 3) := by
  unfold fmtL
  rw [if_neg (by omega), if_neg hv]
theorem wrap_next (i N : Nat) (h : i < N) (hn : N ≤ 100000000) : wrap64 ((i : Int) + 1) = ((i + 1 : Nat) : Int) := by unfold wrap64; omega
theorem dec_len : ∀ (k u : Nat), u < 10 ^ (k + 1) → (Lib.decDigits u).length ≤ k + 1
  | 0, u, h => by
    have h10 : u < 10 := by simpa using h
    rw [Lib.decDigits, dif_pos h10]
    simp
  | k + 1, u, h => by
    by_cases h10 : u < 10
    · rw [Lib.decDigits, dif_pos h10]
      simp
    · rw [Lib.decDigits, dif_neg h10]
      have h2 : u / 10 < 10 ^ (k + 1) := by rw [Nat.pow_succ] at h; omega
      have := dec_len k (u / 10) h2
      simp
      omega
theorem itoa_len6 (n : Int) (h0 : -200000 ≤ n) (h1 : n ≤ 200000) : (Lib.itoa n).length ≤ 8 := by
  have key : ∀ u : Nat, u ≤ 200000 → (Lib.decDigits u).length ≤ 6 := fun u hu => by
    exact dec_len 5 u (by have : (10 : Nat) ^ (5 + 1) = 1000000 := rfl; omega)
  by_cases hn : n < 0
  · obtain ⟨u, rfl⟩ : ∃ u : Nat, n = -(u : Int) := ⟨n.natAbs, by omega⟩
    rw [Lib.itoa_neg u (by omega)]
    have := key u (by omega)
    simp
    omega
  · obtain ⟨u, rfl⟩ : ∃ u : Nat, n = (u : Int) := ⟨n.toNat, by omega⟩
    rw [Lib.itoa_nonneg]
    have := key u (by omega)
    omega
theorem same_loop (l : List S48) (hl : l.length ≤ 1000000) : ∀ (d k j : Nat), j + d = l.length → d < k → ontimeref05_Same.l0 k l l (j : Int) = some true := by
  intro d
  induction d with
  | zero =>
    intro k j hj hk
    obtain ⟨k, rfl⟩ : ∃ m, k = m + 1 := ⟨k - 1, by omega⟩
    simp only [ontimeref05_Same.l0]
    rw [if_neg (by omega)]
  | succ d ih =>
    intro k j hj hk
    obtain ⟨k, rfl⟩ : ∃ m, k = m + 1 := ⟨k - 1, by omega⟩
    simp only [ontimeref05_Same.l0, beq_self_eq_true, Bool.not_true, Bool.or_self]
    rw [if_pos (by omega), if_pos (by omega), if_pos (by omega), if_neg (by simp), wrap_next j l.length (by omega) (by omega)]
    exact ih k (j + 1) (by omega) (by omega)
theorem same_self (l : List S48) (hl : l.length ≤ 1000000) (k : Nat) (hk : l.length < k) : ontimeref05_Same.f k l l = some true := by
  unfold ontimeref05_Same.f
  rw [if_pos rfl]
  exact same_loop l hl l.length k 0 (by omega) hk
def plainB (b : UInt8) : Bool := b != 9 && b != 10 && b != 32 && b != 59
def mnemPlain : Bool := (List.range 30).all fun n => (mnem (n : Int)).all plainB && decide (mnem (n : Int) ≠ []) && decide ((mnem (n : Int)).length ≤ 10)
theorem mnemPlain_all : mnemPlain = true := by kernel_rfl
theorem mnem_facts (op : Int) (h0 : 0 ≤ op) (h1 : op < 30) : (mnem op).all plainB = true ∧ mnem op ≠ [] ∧ (mnem op).length ≤ 10 := by
  have h := List.all_eq_true.1 mnemPlain_all op.toNat (by simp; omega)
  rw [show ((op.toNat : Nat) : Int) = op by omega] at h
  simp only [Bool.and_eq_true, decide_eq_true_eq] at h
  exact ⟨h.1.1, h.1.2, h.2⟩
theorem itoa_plain (n : Int) : (Lib.itoa n).all plainB = true := by
  rw [List.all_eq_true]
  intro b hb
  have h := Num.itoa_bytes n b hb
  have e : ∀ c : UInt8, b = c → b.toNat = c.toNat := fun c h => by rw [h]
  simp only [plainB, Bool.and_eq_true, bne_iff_ne, ne_eq]
  refine ⟨⟨⟨fun hc => ?_, fun hc => ?_⟩, fun hc => ?_⟩, fun hc => ?_⟩
  all_goals
    subst hc
    rcases h with h | ⟨h, h'⟩
    · exact absurd h (by decide)
    · first
        | exact absurd h (by decide)
        | exact absurd h' (by decide)
theorem opWord_facts (i : S48) (h0 : 0 ≤ i.f0) (hv : validB i = true) (c : Int) : (opWord i c).all plainB = true ∧ opWord i c ≠ [] ∧ (opWord i c).length ≤ 9 := by
  have hb5 := valid_bound i h0 hv 105
  have hbc := valid_bound i h0 hv c
  have e5 : xF i 105 = i.f4 := rfl
  rw [e5] at hb5
  unfold opWord
  split
  · exact ⟨itoa_plain _, Num.itoa_ne _, by have := itoa_len6 i.f4 hb5.1 hb5.2; omega⟩
  · refine ⟨?_, by simp, by have := itoa_len6 (xF i c) hbc.1 hbc.2; simp; omega⟩
    rw [List.all_cons, itoa_plain]
    rfl
theorem plain_blank {l : List UInt8} (h : l.all plainB = true) : ∀ b ∈ l, blankB b = false := fun b hb => by
  have := List.all_eq_true.1 h b hb
  simp only [plainB, Bool.and_eq_true, bne_iff_ne, ne_eq] at this
  simp [blankB, this.1.1.1, this.1.2]
theorem plain_no {l : List UInt8} (h : l.all plainB = true) : (10 : UInt8) ∉ l ∧ (59 : UInt8) ∉ l := by
  constructor
  · intro hm
    have := List.all_eq_true.1 h _ hm
    simp [plainB] at this
  · intro hm
    have := List.all_eq_true.1 h _ hm
    simp [plainB] at this
theorem fields_words : ∀ (ws : List (List UInt8)) (cur : List UInt8), (∀ w ∈ ws, w.all plainB = true ∧ w ≠ []) → fieldsGo cur (spaced ws) = (if cur = [] then [] else [cur]) ++ ws
  | [], cur, _ => by simp [spaced, fieldsGo]
  | w :: ws, cur, h => by
    have hw := h w List.mem_cons_self
    have e : spaced (w :: ws) = 32 :: (w ++ spaced ws) := by simp [spaced]
    have ih := fields_words ws w (fun v hv => h v (List.mem_cons_of_mem _ hv))
    rw [if_neg hw.2] at ih
    have hs : fieldsGo [] (w ++ spaced ws) = [w] ++ ws := by
      rw [fieldsGo_skip w [] _ (plain_blank hw.1), List.nil_append, ih]
    rw [e, fieldsGo, if_pos (show blankB 32 = true from rfl), hs]
    by_cases hc : cur = []
    · rw [if_pos hc, if_pos hc]; rfl
    · rw [if_neg hc, if_neg hc]; rfl
theorem line_words (i : S48) (h0 : 0 ≤ i.f0) (hv : validB i = true) : ∀ w ∈ mnem i.f0 :: opWords i, w.all plainB = true ∧ w ≠ [] := by
  intro w hw
  rcases List.mem_cons.1 hw with rfl | hw
  · have := mnem_facts i.f0 h0 (valid_parts i hv).1
    exact ⟨this.1, this.2.1⟩
  · simp only [opWords, List.mem_map] at hw
    obtain ⟨c, _, rfl⟩ := hw
    have := opWord_facts i h0 hv c
    exact ⟨this.1, this.2.1⟩
theorem spaced_no (ws : List (List UInt8)) (h : ∀ w ∈ ws, w.all plainB = true) (b : UInt8) (hb : b = 10 ∨ b = 59) : b ∉ spaced ws := by
  intro hm
  simp only [spaced, List.mem_flatMap] at hm
  obtain ⟨w, hw, hm⟩ := hm
  rcases List.mem_cons.1 hm with e | hm
  · rcases hb with rfl | rfl <;> exact absurd e (by decide)
  · have := plain_no (h w hw)
    rcases hb with rfl | rfl
    · exact this.1 hm
    · exact this.2 hm
theorem lineL_no (i : S48) (h0 : 0 ≤ i.f0) (hv : validB i = true) : (10 : UInt8) ∉ lineL i ∧ (59 : UInt8) ∉ lineL i := by
  have hw := line_words i h0 hv
  have h1 := plain_no (hw _ List.mem_cons_self).1
  have h2 := spaced_no (opWords i) (fun w h => (hw w (List.mem_cons_of_mem _ h)).1)
  unfold lineL
  constructor
  · intro hm
    rcases List.mem_append.1 hm with hm | hm
    · exact h1.1 hm
    · exact h2 10 (.inl rfl) hm
  · intro hm
    rcases List.mem_append.1 hm with hm | hm
    · exact h1.2 hm
    · exact h2 59 (.inr rfl) hm
theorem wordsL_line (i : S48) (h0 : 0 ≤ i.f0) (hv : validB i = true) : wordsL (lineL i) = mnem i.f0 :: opWords i := by
  have hw := line_words i h0 hv
  have hm := hw _ List.mem_cons_self
  have hc : codeL (lineL i) = lineL i := takeWhile_all 59 _ (lineL_no i h0 hv).2
  unfold wordsL
  rw [hc]
  unfold lineL
  rw [fieldsGo_skip _ [] _ (plain_blank hm.1), List.nil_append, fields_words _ _ (fun w h => hw w (List.mem_cons_of_mem _ h)), if_neg hm.2]
  rfl
theorem decO_line (i : S48) (h0 : 0 ≤ i.f0) (hv : validB i = true) : decO (wordsL (lineL i)) = some i := by
  rw [wordsL_line i h0 hv]
  exact decO_some.2 ⟨h0, hv, rfl⟩
theorem linesL_line (a rest : List UInt8) (h : (10 : UInt8) ∉ a) : linesL (a ++ 10 :: rest) = a :: linesL rest := by
  induction a with
  | nil => simp [linesL]
  | cons b a ih =>
    have hb : ¬ b = 10 := fun e => h (by simp [e])
    rw [List.cons_append, linesL, if_neg hb, ih (fun hm => h (List.mem_cons_of_mem _ hm))]
theorem textL_cons (i : S48) (l : List S48) (s : List UInt8) : textL (i :: l) ++ s = lineL i ++ 10 :: (textL l ++ s) := by simp [textL]
theorem parse_text : ∀ (l : List S48) (s : List UInt8) (n : Nat) (out : List S48), (∀ i ∈ l, 0 ≤ i.f0 ∧ validB i = true) → out.length + l.length ≤ 4096 →
    parseGo (linesL (textL l ++ s)) n out = parseGo (linesL s) (n + l.length) (out ++ l)
  | [], s, n, out, _, _ => by simp [textL]
  | i :: l, s, n, out, h, hl => by
    have hi := h i List.mem_cons_self
    have hne : ¬ wordsL (lineL i) = [] := by rw [wordsL_line i hi.1 hi.2]; simp
    simp only [List.length_cons] at hl
    rw [textL_cons, linesL_line _ _ (lineL_no i hi.1 hi.2).1, parseGo, if_neg hne, decO_line i hi.1 hi.2]
    simp only
    rw [if_neg (by omega), parse_text l s (n + 1) (out ++ [i]) (fun j hj => h j (List.mem_cons_of_mem _ hj)) (by simp; omega)]
    rw [List.append_assoc, List.length_cons, show n + 1 + l.length = n + (l.length + 1) by omega]
    rfl
theorem lineL_len (i : S48) (h0 : 0 ≤ i.f0) (hv : validB i = true) : (lineL i).length ≤ 40 := by
  have h1 := (mnem_facts i.f0 h0 (valid_parts i hv).1).2.2
  have h2 := (cls_facts i.f0 h0 (valid_parts i hv).1).2.2.2.1
  have key : ∀ ws : List (List UInt8), (∀ w ∈ ws, w.length ≤ 9) → (spaced ws).length ≤ 10 * ws.length := by
    intro ws
    induction ws with
    | nil => intro _; simp [spaced]
    | cons w ws ih =>
      intro h
      have a := h w List.mem_cons_self
      have b := ih fun v hv => h v (List.mem_cons_of_mem _ hv)
      simp only [spaced, List.flatMap_cons, List.length_append, List.length_cons] at b ⊢
      omega
  have h3 := key (opWords i) (fun w hw => by
    simp only [opWords, List.mem_map] at hw
    obtain ⟨c, _, rfl⟩ := hw
    exact (opWord_facts i h0 hv c).2.2)
  have h4 : (opWords i).length = (shapeI i.f0).length := by simp [opWords]
  unfold lineL
  rw [List.length_append]
  omega
theorem textL_len : ∀ (l : List S48), (∀ i ∈ l, 0 ≤ i.f0 ∧ validB i = true) → (textL l).length ≤ 41 * l.length
  | [], _ => by simp [textL]
  | i :: l, h => by
    have hi := h i List.mem_cons_self
    have h1 := lineL_len i hi.1 hi.2
    have h2 := textL_len l fun j hj => h j (List.mem_cons_of_mem _ hj)
    have e := textL_cons i l []
    rw [List.append_nil, List.append_nil] at e
    rw [e, List.length_append, List.length_cons, List.length_cons]
    omega
/-- What Parse returns is valid, and no longer than the lines. -/
theorem parseGo_good : ∀ (ls : List (List UInt8)) (n : Nat) (out : List S48), (∀ i ∈ out, 0 ≤ i.f0 ∧ validB i = true) → (∀ i ∈ (parseGo ls n out).1, 0 ≤ i.f0 ∧ validB i = true) ∧ (parseGo ls n out).1.length ≤ out.length + ls.length ∧ ((parseGo ls n out).2.2 = 0 ∧ (parseGo ls n out).2.1 = 0 ∨ (parseGo ls n out).1 = [] ∧ (parseGo ls n out).2.2 ≠ 0 ∧ (n : Int) + 1 ≤ (parseGo ls n out).2.1)
  | [], n, out, h => by
    rw [parseGo]
    exact ⟨h, by simp, .inl ⟨rfl, rfl⟩⟩
  | l :: ls, n, out, h => by
    rw [parseGo]
    split
    · obtain ⟨a, b, c⟩ := parseGo_good ls (n + 1) out h
      refine ⟨a, by simp; omega, ?_⟩
      rcases c with c | ⟨c1, c2, c3⟩
      · exact .inl c
      · exact .inr ⟨c1, c2, by omega⟩
    · cases hd : decO (wordsL l) with
      | none => exact ⟨fun i hi => (by cases hi), by simp, .inr ⟨rfl, show (3 : Int) ≠ 0 by decide, Int.le_refl _⟩⟩
      | some i =>
        simp only
        split
        · exact ⟨fun i hi => (by cases hi), by simp, .inr ⟨rfl, show (5 : Int) ≠ 0 by decide, Int.le_refl _⟩⟩
        · have hdec := decO_some.1 hd
          obtain ⟨a, b, c⟩ := parseGo_good ls (n + 1) (out ++ [i]) (fun j hj => by
            rcases List.mem_append.1 hj with hj | hj
            · exact h j hj
            · simp only [List.mem_singleton] at hj
              subst hj
              exact ⟨hdec.1, hdec.2.1⟩)
          refine ⟨a, by simp at b ⊢; omega, ?_⟩
          rcases c with c | ⟨c1, c2, c3⟩
          · exact .inl c
          · exact .inr ⟨c1, c2, by omega⟩
theorem linesL_len : ∀ l : List UInt8, (linesL l).length ≤ l.length + 1
  | [] => by simp [linesL]
  | b :: l => by
    have ih := linesL_len l
    unfold linesL
    split
    · simp; omega
    · split
      · rename_i x xs e
        rw [e] at ih
        simp at ih ⊢
        omega
      · simp
theorem parseL_good (s : List UInt8) : (∀ i ∈ (parseL s).1, 0 ≤ i.f0 ∧ validB i = true) ∧ (parseL s).1.length ≤ s.length + 1 ∧ ((parseL s).2.2 = 0 ∧ (parseL s).2.1 = 0 ∨ (parseL s).1 = [] ∧ (parseL s).2.2 ≠ 0) := by
  unfold parseL
  split
  · exact ⟨fun i hi => (by cases hi), by simp, .inr ⟨rfl, by decide⟩⟩
  · obtain ⟨a, b, c⟩ := parseGo_good (linesL s) 0 [] (fun i hi => by cases hi)
    have := linesL_len s
    refine ⟨a, by simp at b; omega, ?_⟩
    rcases c with c | ⟨c1, c2, _⟩
    · exact .inl c
    · exact .inr ⟨c1, c2⟩
theorem parseL_small (s : List UInt8) (h : s.length ≤ 65536) : parseL s = parseGo (linesL s) 0 [] := by
  unfold parseL
  rw [if_neg (by omega)]
theorem parseGo_shift : ∀ (ls : List (List UInt8)) (n m : Nat) (pre out : List S48), pre.length + out.length + ls.length ≤ 4096 →
    parseGo ls n (pre ++ out) = if (parseGo ls m out).2.2 = 0 then (pre ++ (parseGo ls m out).1, 0, 0) else ([], (parseGo ls m out).2.1 + ((n : Int) - (m : Int)), (parseGo ls m out).2.2)
  | [], n, m, pre, out, h => by
    simp [parseGo]
  | l :: ls, n, m, pre, out, h => by
    simp only [List.length_cons] at h
    rw [parseGo, parseGo]
    by_cases hw : wordsL l = []
    · simp only [if_pos hw]
      rw [parseGo_shift ls (n + 1) (m + 1) pre out (by omega), show (((n + 1 : Nat) : Int) - ((m + 1 : Nat) : Int)) = (n : Int) - (m : Int) by omega]
    · simp only [if_neg hw]
      cases hd : decO (wordsL l) with
      | none =>
        simp only
        rw [if_neg (by decide), show (m : Int) + 1 + ((n : Int) - (m : Int)) = (n : Int) + 1 by omega]
      | some i =>
        have h1 : ¬ (pre ++ out).length = 4096 := by rw [List.length_append]; omega
        have h2 : ¬ out.length = 4096 := by omega
        simp only [if_neg h1, if_neg h2]
        rw [List.append_assoc, parseGo_shift ls (n + 1) (m + 1) pre (out ++ [i]) (by rw [List.length_append, List.length_singleton]; omega), show (((n + 1 : Nat) : Int) - ((m + 1 : Nat) : Int)) = (n : Int) - (m : Int) by omega]
theorem parseGo_at : ∀ (ls : List (List UInt8)) (n : Nat) (out : List S48), 0 ≤ (parseGo ls n out).2.1 ∧ (parseGo ls n out).2.1 ≤ (n : Int) + ls.length
  | [], n, out => by
    simp only [parseGo, List.length_nil]
    omega
  | l :: ls, n, out => by
    rw [parseGo]
    have key : ∀ o, 0 ≤ (parseGo ls (n + 1) o).2.1 ∧ (parseGo ls (n + 1) o).2.1 ≤ (n : Int) + ((l :: ls).length : Nat) := fun o => by
      have := parseGo_at ls (n + 1) o
      rw [List.length_cons]
      omega
    split
    · exact key _
    · split
      · simp only [List.length_cons]; omega
      · split
        · simp only [List.length_cons]; omega
        · exact key _
theorem join_parse (l : List S48) (s : List UInt8) (h : ∀ i ∈ l, 0 ≤ i.f0 ∧ validB i = true) (hl : l.length ≤ 30) (hs : s.length ≤ 300) :
    parseL (textL l ++ s) = if (parseL s).2.2 = 0 then (l ++ (parseL s).1, 0, 0) else ([], (parseL s).2.1 + (l.length : Int), (parseL s).2.2) := by
  have ht := textL_len l h
  have hc := linesL_len s
  rw [parseL_small _ (by rw [List.length_append]; omega), parseL_small s (by omega), parse_text l s 0 [] h (by simp; omega), List.nil_append]
  have := parseGo_shift (linesL s) (0 + l.length) 0 l [] (by simp; omega)
  rw [List.append_nil] at this
  rw [this, show ((0 + l.length : Nat) : Int) - ((0 : Nat) : Int) = (l.length : Int) by omega]
theorem all_good {l : List S48} (hok : ∀ i ∈ l, opOk i = true) (hv : l.all validB = true) : ∀ i ∈ l, 0 ≤ i.f0 ∧ validB i = true := fun i hi => by
  have h1 := hok i hi
  have h2 := List.all_eq_true.1 hv i hi
  simp only [opOk, Bool.and_eq_true, decide_eq_true_eq] at h1
  exact ⟨h1.1, h2⟩
theorem joins_step (l : List S48) (a1 : ByteArray) (hok : ∀ i ∈ l, opOk i = true) (hl : l.length ≤ 30) (hs : a1.size ≤ 300) (K : Nat) (hK : 5000 ≤ K) : ontimelaw05_AsmJoins.j0 (K + 1) l a1 false = some true := by
  rw [ontimelaw05_AsmJoins.j0, if_neg (by decide), format_eval l hok, Option.bind_some]
  by_cases hv : l.all validB = true
  · have hg := all_good hok hv
    have hsz := size_len a1
    have ht := textL_len l hg
    have hp := join_parse l a1.data.toList hg hl (by omega)
    have hq := parseL_good a1.data.toList
    have hat : 0 ≤ (parseL a1.data.toList).2.1 ∧ (parseL a1.data.toList).2.1 ≤ 1000 := by
      rw [parseL_small _ (by omega)]
      have h1 := parseGo_at (linesL a1.data.toList) 0 []
      have h2 := linesL_len a1.data.toList
      omega
    have ha : str (textL l) ++ a1 = str (textL l ++ a1.data.toList) := by
      have := str_append (textL l) a1.data.toList
      rw [str_of] at this
      exact this
    have hsize : (str (textL l)).size + a1.size ≤ 9223372036854775807 := by rw [str_size]; omega
    rw [fmtL_yes l (by omega) hv, if_pos rfl]
    unfold asm_Parse.f
    dsimp only
    rw [Option.bind_some, if_pos hsize, Option.bind_some, ha, str_data, hp]
    obtain ⟨hq1, hq2, hq3⟩ := hq
    generalize parseL a1.data.toList = r at *
    obtain ⟨m, at_, e⟩ := r
    dsimp only at *
    by_cases he : e = 0
    · simp only [if_pos he]
      rw [Option.bind_some, List.nil_append, if_pos (show ([] : List S48).length + l.length < 3518437208883 by simp; omega), Option.bind_some, if_pos (show l.length + m.length < 3518437208883 by omega), same_self (l ++ m) (by rw [List.length_append]; omega) K (by rw [List.length_append]; omega), Option.bind_some]
      simp
    · simp only [if_neg he]
      rw [show wrap64 (at_ + (l.length : Int)) = at_ + (l.length : Int) by unfold wrap64; omega]
      simp
  · rw [fmtL_no l (by omega) hv, if_neg (by decide)]
theorem joins_true (l : List S48) (a1 : ByteArray) (K : Nat) : ontimelaw05_AsmJoins.j0 (K + 1) l a1 true = some true := by
  rw [ontimelaw05_AsmJoins.j0, if_pos rfl]
theorem AsmJoins_pure (l : List S48) (a1 : ByteArray) (hok : ∀ i ∈ l, opOk i = true) : ∃ k, ontimelaw05_AsmJoins.f k l a1 = some true := by
  obtain ⟨K, hK⟩ : ∃ K : Nat, 5000 ≤ K := ⟨5000, Nat.le_refl _⟩
  refine ⟨K + 1, ?_⟩
  unfold ontimelaw05_AsmJoins.f
  rw [awake_eval, Option.bind_some, if_pos rfl]
  by_cases h : (l.length : Int) > 30
  · rw [if_pos h, joins_true]
  · rw [if_neg h]
    by_cases h2 : (a1.size : Int) > 300
    · rw [decide_eq_true h2, joins_true]
    · rw [decide_eq_false h2, joins_step l a1 hok (by omega) (by omega) K hK]
end Go.Proofs.YtmgafakahbanaaaDoor.Pa
