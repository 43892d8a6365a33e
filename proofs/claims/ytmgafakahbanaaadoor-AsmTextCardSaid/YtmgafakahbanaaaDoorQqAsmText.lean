/- The plain law AsmText: what the functions answer, in plain words. -/
import Derived.Test.YtmgafakahbanaaaDoorPcx2
import Derived.Test.YtmgafakahbanaaaDoorPcx3
namespace Go.Proofs.YtmgafakahbanaaaDoor.Pa
open Go.RowKit Go.Proofs.YtmgafakahbanaaaDoorW.PrintWords Go.Proofs.YtmgafakahbanaaaDoorW.PrintLast Go.Proofs.YtmgafakahbanaaaDoorW.PrintMore
set_option linter.unusedVariables false
set_option linter.unusedSimpArgs false
theorem awake_eval : ontimelaw05_awake.f = some true := by kernel_rfl
theorem rd_T48_at (l : List S48) (j : Nat) (h : j < l.length) : rd_T48 l (j : Int) = l[j] := by
  simp [rd_T48, List.getD, List.getElem?_eq_getElem h]
theorem valid_loop (l : List S48) (hl : l.length ≤ 1000000) (hok : ∀ i ∈ l, opOk i = true) : ∀ (d k j : Nat), j + d = l.length → d < k →
    ontimelaw05_valid.l0 k l (j : Int) = some (if (l.drop j).all validB = true then 1 else 0) := by
  intro d
  induction d with
  | zero =>
    intro k j hj hk
    obtain ⟨k, rfl⟩ : ∃ m, k = m + 1 := ⟨k - 1, by omega⟩
    simp only [ontimelaw05_valid.l0]
    rw [if_neg (by omega), List.drop_of_length_le (by omega)]
    rfl
  | succ d ih =>
    intro k j hj hk
    obtain ⟨k, rfl⟩ : ∃ m, k = m + 1 := ⟨k - 1, by omega⟩
    have hlt : j < l.length := by omega
    have ho := hok l[j] (List.getElem_mem hlt)
    simp only [opOk, Bool.and_eq_true, decide_eq_true_eq] at ho
    have hw : wrap64 ((j : Int) + 1) = ((j + 1 : Nat) : Int) := by unfold wrap64; omega
    simp only [ontimelaw05_valid.l0]
    rw [if_pos (by omega), if_pos (by omega), rd_T48_at l j hlt, hw, isa_Valid.f, if_pos ho, List.drop_eq_getElem_cons hlt, List.all_cons]
    simp only [Option.bind_some]
    by_cases hv : validB l[j] = true
    · rw [if_pos hv, ih k (j + 1) (by omega) (by omega), hv, Bool.true_and]
    · rw [if_neg hv]
      have : validB l[j] = false := by simpa using hv
      rw [this, Bool.false_and, if_neg (by simp)]
theorem valid_eval (l : List S48) (hl : l.length ≤ 1000000) (hok : ∀ i ∈ l, opOk i = true) (k : Nat) (hk : l.length < k) : ontimelaw05_valid.f k l = some (if l.all validB = true then 1 else 0) := by
  have := valid_loop l hl hok l.length k 0 (by omega) hk
  rw [List.drop_zero] at this
  exact this
theorem format_eval (l : List S48) (hok : ∀ i ∈ l, opOk i = true) : asm_Format.f l = some (fmtL l) := by
  unfold asm_Format.f
  rw [if_pos (List.all_eq_true.2 hok)]
theorem fmtL_yes (l : List S48) (hl : l.length ≤ 4096) (hv : l.all validB = true) : fmtL l = (str (textL l), 0) := by
  unfold fmtL
  rw [if_neg (by omega), if_pos hv]
theorem fmtL_no (l : List S48) (hl : l.length ≤ 4096) (hv : ¬ l.all validB = true) : fmtL l = (⟨#[]⟩, 3) := by
  unfold fmtL
  rw [if_neg (by omega), if_neg hv]
theorem bt_list (x : ByteArray) (i : Nat) (h : i < x.size) : bt x (i : Int) = ((x.data.toList.getD i 0).toNat : Int) := by
  rw [bt_getD x i h]
  unfold bt
  simp [h]
theorem drop_cons (x : ByteArray) (i : Nat) (h : i < x.size) : x.data.toList.drop i = x.data.toList.getD i 0 :: x.data.toList.drop (i + 1) := by
  have hl := size_len x
  rw [List.drop_eq_getElem_cons (by omega), List.getD_eq_getElem?_getD, List.getElem?_eq_getElem (by omega)]
  rfl
theorem wrap_next (i N : Nat) (h : i < N) (hn : N ≤ 100000000) : wrap64 ((i : Int) + 1) = ((i + 1 : Nat) : Int) := by unfold wrap64; omega
theorem dec_len : ∀ (k u : Nat), u < 10 ^ (k + 1) → (Lib.decDigits u).length ≤ k + 1
  | 0, u, h => by
    have h10 : u < 10 := by simpa using h
    rw [Lib.decDigits, dif_pos h10]
    simp
  | k + 1, u, h => by
    by_cases h10 : u < 10
    · rw [Lib.decDigits, dif_pos h10]
      simp
    · rw [Lib.decDigits, dif_neg h10]
      have h2 : u / 10 < 10 ^ (k + 1) := by rw [Nat.pow_succ] at h; omega
      have := dec_len k (u / 10) h2
      simp
      omega
theorem itoa_len6 (n : Int) (h0 : -200000 ≤ n) (h1 : n ≤ 200000) : (Lib.itoa n).length ≤ 8 := by
  have key : ∀ u : Nat, u ≤ 200000 → (Lib.decDigits u).length ≤ 6 := fun u hu => by
    exact dec_len 5 u (by have : (10 : Nat) ^ (5 + 1) = 1000000 := rfl; omega)
  by_cases hn : n < 0
  · obtain ⟨u, rfl⟩ : ∃ u : Nat, n = -(u : Int) := ⟨n.natAbs, by omega⟩
    rw [Lib.itoa_neg u (by omega)]
    have := key u (by omega)
    simp
    omega
  · obtain ⟨u, rfl⟩ : ∃ u : Nat, n = (u : Int) := ⟨n.toNat, by omega⟩
    rw [Lib.itoa_nonneg]
    have := key u (by omega)
    omega
theorem extract_one (x : ByteArray) (i : Nat) (h : i < x.size) : x.extract i (i + 1) = str [x.data.toList.getD i 0] := by
  have e : (x.extract i (i + 1)).data.toList = [x.data.toList.getD i 0] := by
    rw [Lib.extract_data, drop_cons x i h, show i + 1 - i = 1 by omega]
    rfl
  exact ByteArray.ext (Array.toList_inj.1 (by rw [e]; rfl))
theorem nn (n : Nat) : (0 : Int) ≤ (n : Int) := by omega
theorem same_loop (l : List S48) (hl : l.length ≤ 1000000) : ∀ (d k j : Nat), j + d = l.length → d < k → ontimeref05_Same.l0 k l l (j : Int) = some true := by
  intro d
  induction d with
  | zero =>
    intro k j hj hk
    obtain ⟨k, rfl⟩ : ∃ m, k = m + 1 := ⟨k - 1, by omega⟩
    simp only [ontimeref05_Same.l0]
    rw [if_neg (by omega)]
  | succ d ih =>
    intro k j hj hk
    obtain ⟨k, rfl⟩ : ∃ m, k = m + 1 := ⟨k - 1, by omega⟩
    simp only [ontimeref05_Same.l0, beq_self_eq_true, Bool.not_true, Bool.or_self]
    rw [if_pos (by omega), if_pos (by omega), if_pos (by omega), if_neg (by simp), wrap_next j l.length (by omega) (by omega)]
    exact ih k (j + 1) (by omega) (by omega)
theorem same_self (l : List S48) (hl : l.length ≤ 1000000) (k : Nat) (hk : l.length < k) : ontimeref05_Same.f k l l = some true := by
  unfold ontimeref05_Same.f
  rw [if_pos rfl]
  exact same_loop l hl l.length k 0 (by omega) hk
def plainB (b : UInt8) : Bool := b != 9 && b != 10 && b != 32 && b != 59
def mnemPlain : Bool := (List.range 30).all fun n => (mnem (n : Int)).all plainB && decide (mnem (n : Int) ≠ []) && decide ((mnem (n : Int)).length ≤ 10)
theorem mnemPlain_all : mnemPlain = true := by kernel_rfl
theorem mnem_facts (op : Int) (h0 : 0 ≤ op) (h1 : op < 30) : (mnem op).all plainB = true ∧ mnem op ≠ [] ∧ (mnem op).length ≤ 10 := by
  have h := List.all_eq_true.1 mnemPlain_all op.toNat (by simp; omega)
  rw [show ((op.toNat : Nat) : Int) = op by omega] at h
  simp only [Bool.and_eq_true, decide_eq_true_eq] at h
  exact ⟨h.1.1, h.1.2, h.2⟩
theorem itoa_plain (n : Int) : (Lib.itoa n).all plainB = true := by
  rw [List.all_eq_true]
  intro b hb
  have h := Num.itoa_bytes n b hb
  have e : ∀ c : UInt8, b = c → b.toNat = c.toNat := fun c h => by rw [h]
  simp only [plainB, Bool.and_eq_true, bne_iff_ne, ne_eq]
  refine ⟨⟨⟨fun hc => ?_, fun hc => ?_⟩, fun hc => ?_⟩, fun hc => ?_⟩
  all_goals
    subst hc
    rcases h with h | ⟨h, h'⟩
    · exact absurd h (by decide)
    · first
        | exact absurd h (by decide)
        | exact absurd h' (by decide)
theorem opWord_facts (i : S48) (h0 : 0 ≤ i.f0) (hv : validB i = true) (c : Int) : (opWord i c).all plainB = true ∧ opWord i c ≠ [] ∧ (opWord i c).length ≤ 9 := by
  have hb5 := valid_bound i h0 hv 105
  have hbc := valid_bound i h0 hv c
  have e5 : xF i 105 = i.f4 := rfl
  rw [e5] at hb5
  unfold opWord
  split
  · exact ⟨itoa_plain _, Num.itoa_ne _, by have := itoa_len6 i.f4 hb5.1 hb5.2; omega⟩
  · refine ⟨?_, by simp, by have := itoa_len6 (xF i c) hbc.1 hbc.2; simp; omega⟩
    rw [List.all_cons, itoa_plain]
    rfl
theorem plain_blank {l : List UInt8} (h : l.all plainB = true) : ∀ b ∈ l, blankB b = false := fun b hb => by
  have := List.all_eq_true.1 h b hb
  simp only [plainB, Bool.and_eq_true, bne_iff_ne, ne_eq] at this
  simp [blankB, this.1.1.1, this.1.2]
theorem plain_no {l : List UInt8} (h : l.all plainB = true) : (10 : UInt8) ∉ l ∧ (59 : UInt8) ∉ l := by
  constructor
  · intro hm
    have := List.all_eq_true.1 h _ hm
    simp [plainB] at this
  · intro hm
    have := List.all_eq_true.1 h _ hm
    simp [plainB] at this
theorem fields_words : ∀ (ws : List (List UInt8)) (cur : List UInt8), (∀ w ∈ ws, w.all plainB = true ∧ w ≠ []) → fieldsGo cur (spaced ws) = (if cur = [] then [] else [cur]) ++ ws
  | [], cur, _ => by simp [spaced, fieldsGo]
  | w :: ws, cur, h => by
    have hw := h w List.mem_cons_self
    have e : spaced (w :: ws) = 32 :: (w ++ spaced ws) := by simp [spaced]
    have ih := fields_words ws w (fun v hv => h v (List.mem_cons_of_mem _ hv))
    rw [if_neg hw.2] at ih
    have hs : fieldsGo [] (w ++ spaced ws) = [w] ++ ws := by
      rw [fieldsGo_skip w [] _ (plain_blank hw.1), List.nil_append, ih]
    rw [e, fieldsGo, if_pos (show blankB 32 = true from rfl), hs]
    by_cases hc : cur = []
    · rw [if_pos hc, if_pos hc]; rfl
    · rw [if_neg hc, if_neg hc]; rfl
theorem line_words (i : S48) (h0 : 0 ≤ i.f0) (hv : validB i = true) : ∀ w ∈ mnem i.f0 :: opWords i, w.all plainB = true ∧ w ≠ [] := by
  intro w hw
  rcases List.mem_cons.1 hw with rfl | hw
  · have := mnem_facts i.f0 h0 (valid_parts i hv).1
    exact ⟨this.1, this.2.1⟩
  · simp only [opWords, List.mem_map] at hw
    obtain ⟨c, _, rfl⟩ := hw
    have := opWord_facts i h0 hv c
    exact ⟨this.1, this.2.1⟩
theorem spaced_no (ws : List (List UInt8)) (h : ∀ w ∈ ws, w.all plainB = true) (b : UInt8) (hb : b = 10 ∨ b = 59) : b ∉ spaced ws := by
  intro hm
  simp only [spaced, List.mem_flatMap] at hm
  obtain ⟨w, hw, hm⟩ := hm
  rcases List.mem_cons.1 hm with e | hm
  · rcases hb with rfl | rfl <;> exact absurd e (by decide)
  · have := plain_no (h w hw)
    rcases hb with rfl | rfl
    · exact this.1 hm
    · exact this.2 hm
theorem lineL_no (i : S48) (h0 : 0 ≤ i.f0) (hv : validB i = true) : (10 : UInt8) ∉ lineL i ∧ (59 : UInt8) ∉ lineL i := by
  have hw := line_words i h0 hv
  have h1 := plain_no (hw _ List.mem_cons_self).1
  have h2 := spaced_no (opWords i) (fun w h => (hw w (List.mem_cons_of_mem _ h)).1)
  unfold lineL
  constructor
  · intro hm
    rcases List.mem_append.1 hm with hm | hm
    · exact h1.1 hm
    · exact h2 10 (.inl rfl) hm
  · intro hm
    rcases List.mem_append.1 hm with hm | hm
    · exact h1.2 hm
    · exact h2 59 (.inr rfl) hm
theorem wordsL_line (i : S48) (h0 : 0 ≤ i.f0) (hv : validB i = true) : wordsL (lineL i) = mnem i.f0 :: opWords i := by
  have hw := line_words i h0 hv
  have hm := hw _ List.mem_cons_self
  have hc : codeL (lineL i) = lineL i := takeWhile_all 59 _ (lineL_no i h0 hv).2
  unfold wordsL
  rw [hc]
  unfold lineL
  rw [fieldsGo_skip _ [] _ (plain_blank hm.1), List.nil_append, fields_words _ _ (fun w h => hw w (List.mem_cons_of_mem _ h)), if_neg hm.2]
  rfl
theorem decO_line (i : S48) (h0 : 0 ≤ i.f0) (hv : validB i = true) : decO (wordsL (lineL i)) = some i := by
  rw [wordsL_line i h0 hv]
  exact decO_some.2 ⟨h0, hv, rfl⟩
theorem linesL_line (a rest : List UInt8) (h : (10 : UInt8) ∉ a) : linesL (a ++ 10 :: rest) = a :: linesL rest := by
  induction a with
  | nil => simp [linesL]
  | cons b a ih =>
    have hb : ¬ b = 10 := fun e => h (by simp [e])
    rw [List.cons_append, linesL, if_neg hb, ih (fun hm => h (List.mem_cons_of_mem _ hm))]
theorem textL_cons (i : S48) (l : List S48) (s : List UInt8) : textL (i :: l) ++ s = lineL i ++ 10 :: (textL l ++ s) := by simp [textL]
theorem lineL_len (i : S48) (h0 : 0 ≤ i.f0) (hv : validB i = true) : (lineL i).length ≤ 40 := by
  have h1 := (mnem_facts i.f0 h0 (valid_parts i hv).1).2.2
  have h2 := (cls_facts i.f0 h0 (valid_parts i hv).1).2.2.2.1
  have key : ∀ ws : List (List UInt8), (∀ w ∈ ws, w.length ≤ 9) → (spaced ws).length ≤ 10 * ws.length := by
    intro ws
    induction ws with
    | nil => intro _; simp [spaced]
    | cons w ws ih =>
      intro h
      have a := h w List.mem_cons_self
      have b := ih fun v hv => h v (List.mem_cons_of_mem _ hv)
      simp only [spaced, List.flatMap_cons, List.length_append, List.length_cons] at b ⊢
      omega
  have h3 := key (opWords i) (fun w hw => by
    simp only [opWords, List.mem_map] at hw
    obtain ⟨c, _, rfl⟩ := hw
    exact (opWord_facts i h0 hv c).2.2)
  have h4 : (opWords i).length = (shapeI i.f0).length := by simp [opWords]
  unfold lineL
  rw [List.length_append]
  omega
theorem textL_len : ∀ (l : List S48), (∀ i ∈ l, 0 ≤ i.f0 ∧ validB i = true) → (textL l).length ≤ 41 * l.length
  | [], _ => by simp [textL]
  | i :: l, h => by
    have hi := h i List.mem_cons_self
    have h1 := lineL_len i hi.1 hi.2
    have h2 := textL_len l fun j hj => h j (List.mem_cons_of_mem _ hj)
    have e := textL_cons i l []
    rw [List.append_nil, List.append_nil] at e
    rw [e, List.length_append, List.length_cons, List.length_cons]
    omega
theorem parseL_small (s : List UInt8) (h : s.length ≤ 65536) : parseL s = parseGo (linesL s) 0 [] := by
  unfold parseL
  rw [if_neg (by omega)]
theorem all_good {l : List S48} (hok : ∀ i ∈ l, opOk i = true) (hv : l.all validB = true) : ∀ i ∈ l, 0 ≤ i.f0 ∧ validB i = true := fun i hi => by
  have h1 := hok i hi
  have h2 := List.all_eq_true.1 hv i hi
  simp only [opOk, Bool.and_eq_true, decide_eq_true_eq] at h1
  exact ⟨h1.1, h2⟩
theorem codeL_other (b : UInt8) (x : List UInt8) (hb : ¬ b = 59) : codeL (b :: x) = b :: codeL x := by
  unfold codeL
  rw [List.takeWhile_cons_of_pos (by simpa using hb)]
theorem fieldsGo_nil (cur : List UInt8) : fieldsGo cur [] = if cur = [] then [] else [cur] := by rw [fieldsGo]
theorem fieldsGo_cons (cur : List UInt8) (b : UInt8) (l : List UInt8) : fieldsGo cur (b :: l) = if blankB b = true then (if cur = [] then fieldsGo [] l else cur :: fieldsGo [] l) else fieldsGo (cur ++ [b]) l := by rw [fieldsGo]
theorem extract_next (x : ByteArray) (i : Nat) (h : i < x.size) (hx : x.size ≤ 1000000) : x.extract ((i : Int)).toNat (wrap64 ((i : Int) + 1)).toNat = str [x.data.toList.getD i 0] := by
  rw [wrap_next i x.size h (by omega), Int.toNat_natCast, Int.toNat_natCast, extract_one x i h]
theorem next_le (i n : Nat) (h : i < n) (hn : n ≤ 1000000) : (i : Int) ≤ wrap64 ((i : Int) + 1) ∧ wrap64 ((i : Int) + 1) ≤ (n : Int) := by unfold wrap64; omega
theorem one_size (acc : List UInt8) (b : UInt8) (h : acc.length ≤ 100000000) : (str acc).size + (str [b]).size ≤ 9223372036854775807 := by
  rw [str_size, str_size, List.length_singleton]; omega
theorem getD_toNat (b : UInt8) (c : UInt8) : ((b.toNat : Nat) : Int) = (c.toNat : Int) ↔ b = c := by
  constructor
  · intro h
    exact UInt8.toNat_inj.1 (by omega)
  · intro h; rw [h]
theorem is10 (b : UInt8) : ((b.toNat : Nat) : Int) = 10 ↔ b = 10 := getD_toNat b 10
theorem is32 (b : UInt8) : ((b.toNat : Nat) : Int) = 32 ↔ b = 32 := getD_toNat b 32
theorem lt_int (i n : Nat) (h : i < n) : (i : Int) < (n : Int) := by omega
def Eats (t : List UInt8) (L : List S48) : Prop := ∀ (rest : List UInt8) (n : Nat) (out : List S48), out.length + L.length ≤ 4096 → ∃ c, parseGo (linesL (t ++ rest)) n out = parseGo (linesL rest) c (out ++ L)
theorem eats_nil : Eats [] [] := fun rest n out _ => ⟨n, by rw [List.nil_append, List.append_nil]⟩
theorem eats_append {t u : List UInt8} {L M : List S48} (h1 : Eats t L) (h2 : Eats u M) : Eats (t ++ u) (L ++ M) := fun rest n out h => by
  rw [List.length_append] at h
  obtain ⟨c, hc⟩ := h1 (u ++ rest) n out (by omega)
  obtain ⟨d, hd⟩ := h2 rest c (out ++ L) (by rw [List.length_append]; omega)
  exact ⟨d, by rw [List.append_assoc, hc, hd, List.append_assoc]⟩
theorem eats_skip (a : List UInt8) (h : (10 : UInt8) ∉ a) (hw : wordsL a = []) : Eats (a ++ [10]) [] := fun rest n out _ => by
  refine ⟨n + 1, ?_⟩
  rw [List.append_assoc, List.singleton_append, linesL_line a rest h, parseGo, if_pos hw, List.append_nil]
theorem eats_line (a : List UInt8) (i : S48) (h : (10 : UInt8) ∉ a) (h0 : 0 ≤ i.f0) (hv : validB i = true) (hw : wordsL a = wordsL (lineL i)) : Eats (a ++ [10]) [i] := fun rest n out hl => by
  refine ⟨n + 1, ?_⟩
  have hne : ¬ wordsL a = [] := by rw [hw, wordsL_line i h0 hv]; simp
  rw [List.length_singleton] at hl
  rw [List.append_assoc, List.singleton_append, linesL_line a rest h, parseGo, if_neg hne, hw, decO_line i h0 hv]
  simp only
  rw [if_neg (by omega)]
def Loose (p q : List UInt8) : Prop := (∀ cur l, fieldsGo cur (q ++ l) = fieldsGo cur (p ++ l)) ∧ (10 : UInt8) ∉ q ∧ (59 : UInt8) ∉ q
theorem loose_nil : Loose [] [] := ⟨fun _ _ => rfl, by simp, by simp⟩
theorem fieldsGo_app (a b : List UInt8) (h : ∀ cur l, fieldsGo cur (a ++ l) = fieldsGo cur (b ++ l)) : ∀ (p cur l : List UInt8), fieldsGo cur (p ++ (a ++ l)) = fieldsGo cur (p ++ (b ++ l))
  | [], cur, l => h cur l
  | c :: p, cur, l => by
    rw [List.cons_append, List.cons_append, fieldsGo_cons, fieldsGo_cons, fieldsGo_app a b h p [] l, fieldsGo_app a b h p (cur ++ [c]) l]
theorem loose_snoc {p q s : List UInt8} {b : UInt8} (h : Loose p q) (hs : ∀ cur l, fieldsGo cur (s ++ l) = fieldsGo cur ([b] ++ l)) (h10 : (10 : UInt8) ∉ s) (h59 : (59 : UInt8) ∉ s) : Loose (p ++ [b]) (q ++ s) := by
  obtain ⟨h1, h2, h3⟩ := h
  refine ⟨fun cur l => ?_, ?_, ?_⟩
  · rw [List.append_assoc, h1, fieldsGo_app s [b] hs, List.append_assoc]
  · intro hm
    rcases List.mem_append.1 hm with hm | hm
    · exact h2 hm
    · exact h10 hm
  · intro hm
    rcases List.mem_append.1 hm with hm | hm
    · exact h3 hm
    · exact h59 hm
theorem fields_blank (b : UInt8) (hb : blankB b = true) (l : List UInt8) : fieldsGo [] (b :: l) = fieldsGo [] l := by
  rw [fieldsGo_cons, if_pos hb, if_pos rfl]
theorem fields_close (b : UInt8) (hb : blankB b = true) (cur l : List UInt8) : fieldsGo cur (b :: l) = (if cur = [] then [] else [cur]) ++ fieldsGo [] l := by
  rw [fieldsGo_cons, if_pos hb]
  by_cases hc : cur = []
  · rw [if_pos hc, if_pos hc]; rfl
  · rw [if_neg hc, if_neg hc]; rfl
def blkL : Nat → List UInt8
  | 0 => [32]
  | 1 => [32, 32]
  | 2 => [9]
  | _ => [32, 9, 32]
theorem blk_loose : ∀ (a : Nat), a < 4 → (∀ cur l, fieldsGo cur (blkL a ++ l) = fieldsGo cur ([32] ++ l)) ∧ (10 : UInt8) ∉ blkL a ∧ (59 : UInt8) ∉ blkL a
  | 0, _ => ⟨fun _ _ => rfl, by decide, by decide⟩
  | 1, _ => ⟨fun cur l => by
      show fieldsGo cur (32 :: 32 :: l) = fieldsGo cur (32 :: l)
      rw [fields_close 32 rfl cur (32 :: l), fields_blank 32 rfl l, fields_close 32 rfl cur l], by decide, by decide⟩
  | 2, _ => ⟨fun cur l => by
      show fieldsGo cur (9 :: l) = fieldsGo cur (32 :: l)
      rw [fields_close 32 rfl cur l, fields_close 9 rfl cur l], by decide, by decide⟩
  | 3, _ => ⟨fun cur l => by
      show fieldsGo cur (32 :: 9 :: 32 :: l) = fieldsGo cur (32 :: l)
      rw [fields_close 32 rfl cur (9 :: 32 :: l), fields_blank 9 rfl, fields_blank 32 rfl, fields_close 32 rfl cur l], by decide, by decide⟩
theorem codeL_app : ∀ (a b : List UInt8), (59 : UInt8) ∉ a → codeL (a ++ b) = a ++ codeL b
  | [], b, _ => rfl
  | c :: a, b, h => by
    have hc : ¬ c = 59 := fun e => h (by simp [e])
    rw [List.cons_append, codeL_other c _ hc, codeL_app a b (fun hm => h (List.mem_cons_of_mem _ hm))]
    rfl
theorem fields_end (b : UInt8) (hb : blankB b = true) : ∀ (l cur : List UInt8), fieldsGo cur (l ++ [b]) = fieldsGo cur l
  | [], cur => by
    rw [List.nil_append, fieldsGo_cons, if_pos hb, fieldsGo_nil, fieldsGo_nil]
    by_cases hc : cur = []
    · rw [if_pos hc, if_pos hc]; rfl
    · rw [if_neg hc, if_neg hc]; rfl
  | c :: l, cur => by
    rw [List.cons_append, fieldsGo_cons, fieldsGo_cons, fields_end b hb l [], fields_end b hb l (cur ++ [c])]
theorem fields_lead : ∀ (bl l : List UInt8), (∀ b ∈ bl, blankB b = true) → fieldsGo [] (bl ++ l) = fieldsGo [] l
  | [], l, _ => rfl
  | b :: bl, l, h => by
    rw [List.cons_append, fields_blank b (h b List.mem_cons_self), fields_lead bl l (fun c hc => h c (List.mem_cons_of_mem _ hc))]
theorem line_mid (i : S48) (h0 : 0 ≤ i.f0) (hv : validB i = true) (line bl e : List UInt8) (hl : Loose (lineL i) line) (hb : ∀ b ∈ bl, blankB b = true) (he : codeL e = [] ∨ codeL e = [32] ∨ codeL e = [9]) (he2 : (10 : UInt8) ∉ e) :
    Eats (bl ++ line ++ e ++ [10]) [i] := by
  obtain ⟨h1, h2, h3⟩ := hl
  have b10 : (10 : UInt8) ∉ bl := fun hm => absurd (hb _ hm) (by decide)
  have b59 : (59 : UInt8) ∉ bl := fun hm => absurd (hb _ hm) (by decide)
  refine eats_line _ i ?_ h0 hv ?_
  · intro hm
    rcases List.mem_append.1 hm with hm | hm
    · rcases List.mem_append.1 hm with hm | hm
      · exact b10 hm
      · exact h2 hm
    · exact he2 hm
  · have hc : codeL (lineL i) = lineL i := takeWhile_all 59 _ (lineL_no i h0 hv).2
    unfold wordsL
    rw [List.append_assoc, codeL_app bl _ b59, codeL_app line _ h3, fields_lead bl _ hb, h1, hc]
    rcases he with he | he | he
    · rw [he, List.append_nil]
    · rw [he, fields_end 32 rfl]
    · rw [he, fields_end 9 rfl]
def preL : Nat → List UInt8
  | 0 => []
  | 1 => [9]
  | 2 => [59, 32, 120, 32, 114, 49, 10]
  | 3 => [32, 32]
  | _ => [10]
def postL : Nat → List UInt8
  | 0 => [10]
  | 1 => [32, 10]
  | 2 => [59, 32, 110, 111, 112, 10]
  | 3 => [10, 10, 32, 10]
  | _ => [9, 59, 10]
theorem pre_split : ∀ a : Nat, ∃ s bl, preL a = s ++ bl ∧ Eats s [] ∧ ∀ b ∈ bl, blankB b = true
  | 0 => ⟨[], [], rfl, eats_nil, fun _ h => by cases h⟩
  | 1 => ⟨[], [9], rfl, eats_nil, by simp [blankB]⟩
  | 2 => ⟨[59, 32, 120, 32, 114, 49, 10], [], rfl, eats_skip [59, 32, 120, 32, 114, 49] (by decide) rfl, fun _ h => by cases h⟩
  | 3 => ⟨[], [32, 32], rfl, eats_nil, by simp [blankB]⟩
  | _ + 4 => ⟨[10], [], rfl, eats_skip [] (by decide) rfl, fun _ h => by cases h⟩
theorem post_split : ∀ a : Nat, ∃ e s, postL a = e ++ [10] ++ s ∧ Eats s [] ∧ (codeL e = [] ∨ codeL e = [32] ∨ codeL e = [9]) ∧ (10 : UInt8) ∉ e
  | 0 => ⟨[], [], rfl, eats_nil, .inl rfl, by decide⟩
  | 1 => ⟨[32], [], rfl, eats_nil, .inr (.inl rfl), by decide⟩
  | 2 => ⟨[59, 32, 110, 111, 112], [], rfl, eats_nil, .inl rfl, by decide⟩
  | 3 => ⟨[], [10, 32, 10], rfl, eats_append (eats_skip [] (by decide) rfl) (eats_skip [32] (by decide) rfl), .inl rfl, by decide⟩
  | _ + 4 => ⟨[9, 59], [], rfl, eats_nil, .inr (.inr rfl), by decide⟩
theorem line_eats (i : S48) (h0 : 0 ≤ i.f0) (hv : validB i = true) (line : List UInt8) (hl : Loose (lineL i) line) (a b : Nat) : Eats (preL a ++ line ++ postL b) [i] := by
  obtain ⟨s, bl, e1, hs, hb⟩ := pre_split a
  obtain ⟨e, s2, e2, hs2, he, he2⟩ := post_split b
  have h := eats_append hs (eats_append (line_mid i h0 hv line bl e hl hb he he2) hs2)
  rw [List.nil_append, List.append_nil] at h
  rw [e1, e2]
  have e3 : s ++ bl ++ line ++ (e ++ [10] ++ s2) = s ++ (bl ++ line ++ e ++ [10] ++ s2) := by simp only [List.append_assoc]
  rw [e3]
  exact h
theorem pre_at : ∀ a : Nat, a < 5 → rdOf ByteArray.empty ([(⟨#[]⟩ : ByteArray), (⟨#[9]⟩ : ByteArray), (⟨#[59, 32, 120, 32, 114, 49, 10]⟩ : ByteArray), (⟨#[32, 32]⟩ : ByteArray), (⟨#[10]⟩ : ByteArray)] : List ByteArray) (a : Int) = str (preL a)
  | 0, _ => rfl
  | 1, _ => rfl
  | 2, _ => rfl
  | 3, _ => rfl
  | 4, _ => rfl
theorem post_at : ∀ a : Nat, a < 5 → rdOf ByteArray.empty ([(⟨#[10]⟩ : ByteArray), (⟨#[32, 10]⟩ : ByteArray), (⟨#[59, 32, 110, 111, 112, 10]⟩ : ByteArray), (⟨#[10, 10, 32, 10]⟩ : ByteArray), (⟨#[9, 59, 10]⟩ : ByteArray)] : List ByteArray) (a : Int) = str (postL a)
  | 0, _ => rfl
  | 1, _ => rfl
  | 2, _ => rfl
  | 3, _ => rfl
  | 4, _ => rfl
theorem blk_at : ∀ a : Nat, a < 4 → rdOf ByteArray.empty ([(⟨#[32]⟩ : ByteArray), (⟨#[32, 32]⟩ : ByteArray), (⟨#[9]⟩ : ByteArray), (⟨#[32, 9, 32]⟩ : ByteArray)] : List ByteArray) (a : Int) = str (blkL a)
  | 0, _ => rfl
  | 1, _ => rfl
  | 2, _ => rfl
  | 3, _ => rfl
theorem pre_len (a : Nat) : (preL a).length ≤ 7 := by unfold preL; split <;> simp
theorem post_len (a : Nat) : (postL a).length ≤ 6 := by unfold postL; split <;> simp
theorem blk_len (a : Nat) : (blkL a).length ≤ 3 := by unfold blkL; split <;> simp
theorem tmod_nat (i n : Nat) : Int.tmod (i : Int) (n : Int) = ((i % n : Nat) : Int) := rfl
theorem tdiv_nat (i n : Nat) : Int.tdiv (i : Int) (n : Int) = ((i / n : Nat) : Int) := rfl
theorem wrap_small (u : Nat) (h : u ≤ 100000) : wrap64 (u : Int) = (u : Int) := by unfold wrap64; omega
theorem rd_ok (bs : List Int) (h : ∀ v ∈ bs, 0 ≤ v ∧ v ≤ 255) (i : Int) : ∃ u : Nat, rd bs i = (u : Int) ∧ u ≤ 255 := by
  have key : 0 ≤ rd bs i ∧ rd bs i ≤ 255 := by
    unfold rd
    rw [List.getD_eq_getElem?_getD]
    cases hx : bs[i.toNat]? with
    | none => exact ⟨Int.le_refl 0, by decide⟩
    | some v => exact h v (List.mem_of_getElem? hx)
  exact ⟨(rd bs i).toNat, by omega, by omega⟩
theorem two_size (a b : List UInt8) (ha : a.length ≤ 100000000) (hb : b.length ≤ 100000000) : (str a).size + (str b).size ≤ 9223372036854775807 := by
  rw [str_size, str_size]; omega
theorem mod_lt5 (u : Nat) : u % 5 < 5 := Nat.mod_lt _ (by decide)
theorem mod_lt4 (u : Nat) : u % 4 < 4 := Nat.mod_lt _ (by decide)
theorem int_ne0 (n : Nat) (h : 0 < n) : ¬ (n : Int) = 0 := by omega
theorem three_size (a b c t : List UInt8) (ha : a.length ≤ 7) (hb : b.length ≤ 10000000) (hc : c.length ≤ 6) (ht : t.length ≤ 10000000) :
    (str a).size + (str b).size ≤ 9223372036854775807 ∧ (str (a ++ b)).size + (str c).size ≤ 9223372036854775807 ∧ (str t).size + (str (a ++ b ++ c)).size ≤ 9223372036854775807 := by
  simp only [str_size, List.length_append]
  omega
theorem text_ten (l : List S48) (bs : List Int) (hv : ∀ v ∈ bs, 0 ≤ v ∧ v ≤ 255) (hbs : 0 < bs.length) (x : ByteArray) (hx : x.size ≤ 1000000) (i : Nat) (hi : i < x.size) (hb : x.data.toList.getD i 0 = 10)
    (t line : List UInt8) (ht : t.length ≤ 10000000) (hl : line.length ≤ 10000000) (k : Nat) :
    ∃ a b : Nat, ontimelaw05_AsmText.l0 (k + 1) l bs x (str t) (str line) (i : Int) = ontimelaw05_AsmText.l0 k l bs x (str (t ++ (preL a ++ line ++ postL b))) (str []) ((i + 1 : Nat) : Int) := by
  obtain ⟨u, hu, hu2⟩ := rd_ok bs hv ((i % bs.length : Nat) : Int)
  refine ⟨u % 5, u / 5 % 5, ?_⟩
  have hm : i % bs.length < bs.length := Nat.mod_lt _ hbs
  have hw := wrap_next i x.size hi (by omega)
  have hw1 := wrap_small u (by omega)
  have hw2 := wrap_small (u / 5) (by omega)
  have t1 : Int.tmod (u : Int) 5 = ((u % 5 : Nat) : Int) := tmod_nat u 5
  have t2 : Int.tdiv (u : Int) 5 = ((u / 5 : Nat) : Int) := tdiv_nat u 5
  have t3 : Int.tmod ((u / 5 : Nat) : Int) 5 = ((u / 5 % 5 : Nat) : Int) := tmod_nat (u / 5) 5
  have h5 : ∀ (v : Nat) (a b c d e : ByteArray), ((v % 5 : Nat) : Int) < (([a, b, c, d, e].length : Nat) : Int) := fun v a b c d e => by
    have := mod_lt5 v
    simp only [List.length_cons, List.length_nil]
    omega
  have e1 := tmod_nat i bs.length
  have hp := pre_len (u % 5)
  have hq := post_len (u / 5 % 5)
  obtain ⟨s1, s2, s3⟩ := three_size (preL (u % 5)) line (postL (u / 5 % 5)) t hp hl hq ht
  have p1 := pre_at (u % 5) (mod_lt5 u)
  have p2 := post_at (u / 5 % 5) (mod_lt5 _)
  have n1 : ((u % 5 : Nat) : Int) < (([(⟨#[]⟩ : ByteArray), (⟨#[9]⟩ : ByteArray), (⟨#[59, 32, 120, 32, 114, 49, 10]⟩ : ByteArray), (⟨#[32, 32]⟩ : ByteArray), (⟨#[10]⟩ : ByteArray)] : List ByteArray).length : Int) := h5 u _ _ _ _ _
  have n2 : ((u / 5 % 5 : Nat) : Int) < (([(⟨#[10]⟩ : ByteArray), (⟨#[32, 10]⟩ : ByteArray), (⟨#[59, 32, 110, 111, 112, 10]⟩ : ByteArray), (⟨#[10, 10, 32, 10]⟩ : ByteArray), (⟨#[9, 59, 10]⟩ : ByteArray)] : List ByteArray).length : Int) := h5 (u / 5) _ _ _ _ _
  have b1 : ((UInt8.toNat 10 : Nat) : Int) = 10 := (is10 10).2 rfl
  rw [ontimelaw05_AsmText.l0, if_pos (lt_int i _ hi), if_neg (int_ne0 _ hbs), e1, if_pos (nn (i % bs.length)), if_pos (lt_int _ _ hm), if_pos (nn i), bt_list x i hi, hb, if_pos b1, Option.bind_some, hu, hw1, t1, if_pos (nn (u % 5)), if_pos n1, p1, if_pos s1]
  rw [Option.bind_some, t2, hw2, t3, if_pos (nn (u / 5 % 5)), if_pos n2, p2, str_append, if_pos s2, str_append, if_pos s3, str_append, hw]
  rfl
theorem text_blank (l : List S48) (bs : List Int) (hv : ∀ v ∈ bs, 0 ≤ v ∧ v ≤ 255) (hbs : 0 < bs.length) (x : ByteArray) (hx : x.size ≤ 1000000) (i : Nat) (hi : i < x.size) (hb : x.data.toList.getD i 0 = 32)
    (t line : List UInt8) (ht : t.length ≤ 10000000) (hl : line.length ≤ 10000000) (k : Nat) :
    ∃ a : Nat, a < 4 ∧ ontimelaw05_AsmText.l0 (k + 1) l bs x (str t) (str line) (i : Int) = ontimelaw05_AsmText.l0 k l bs x (str t) (str (line ++ blkL a)) ((i + 1 : Nat) : Int) := by
  obtain ⟨u, hu, hu2⟩ := rd_ok bs hv ((i % bs.length : Nat) : Int)
  refine ⟨u % 4, mod_lt4 u, ?_⟩
  have hm : i % bs.length < bs.length := Nat.mod_lt _ hbs
  have hp := blk_len (u % 4)
  have hw := wrap_next i x.size hi (by omega)
  have hw1 := wrap_small u (by omega)
  have t1 : Int.tmod (u : Int) 4 = ((u % 4 : Nat) : Int) := tmod_nat u 4
  have h4 : ∀ (v : Nat) (a b c d : ByteArray), ((v % 4 : Nat) : Int) < (([a, b, c, d].length : Nat) : Int) := fun v a b c d => by
    have := mod_lt4 v
    simp only [List.length_cons, List.length_nil]
    omega
  have e1 := tmod_nat i bs.length
  have s1 := two_size line (blkL (u % 4)) (by omega) (by omega)
  have p1 := blk_at (u % 4) (mod_lt4 u)
  have n1 : ((u % 4 : Nat) : Int) < (([(⟨#[32]⟩ : ByteArray), (⟨#[32, 32]⟩ : ByteArray), (⟨#[9]⟩ : ByteArray), (⟨#[32, 9, 32]⟩ : ByteArray)] : List ByteArray).length : Int) := h4 u _ _ _ _
  have b0 : ¬ ((UInt8.toNat 32 : Nat) : Int) = 10 := fun e => absurd ((is10 32).1 e) (by decide)
  have b1 : ((UInt8.toNat 32 : Nat) : Int) = 32 := (is32 32).2 rfl
  rw [ontimelaw05_AsmText.l0, if_pos (lt_int i _ hi), if_neg (int_ne0 _ hbs), e1, if_pos (nn (i % bs.length)), if_pos (lt_int _ _ hm), if_pos (nn i), bt_list x i hi, hb, if_neg b0, if_pos b1, Option.bind_some, hu, hw1, t1, if_pos (nn (u % 4)), if_pos n1, p1, if_pos s1, str_append, hw]
theorem text_other (l : List S48) (bs : List Int) (hbs : 0 < bs.length) (x : ByteArray) (hx : x.size ≤ 1000000) (i : Nat) (hi : i < x.size) (b : UInt8) (hb : x.data.toList.getD i 0 = b) (h10 : ¬ b = 10) (h32 : ¬ b = 32)
    (t line : List UInt8) (ht : t.length ≤ 10000000) (hl : line.length ≤ 10000000) (k : Nat) :
    ontimelaw05_AsmText.l0 (k + 1) l bs x (str t) (str line) (i : Int) = ontimelaw05_AsmText.l0 k l bs x (str t) (str (line ++ [b])) ((i + 1 : Nat) : Int) := by
  have hm : i % bs.length < bs.length := Nat.mod_lt _ hbs
  have hn := next_le i x.size hi hx
  have he := extract_next x i hi hx
  have hw := wrap_next i x.size hi (by omega)
  rw [hb] at he
  rw [ontimelaw05_AsmText.l0, if_pos (lt_int i _ hi), if_neg (int_ne0 _ hbs), tmod_nat i bs.length, if_pos (nn (i % bs.length)), if_pos (lt_int _ _ hm), if_pos (nn i), bt_list x i hi, hb, if_neg (fun e => h10 ((is10 b).1 e)), if_neg (fun e => h32 ((is32 b).1 e)), if_pos hn.1, if_pos hn.2, he, if_pos (one_size line b (by omega)), str_append, hw]
def TextInv (l : List S48) (rem t line : List UInt8) : Prop :=
  (∃ (done : List S48) (i0 : S48) (more : List S48) (p q : List UInt8), l = done ++ i0 :: more ∧ lineL i0 = p ++ q ∧ rem = q ++ 10 :: textL more ∧ Loose p line ∧ Eats t done) ∨ (rem = [] ∧ Eats t l)
theorem textInv_start (l done more : List S48) (t : List UInt8) (hl : l = done ++ more) (h : Eats t done) : TextInv l (textL more) t [] := by
  cases more with
  | nil =>
    refine .inr ⟨rfl, ?_⟩
    rw [hl, List.append_nil]
    exact h
  | cons i0 more =>
    refine .inl ⟨done, i0, more, [], lineL i0, hl, rfl, ?_, loose_nil, h⟩
    have := textL_cons i0 more []
    rw [List.append_nil, List.append_nil] at this
    exact this
theorem ten_len (t a line b : List UInt8) (i : Nat) (h : t.length + line.length ≤ 20 * i) (ha : a.length ≤ 7) (hb : b.length ≤ 6) : (t ++ (a ++ line ++ b)).length + ([] : List UInt8).length ≤ 20 * (i + 1) := by
  simp only [List.length_append, List.length_nil]
  omega
theorem text_loop (l : List S48) (hg : ∀ i ∈ l, 0 ≤ i.f0 ∧ validB i = true) (hl : l.length ≤ 40) (bs : List Int) (hv : ∀ v ∈ bs, 0 ≤ v ∧ v ≤ 255) (hbs : 0 < bs.length) (x : ByteArray) (hx : x.size ≤ 1700) (K : Nat) (hK : 5000 ≤ K) :
    ∀ (d k i : Nat) (t line : List UInt8), i + d = x.size → K + d + 1 ≤ k → t.length + line.length ≤ 20 * i → TextInv l (x.data.toList.drop i) t line → ontimelaw05_AsmText.l0 k l bs x (str t) (str line) (i : Int) = some true := by
  intro d
  induction d with
  | zero =>
    intro k i t line hi hk hs hinv
    obtain ⟨k, rfl⟩ : ∃ m, k = m + 1 := ⟨k - 1, by omega⟩
    have hlx := size_len x
    rw [List.drop_of_length_le (by omega)] at hinv
    rcases hinv with ⟨done, i0, more, p, q, _, _, h3, _, _⟩ | ⟨_, h⟩
    · exfalso
      have := congrArg List.length h3
      rw [List.length_append, List.length_cons, List.length_nil] at this
      omega
    · obtain ⟨c, hc⟩ := h [] 0 [] (by rw [List.length_nil]; omega)
      rw [List.append_nil, List.nil_append] at hc
      have hp : parseL t = (l, 0, 0) := by
        rw [parseL_small t (by omega), hc]
        rfl
      rw [ontimelaw05_AsmText.l0, if_neg (by omega)]
      unfold asm_Parse.f
      rw [Option.bind_some, str_data, hp, if_pos rfl, if_pos rfl, same_self l (by omega) k (by omega), Option.bind_some]
  | succ d ih =>
    intro k i t line hi hk hs hinv
    obtain ⟨k, rfl⟩ : ∃ m, k = m + 1 := ⟨k - 1, by omega⟩
    have hlt : i < x.size := by omega
    have hd := drop_cons x i hlt
    rw [hd] at hinv
    rcases hinv with ⟨done, i0, more, p, q, h1, h2, h3, h4, h5⟩ | ⟨h, _⟩
    · have hi0 : i0 ∈ l := by rw [h1]; simp
      obtain ⟨g0, gv⟩ := hg i0 hi0
      cases q with
      | nil =>
        rw [List.nil_append] at h3
        obtain ⟨e1, e2⟩ := List.cons.inj h3
        obtain ⟨a, b, hab⟩ := text_ten l bs hv hbs x (by omega) i hlt e1 t line (by omega) (by omega) k
        rw [hab]
        rw [List.append_nil] at h2
        refine ih k (i + 1) _ _ (by omega) (by omega) (ten_len t (preL a) line (postL b) i hs (pre_len a) (post_len b)) ?_
        rw [e2]
        exact textInv_start l (done ++ [i0]) more _ (by rw [h1]; simp) (eats_append h5 (line_eats i0 g0 gv line (h2 ▸ h4) a b))
      | cons b q =>
        rw [List.cons_append] at h3
        obtain ⟨e1, e2⟩ := List.cons.inj h3
        have hno := lineL_no i0 g0 gv
        rw [h2] at hno
        have hb10 : ¬ b = 10 := fun e => hno.1 (by rw [e]; simp)
        have hb59 : ¬ b = 59 := fun e => hno.2 (by rw [e]; simp)
        have h2' : lineL i0 = (p ++ [b]) ++ q := by rw [h2]; simp
        by_cases hb : b = 32
        · subst hb
          obtain ⟨a, ha, hab⟩ := text_blank l bs hv hbs x (by omega) i hlt e1 t line (by omega) (by omega) k
          have hbl := blk_loose a ha
          have hbn := blk_len a
          rw [hab]
          refine ih k (i + 1) _ _ (by omega) (by omega) (by rw [List.length_append]; omega) ?_
          exact .inl ⟨done, i0, more, p ++ [32], q, h1, h2', e2, loose_snoc h4 hbl.1 hbl.2.1 hbl.2.2, h5⟩
        · rw [text_other l bs hbs x (by omega) i hlt b e1 hb10 hb t line (by omega) (by omega) k]
          refine ih k (i + 1) _ _ (by omega) (by omega) (by rw [List.length_append, List.length_singleton]; omega) ?_
          exact .inl ⟨done, i0, more, p ++ [b], q, h1, h2', e2, loose_snoc h4 (fun _ _ => rfl) (by simpa using fun e => hb10 e.symm) (by simpa using fun e => hb59 e.symm), h5⟩
    · cases h
theorem text_true (l : List S48) (bs : List Int) (K : Nat) : ontimelaw05_AsmText.j0 (K + 1) l bs true = some true := by
  rw [ontimelaw05_AsmText.j0, if_pos rfl]
theorem AsmText_pure (l : List S48) (bs : List Int) (hok : ∀ i ∈ l, opOk i = true) (hv : ∀ v ∈ bs, 0 ≤ v ∧ v ≤ 255) : ∃ k, ontimelaw05_AsmText.f k l bs = some true := by
  obtain ⟨K, hK⟩ : ∃ K : Nat, 10000 ≤ K := ⟨10000, Nat.le_refl _⟩
  refine ⟨K + 1, ?_⟩
  unfold ontimelaw05_AsmText.f
  rw [awake_eval, Option.bind_some, if_pos rfl]
  by_cases h : (l.length : Int) > 40
  · rw [if_pos h, text_true]
  · rw [if_neg h]
    by_cases h2 : (bs.length : Int) = 0
    · rw [if_pos h2, text_true]
    · rw [if_neg h2]
      by_cases h3 : (bs.length : Int) > 40
      · rw [decide_eq_true h3, text_true]
      · rw [decide_eq_false h3, ontimelaw05_AsmText.j0, if_neg (by decide), format_eval l hok, Option.bind_some]
        by_cases hva : l.all validB = true
        · have hg := all_good hok hva
          have ht := textL_len l hg
          rw [fmtL_yes l (by omega) hva, if_pos rfl]
          exact text_loop l hg (by omega) bs hv (by omega) (str (textL l)) (by rw [str_size]; omega) 5000 (by omega) (textL l).length K 0 [] [] (by rw [str_size]; omega) (by omega) (by simp) (textInv_start l [] l [] rfl eats_nil)
        · rw [fmtL_no l (by omega) hva, if_neg (by decide), valid_eval l (by omega) hok K (by omega), Option.bind_some, if_neg hva]
          rfl
end Go.Proofs.YtmgafakahbanaaaDoor.Pa
