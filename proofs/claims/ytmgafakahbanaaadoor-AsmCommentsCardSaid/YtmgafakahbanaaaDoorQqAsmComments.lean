/- The plain law AsmComments: what the functions answer, in plain words. -/
import Derived.Test.YtmgafakahbanaaaDoorPcx2
import Derived.Test.YtmgafakahbanaaaDoorPcx4
namespace Go.Proofs.YtmgafakahbanaaaDoor.Pa
open Go.RowKit Go.Proofs.YtmgafakahbanaaaDoorW.PrintWords Go.Proofs.YtmgafakahbanaaaDoorW.PrintLast Go.Proofs.YtmgafakahbanaaaDoorW.PrintMore
set_option linter.unusedVariables false
set_option linter.unusedSimpArgs false
theorem awake_eval : ontimelaw05_awake.f = some true := by kernel_rfl
theorem bt_list (x : ByteArray) (i : Nat) (h : i < x.size) : bt x (i : Int) = ((x.data.toList.getD i 0).toNat : Int) := by
  rw [bt_getD x i h]
  unfold bt
  simp [h]
theorem drop_cons (x : ByteArray) (i : Nat) (h : i < x.size) : x.data.toList.drop i = x.data.toList.getD i 0 :: x.data.toList.drop (i + 1) := by
  have hl := size_len x
  rw [List.drop_eq_getElem_cons (by omega), List.getD_eq_getElem?_getD, List.getElem?_eq_getElem (by omega)]
  rfl
theorem wrap_next (i N : Nat) (h : i < N) (hn : N ≤ 100000000) : wrap64 ((i : Int) + 1) = ((i + 1 : Nat) : Int) := by unfold wrap64; omega
theorem extract_one (x : ByteArray) (i : Nat) (h : i < x.size) : x.extract i (i + 1) = str [x.data.toList.getD i 0] := by
  have e : (x.extract i (i + 1)).data.toList = [x.data.toList.getD i 0] := by
    rw [Lib.extract_data, drop_cons x i h, show i + 1 - i = 1 by omega]
    rfl
  exact ByteArray.ext (Array.toList_inj.1 (by rw [e]; rfl))
theorem nn (n : Nat) : (0 : Int) ≤ (n : Int) := by omega
theorem same_loop (l : List S48) (hl : l.length ≤ 1000000) : ∀ (d k j : Nat), j + d = l.length → d < k → ontimeref05_Same.l0 k l l (j : Int) = some true := by
  intro d
  induction d with
  | zero =>
    intro k j hj hk
    obtain ⟨k, rfl⟩ : ∃ m, k = m + 1 := ⟨k - 1, by omega⟩
    simp only [ontimeref05_Same.l0]
    rw [if_neg (by omega)]
  | succ d ih =>
    intro k j hj hk
    obtain ⟨k, rfl⟩ : ∃ m, k = m + 1 := ⟨k - 1, by omega⟩
    simp only [ontimeref05_Same.l0, beq_self_eq_true, Bool.not_true, Bool.or_self]
    rw [if_pos (by omega), if_pos (by omega), if_pos (by omega), if_neg (by simp), wrap_next j l.length (by omega) (by omega)]
    exact ih k (j + 1) (by omega) (by omega)
theorem same_self (l : List S48) (hl : l.length ≤ 1000000) (k : Nat) (hk : l.length < k) : ontimeref05_Same.f k l l = some true := by
  unfold ontimeref05_Same.f
  rw [if_pos rfl]
  exact same_loop l hl l.length k 0 (by omega) hk
theorem parseGo_len : ∀ (ls : List (List UInt8)) (n : Nat) (out : List S48), out.length ≤ 4096 → (parseGo ls n out).1.length ≤ 4096
  | [], n, out, h => h
  | l :: ls, n, out, h => by
    rw [parseGo]
    split
    · exact parseGo_len ls _ _ h
    · split
      · simp
      · split
        · simp
        · rename_i hne
          exact parseGo_len ls _ _ (by simp; omega)
theorem parseL_len (s : List UInt8) : (parseL s).1.length ≤ 4096 := by
  unfold parseL
  split
  · simp
  · exact parseGo_len _ _ _ (by simp)
theorem linesL_line (a rest : List UInt8) (h : (10 : UInt8) ∉ a) : linesL (a ++ 10 :: rest) = a :: linesL rest := by
  induction a with
  | nil => simp [linesL]
  | cons b a ih =>
    have hb : ¬ b = 10 := fun e => h (by simp [e])
    rw [List.cons_append, linesL, if_neg hb, ih (fun hm => h (List.mem_cons_of_mem _ hm))]
theorem parseL_small (s : List UInt8) (h : s.length ≤ 65536) : parseL s = parseGo (linesL s) 0 [] := by
  unfold parseL
  rw [if_neg (by omega)]
def plainL : Bool → List UInt8 → List UInt8
  | _, [] => []
  | sk, b :: l => if b = 10 then 10 :: plainL false l else if b = 59 then plainL true l else if sk = true then plainL true l else b :: plainL false l
def comL : List UInt8 := [32, 59, 32, 115, 116, 32, 114, 49, 32, 114, 50, 32, 51]
def moreL : List UInt8 → List UInt8
  | [] => []
  | b :: l => if b = 10 then comL ++ 10 :: moreL l else b :: moreL l
theorem linesL_ten (l : List UInt8) : linesL (10 :: l) = [] :: linesL l := by rw [linesL, if_pos rfl]
theorem linesL_other (b : UInt8) (l x : List UInt8) (xs : List (List UInt8)) (hb : ¬ b = 10) (h : linesL l = x :: xs) : linesL (b :: l) = (b :: x) :: xs := by
  rw [linesL, if_neg hb, h]
theorem codeL_other (b : UInt8) (x : List UInt8) (hb : ¬ b = 59) : codeL (b :: x) = b :: codeL x := by
  unfold codeL
  rw [List.takeWhile_cons_of_pos (by simpa using hb)]
theorem plain_lines : ∀ l : List UInt8, linesL (plainL false l) = (linesL l).map codeL ∧ linesL (plainL true l) = [] :: (linesL l).tail.map codeL
  | [] => ⟨rfl, rfl⟩
  | b :: l => by
    obtain ⟨h1, h2⟩ := plain_lines l
    by_cases hb : b = 10
    · subst hb
      refine ⟨?_, ?_⟩
      · rw [plainL, if_pos rfl, linesL_ten, linesL_ten, h1]; rfl
      · rw [plainL, if_pos rfl, linesL_ten, linesL_ten, h1]; rfl
    · cases hl : linesL l with
      | nil => exact absurd hl (linesL_ne l)
      | cons x xs =>
        rw [hl] at h1 h2
        rw [linesL_other b l x xs hb hl]
        by_cases hs : b = 59
        · subst hs
          refine ⟨?_, ?_⟩
          · rw [plainL, if_neg hb, if_pos rfl, h2]; rfl
          · rw [plainL, if_neg hb, if_pos rfl, h2]; rfl
        · refine ⟨?_, ?_⟩
          · rw [plainL, if_neg hb, if_neg hs, if_neg (by decide), linesL_other b _ _ _ hb h1, List.map_cons, codeL_other b x hs]
          · rw [plainL, if_neg hb, if_neg hs, if_pos rfl, h2]; rfl
theorem codeL_twice (l : List UInt8) : codeL (codeL l) = codeL l := by
  induction l with
  | nil => rfl
  | cons b l ih =>
    by_cases hb : b = 59
    · subst hb; rfl
    · rw [codeL_other b l hb, codeL_other b _ hb, ih]
theorem parseGo_map (f : List UInt8 → List UInt8) (hf : ∀ l, wordsL (f l) = wordsL l) : ∀ (ls : List (List UInt8)) (n : Nat) (out : List S48), parseGo (ls.map f) n out = parseGo ls n out
  | [], n, out => rfl
  | l :: ls, n, out => by
    rw [List.map_cons, parseGo, parseGo, hf l]
    simp only [parseGo_map f hf ls]
def addC : List (List UInt8) → List (List UInt8)
  | [] => []
  | x :: xs => (if xs = [] then x else x ++ comL) :: addC xs
theorem more_lines : ∀ l : List UInt8, linesL (moreL l) = addC (linesL l)
  | [] => rfl
  | b :: l => by
    have ih := more_lines l
    by_cases hb : b = 10
    · subst hb
      rw [moreL, if_pos rfl, linesL_ten, linesL_line comL _ (by decide), ih, addC, if_neg (linesL_ne l)]
      rfl
    · cases hl : linesL l with
      | nil => exact absurd hl (linesL_ne l)
      | cons x xs =>
        rw [hl, addC] at ih
        rw [linesL_other b l x xs hb hl, moreL, if_neg hb, linesL_other b _ _ _ hb ih, addC]
        by_cases hx : xs = []
        · rw [if_pos hx, if_pos hx]
        · rw [if_neg hx, if_neg hx]; rfl
theorem if_is {p q : Prop} [Decidable p] [Decidable q] (h : p ↔ q) {α : Type} (x y : α) : (if p then x else y) = if q then x else y := by
  by_cases hq : q
  · rw [if_pos hq, if_pos (h.2 hq)]
  · rw [if_neg hq, if_neg (fun hp => hq (h.1 hp))]
theorem fieldsGo_nil (cur : List UInt8) : fieldsGo cur [] = if cur = [] then [] else [cur] := by rw [fieldsGo]
theorem fieldsGo_cons (cur : List UInt8) (b : UInt8) (l : List UInt8) : fieldsGo cur (b :: l) = if blankB b = true then (if cur = [] then fieldsGo [] l else cur :: fieldsGo [] l) else fieldsGo (cur ++ [b]) l := by rw [fieldsGo]
theorem fieldsGo_end : ∀ (l cur : List UInt8), fieldsGo cur (l ++ [32]) = fieldsGo cur l
  | [], cur => by
    rw [List.nil_append, fieldsGo_cons, if_pos (show blankB 32 = true from rfl), fieldsGo_nil, fieldsGo_nil]
    by_cases hc : cur = []
    · rw [if_pos hc, if_pos hc]; rfl
    · rw [if_neg hc, if_neg hc]; rfl
  | b :: l, cur => by
    rw [List.cons_append, fieldsGo_cons, fieldsGo_cons, fieldsGo_end l [], fieldsGo_end l (cur ++ [b])]
theorem codeL_com : ∀ x : List UInt8, codeL (x ++ comL) = codeL x ∨ codeL (x ++ comL) = codeL x ++ [32]
  | [] => .inr rfl
  | b :: x => by
    by_cases hb : b = 59
    · subst hb; exact .inl rfl
    · rw [List.cons_append, codeL_other b _ hb, codeL_other b _ hb]
      rcases codeL_com x with h | h
      · exact .inl (by rw [h])
      · exact .inr (by rw [h]; rfl)
theorem wordsL_com (x : List UInt8) : wordsL (x ++ comL) = wordsL x := by
  unfold wordsL
  rcases codeL_com x with h | h
  · rw [h]
  · rw [h, fieldsGo_end]
theorem parseGo_addC : ∀ (ls : List (List UInt8)) (n : Nat) (out : List S48), parseGo (addC ls) n out = parseGo ls n out
  | [], n, out => rfl
  | l :: ls, n, out => by
    rw [addC]
    by_cases h : ls = []
    · subst h; rw [if_pos rfl]; rfl
    · rw [if_neg h, parseGo, parseGo, wordsL_com]
      simp only [parseGo_addC ls]
theorem plainL_len : ∀ (l : List UInt8) (sk : Bool), (plainL sk l).length ≤ l.length
  | [], sk => by cases sk <;> exact Nat.le_refl _
  | b :: l, sk => by
    have h1 := plainL_len l false
    have h2 := plainL_len l true
    rw [plainL]
    split
    · simp only [List.length_cons]; omega
    · split
      · simp only [List.length_cons]; omega
      · split
        · simp only [List.length_cons]; omega
        · simp only [List.length_cons]; omega
theorem moreL_len : ∀ (l : List UInt8), (moreL l).length ≤ 14 * l.length
  | [] => Nat.le_refl _
  | b :: l => by
    have h1 := moreL_len l
    have hc : comL.length = 13 := rfl
    rw [moreL]
    split
    · rw [List.length_append, hc, List.length_cons, List.length_cons]; omega
    · rw [List.length_cons, List.length_cons]; omega
theorem parseL_plain (s : List UInt8) (h : s.length ≤ 400) : parseL (plainL false s) = parseL s := by
  have := plainL_len s false
  rw [parseL_small _ (by omega), parseL_small _ (by omega), (plain_lines s).1, parseGo_map codeL (fun l => by unfold wordsL; rw [codeL_twice])]
theorem parseL_more (s : List UInt8) (h : s.length ≤ 400) : parseL (moreL s) = parseL s := by
  have := moreL_len s
  rw [parseL_small _ (by omega), parseL_small _ (by omega), more_lines, parseGo_addC]
theorem extract_next (x : ByteArray) (i : Nat) (h : i < x.size) (hx : x.size ≤ 1000000) : x.extract ((i : Int)).toNat (wrap64 ((i : Int) + 1)).toNat = str [x.data.toList.getD i 0] := by
  rw [wrap_next i x.size h (by omega), Int.toNat_natCast, Int.toNat_natCast, extract_one x i h]
theorem next_le (i n : Nat) (h : i < n) (hn : n ≤ 1000000) : (i : Int) ≤ wrap64 ((i : Int) + 1) ∧ wrap64 ((i : Int) + 1) ≤ (n : Int) := by unfold wrap64; omega
theorem one_size (acc : List UInt8) (b : UInt8) (h : acc.length ≤ 100000000) : (str acc).size + (str [b]).size ≤ 9223372036854775807 := by
  rw [str_size, str_size, List.length_singleton]; omega
theorem getD_toNat (b : UInt8) (c : UInt8) : ((b.toNat : Nat) : Int) = (c.toNat : Int) ↔ b = c := by
  constructor
  · intro h
    exact UInt8.toNat_inj.1 (by omega)
  · intro h; rw [h]
theorem is10 (b : UInt8) : ((b.toNat : Nat) : Int) = 10 ↔ b = 10 := getD_toNat b 10
theorem is59 (b : UInt8) : ((b.toNat : Nat) : Int) = 59 ↔ b = 59 := getD_toNat b 59
theorem lt_int (i n : Nat) (h : i < n) : (i : Int) < (n : Int) := by omega
theorem plainer_j1 (x : ByteArray) (hx : x.size ≤ 1000000) (i : Nat) (hi : i < x.size) (acc : List UInt8) (ha : acc.length ≤ 1000000) (sk : Bool) (k : Nat) :
    ontimelaw05_plainer.j1 (k + 1) x (str acc) sk (i : Int) = if x.data.toList.getD i 0 = 10 then ontimelaw05_plainer.l0 k x (str (acc ++ [10])) false ((i + 1 : Nat) : Int)
      else if sk = true then ontimelaw05_plainer.l0 k x (str acc) true ((i + 1 : Nat) : Int) else ontimelaw05_plainer.l0 k x (str (acc ++ [x.data.toList.getD i 0])) false ((i + 1 : Nat) : Int) := by
  have hn := next_le i x.size hi hx
  have he := extract_next x i hi hx
  have hw := wrap_next i x.size hi (by omega)
  have hsz := one_size acc (x.data.toList.getD i 0) (by omega)
  simp only [ontimelaw05_plainer.j1]
  rw [if_pos (nn i), if_pos (lt_int i _ hi), bt_list x i hi, he]
  simp only [if_pos hn.1, if_pos hn.2, if_pos hsz]
  rw [hw, str_append]
  rw [if_is (is10 _)]
  by_cases h : x.data.toList.getD i 0 = 10
  · rw [if_pos h, if_pos h, h]
  · rw [if_neg h, if_neg h]
    cases sk with
    | true => rw [if_pos rfl, if_pos rfl]
    | false => rw [if_neg (by decide), if_neg (by decide)]
theorem plainer_loop (x : ByteArray) (hx : x.size ≤ 1000) : ∀ (d k i : Nat) (acc : List UInt8) (sk : Bool), i + d = x.size → 2 * d + 1 ≤ k → acc.length ≤ i →
    ontimelaw05_plainer.l0 k x (str acc) sk (i : Int) = some (str (acc ++ plainL sk (x.data.toList.drop i))) := by
  intro d
  induction d with
  | zero =>
    intro k i acc sk hi hk ha
    obtain ⟨k, rfl⟩ : ∃ m, k = m + 1 := ⟨k - 1, by omega⟩
    have hl := size_len x
    simp only [ontimelaw05_plainer.l0]
    rw [if_neg (by omega), List.drop_of_length_le (by omega)]
    cases sk <;> simp [plainL]
  | succ d ih =>
    intro k i acc sk hi hk ha
    obtain ⟨k, rfl⟩ : ∃ m, k = m + 1 + 1 := ⟨k - 2, by omega⟩
    have hlt : i < x.size := by omega
    have hd := drop_cons x i hlt
    have ih1 := fun a s (h : a.length ≤ i + 1) => ih k (i + 1) a s (by omega) (by omega) h
    have hj := fun s => plainer_j1 x (by omega) i hlt acc (by omega) s k
    rw [ontimelaw05_plainer.l0, if_pos (lt_int i _ hlt), if_pos (nn i), bt_list x i hlt, hj true, hj sk, hd]
    generalize x.data.toList.getD i 0 = b at *
    rw [if_is (is59 b)]
    by_cases h10 : b = 10
    · subst h10
      rw [if_neg (by decide), if_pos rfl, ih1 _ _ (by rw [List.length_append, List.length_singleton]; omega), plainL, if_pos rfl, List.append_assoc]
      rfl
    · rw [plainL, if_neg h10, if_neg h10, if_neg h10]
      by_cases h59 : b = 59
      · rw [if_pos h59, if_pos h59, if_pos rfl, ih1 _ _ (by omega)]
      · rw [if_neg h59, if_neg h59]
        by_cases hs : sk = true
        · rw [if_pos hs, if_pos hs, ih1 _ _ (by omega)]
        · rw [if_neg hs, if_neg hs, ih1 _ _ (by rw [List.length_append, List.length_singleton]; omega), List.append_assoc]
          rfl
theorem plainer_eval (x : ByteArray) (hx : x.size ≤ 1000) (k : Nat) (hk : 2 * x.size + 1 ≤ k) : ontimelaw05_plainer.f k x = some (str (plainL false x.data.toList)) := by
  have h := plainer_loop x hx x.size k 0 [] false (by omega) hk (by simp)
  rw [List.drop_zero, List.nil_append] at h
  exact h
theorem com_str : (⟨#[32, 59, 32, 115, 116, 32, 114, 49, 32, 114, 50, 32, 51]⟩ : ByteArray) = str comL := rfl
theorem more_loop (x : ByteArray) (hx : x.size ≤ 400) (K : Nat) (hK : 5000 ≤ K) : ∀ (d k i : Nat) (acc : List UInt8), i + d = x.size → K + d + 1 ≤ k → acc.length ≤ 14 * i → acc ++ moreL (x.data.toList.drop i) = moreL x.data.toList →
    ontimelaw05_AsmComments.l0 k x (str acc) (i : Int) = some true := by
  intro d
  induction d with
  | zero =>
    intro k i acc hi hk ha hm
    obtain ⟨k, rfl⟩ : ∃ m, k = m + 1 := ⟨k - 1, by omega⟩
    have hl := size_len x
    have hlen := parseL_len x.data.toList
    rw [List.drop_of_length_le (by omega), moreL, List.append_nil] at hm
    rw [ontimelaw05_AsmComments.l0, if_neg (by omega)]
    unfold asm_Parse.f
    rw [Option.bind_some, plainer_eval x (by omega) k (by omega), Option.bind_some, Option.bind_some, Option.bind_some, str_data, str_data, hm, parseL_plain _ (by omega), parseL_more _ (by omega), if_pos rfl, if_pos rfl, if_pos rfl, if_pos rfl, same_self _ (by omega) k (by omega), Option.bind_some, if_pos rfl, Option.bind_some]
  | succ d ih =>
    intro k i acc hi hk ha hm
    obtain ⟨k, rfl⟩ : ∃ m, k = m + 1 := ⟨k - 1, by omega⟩
    have hlt : i < x.size := by omega
    have hc : comL.length = 13 := rfl
    have hd := drop_cons x i hlt
    have hn := next_le i x.size hlt (by omega)
    have he := extract_next x i hlt (by omega)
    have hw := wrap_next i x.size hlt (by omega)
    have hs1 := one_size acc (x.data.toList.getD i 0) (by omega)
    have hs2 := one_size (acc ++ comL) (x.data.toList.getD i 0) (by rw [List.length_append]; omega)
    have hs3 : (str acc).size + 13 ≤ 9223372036854775807 := by rw [str_size]; omega
    rw [ontimelaw05_AsmComments.l0, if_pos (lt_int i _ hlt), if_pos (nn i), bt_list x i hlt, he, com_str, str_append]
    simp only [if_pos hs3, if_pos hn.1, if_pos hn.2, if_pos hs2, if_pos hs1]
    rw [str_append, str_append, hw]
    rw [hd] at hm
    generalize x.data.toList.getD i 0 = b at *
    rw [if_is (is10 b)]
    by_cases h10 : b = 10
    · rw [if_pos h10]
      refine ih k (i + 1) _ (by omega) (by omega) (by rw [List.length_append, List.length_append, List.length_singleton]; omega) ?_
      rw [← hm, moreL, if_pos h10, h10]
      simp
    · rw [if_neg h10]
      refine ih k (i + 1) _ (by omega) (by omega) (by rw [List.length_append, List.length_singleton]; omega) ?_
      rw [← hm, moreL, if_neg h10]
      simp
theorem AsmComments_pure (a0 : ByteArray) : ∃ k, ontimelaw05_AsmComments.f k a0 = some true := by
  obtain ⟨K, hK⟩ : ∃ K : Nat, 5000 ≤ K := ⟨5000, Nat.le_refl _⟩
  refine ⟨K + 1000, ?_⟩
  unfold ontimelaw05_AsmComments.f
  rw [awake_eval, Option.bind_some, if_pos rfl]
  by_cases h : (a0.size : Int) > 400
  · rw [if_pos h]
  · rw [if_neg h]
    exact more_loop a0 (by omega) K hK a0.size (K + 1000) 0 [] (by omega) (by omega) (by simp) (by rw [List.drop_zero, List.nil_append])
end Go.Proofs.YtmgafakahbanaaaDoor.Pa
