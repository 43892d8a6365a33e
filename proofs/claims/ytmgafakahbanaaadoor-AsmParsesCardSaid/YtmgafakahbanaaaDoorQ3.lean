import Derived.Test.YtmgafakahbanaaaDoorQ2
namespace Go.Proofs.YtmgafakahbanaaaDoor.Pa
open Go.RowKit Go.Proofs.YtmgafakahbanaaaDoorW.PrintWords Go.Proofs.YtmgafakahbanaaaDoorW.PrintLast Go.Proofs.YtmgafakahbanaaaDoorW.PrintMore
set_option linter.unusedVariables false
set_option linter.unusedSimpArgs false

/-! ### the reference's Parse -/
def lineLen (l : List UInt8) : Nat := (l.takeWhile fun b => b != 10).length
theorem lineLen_le (l : List UInt8) : lineLen l ≤ l.length := List.Sublist.length_le (List.takeWhile_sublist _)
theorem take_lineLen (l : List UInt8) : l.take (lineLen l) = l.takeWhile fun b => b != 10 :=
  (List.prefix_iff_eq_take.1 (List.takeWhile_prefix _)).symm
theorem at_line (l : List UInt8) : ∀ i, i < lineLen l → l.getD i 0 ≠ 10 := by
  intro i hi
  have hl := lineLen_le l
  have h1 : (l.take (lineLen l))[i]? = l[i]? := by rw [List.getElem?_take, if_pos hi]
  rw [take_lineLen] at h1
  rw [List.getElem?_eq_getElem (show i < l.length by omega)] at h1
  have hm := List.mem_of_getElem? h1
  have := List.all_eq_true.1 (List.all_takeWhile (p := fun b : UInt8 => b != 10) (l := l)) _ hm
  rw [List.getD_eq_getElem?_getD, List.getElem?_eq_getElem (show i < l.length by omega)]
  simpa using this
theorem at_end : ∀ (l : List UInt8), lineLen l < l.length → l.getD (lineLen l) 0 = 10
  | [], h => by simp at h
  | b :: l, h => by
    by_cases hb : b = 10
    · subst hb
      rfl
    · have e : lineLen (b :: l) = lineLen l + 1 := by
        unfold lineLen
        rw [List.takeWhile_cons_of_pos (by simpa using hb)]
        rfl
      rw [e] at h ⊢
      have := at_end l (by simpa using h)
      simpa using this
theorem parse_step (L : List UInt8) (n : Nat) (out : List S48) : parseGo (linesL L) n out =
    if wordsL (L.take (lineLen L)) = [] then parseGo (linesL (L.drop (lineLen L + 1))) (n + 1) out
    else match decO (wordsL (L.take (lineLen L))) with
      | none => ([], (n : Int) + 1, 3)
      | some i => if out.length = 4096 then ([], (n : Int) + 1, 5) else parseGo (linesL (L.drop (lineLen L + 1))) (n + 1) (out ++ [i]) := by
  have hle := lineLen_le L
  by_cases h : lineLen L < L.length
  · rw [linesL_cut L (lineLen L) h (take_lineLen L), parseGo]
    rfl
  · have e : lineLen L = L.length := by omega
    have hn : (10 : UInt8) ∉ L := by
      intro hm
      obtain ⟨i, hi, he⟩ := List.getElem_of_mem hm
      refine at_line L i (by omega) ?_
      rw [List.getD_eq_getElem?_getD, List.getElem?_eq_getElem hi]
      exact he
    have hend : ∀ m o, parseGo (linesL ([] : List UInt8)) m o = parseGo [] m o := fun m o => rfl
    rw [e, List.take_length, List.drop_of_length_le (by omega), linesL_none L hn, parseGo]
    simp only [hend]
    rfl
theorem pl1_loop (x : ByteArray) (hx : x.size ≤ 100000) (out : List S48) (line : Int) (r : List S48 × Int × Int) (K : Nat) (hr : ∀ k, K ≤ k → ontimeref05_Parse.j2 k x out line ((lineLen x.data.toList : Nat) : Int) = some r) :
    ∀ (d k i : Nat), i + d = lineLen x.data.toList → K + d + 1 ≤ k → ontimeref05_Parse.l1 k x out line (i : Int) = some r := by
  have hl := size_len x
  have hle := lineLen_le x.data.toList
  intro d
  induction d with
  | zero =>
    intro k i hi hk
    obtain ⟨k, rfl⟩ : ∃ m, k = m + 1 := ⟨k - 1, by omega⟩
    have ei : i = lineLen x.data.toList := by omega
    simp only [ontimeref05_Parse.l1]
    by_cases hlt : i < x.size
    · have h10 := at_end x.data.toList (by omega)
      rw [← ei] at h10
      rw [if_pos (by omega), if_pos (by omega), bt_list x i hlt, h10, if_pos (show ((UInt8.toNat 10 : Nat) : Int) = 10 from rfl), ei]
      exact hr k (by omega)
    · rw [if_neg (by omega), ei]
      exact hr k (by omega)
  | succ d ih =>
    intro k i hi hk
    obtain ⟨k, rfl⟩ : ∃ m, k = m + 1 := ⟨k - 1, by omega⟩
    have hlt : i < x.size := by omega
    have hne := at_line x.data.toList i (by omega)
    simp only [ontimeref05_Parse.l1]
    rw [if_pos (by omega), if_pos (by omega), bt_list x i hlt, if_neg (fun e => hne (UInt8.toNat_inj.1 (by have : (10 : UInt8).toNat = 10 := rfl; omega))), wrap_next i x.size hlt (by omega)]
    exact ih k (i + 1) (by omega) (by omega)
theorem lineR_parts (l : List UInt8) : lineR l = if wordsL l = [] then (0, 0, 0, 0, 0, 0) else match decO (wordsL l) with
    | some i => (i.f0, i.f1, i.f2, i.f3, i.f4, 1)
    | none => (0, 0, 0, 0, 0, -1) := by
  unfold lineR readR
  rfl
theorem extract_to (x : ByteArray) (m : Nat) : (x.extract 0 m).data.toList = x.data.toList.take m := by
  rw [Lib.extract_data, List.drop_zero, Nat.sub_zero]
theorem extract_from (x : ByteArray) (m : Nat) : (x.extract m x.size).data.toList = x.data.toList.drop m := by
  have hl := size_len x
  rw [Lib.extract_data, List.take_of_length_le (by rw [List.length_drop]; omega)]
theorem mn_next (m s : Nat) (hm : m ≤ s) (hs : s ≤ 100000) : mn (wrap64 ((m : Int) + 1)) (s : Int) = ((min (m + 1) s : Nat) : Int) := by
  rw [wrap_next m (s + 1) (by omega) (by omega)]
  unfold mn
  split <;> omega
theorem wrap_two (n : Nat) (hn : n ≤ 300000) : wrap64 (((n : Int) + 1) + 1) = (((n + 1 : Nat) : Int) + 1) := by unfold wrap64; omega
theorem rest_data (x : ByteArray) (m : Nat) (hm : m ≤ x.size) : (x.extract (min (m + 1) x.size) x.size).data.toList = x.data.toList.drop (m + 1) := by
  have hl := size_len x
  rw [extract_from]
  by_cases h : m + 1 ≤ x.size
  · rw [Nat.min_eq_left h]
  · rw [Nat.min_eq_right (by omega), List.drop_of_length_le (by omega), List.drop_of_length_le (by omega)]
theorem rest_size (x : ByteArray) (m : Nat) (hm : m ≤ x.size) (h0 : x.size ≠ 0) : (x.extract (min (m + 1) x.size) x.size).size + 1 ≤ x.size := by rw [ByteArray.size_extract]; omega
theorem head_size (x : ByteArray) (m : Nat) : (x.extract 0 m).size ≤ x.size ∧ (x.extract 0 m).size ≤ m := by rw [ByteArray.size_extract]; omega
theorem rest_sub (x : ByteArray) (m : Nat) : (x.extract (min (m + 1) x.size) x.size).size ≤ x.size - 1 - m := by rw [ByteArray.size_extract]; omega
theorem len_lt (n : Nat) (h : n ≤ 4096) : n < 3518437208883 := by omega
theorem len_ge (n : Nat) (h : n = 4096) : (n : Int) ≥ 4096 := by omega
theorem len_nge (n : Nat) (h : n ≤ 4096) (h' : ¬ n = 4096) : ¬ (n : Int) ≥ 4096 := by omega
theorem nn (n : Nat) : (0 : Int) ≤ (n : Int) := by omega
theorem min_le_int (m s : Nat) : ((min (m + 1) s : Nat) : Int) ≤ (s : Int) := by omega
theorem j2_step (x : ByteArray) (k m n : Nat) (out : List S48) (hm : m ≤ x.size) (hx : x.size ≤ 100000) (hn : n ≤ 300000) (hout : out.length ≤ 4096)
    (hread : ontimeref05_Read.f k (x.extract 0 m) = some (lineR (x.data.toList.take m))) (rest : List (List UInt8))
    (hnext : ∀ o : List S48, o.length ≤ 4096 → ontimeref05_Parse.l0 k (x.extract (min (m + 1) x.size) x.size) o (((n + 1 : Nat) : Int) + 1) = some (parseGo rest (n + 1) o)) :
    ontimeref05_Parse.j2 (k + 1) x out ((n : Int) + 1) (m : Int) = some (if wordsL (x.data.toList.take m) = [] then parseGo rest (n + 1) out
    else match decO (wordsL (x.data.toList.take m)) with
      | none => ([], (n : Int) + 1, 3)
      | some i => if out.length = 4096 then ([], (n : Int) + 1, 5) else parseGo rest (n + 1) (out ++ [i])) := by
  simp only [ontimeref05_Parse.j2]
  rw [if_pos (nn m), if_pos (Int.ofNat_le.2 hm), Int.toNat_natCast, hread, Option.bind_some, mn_next m x.size hm hx, wrap_two n hn, Int.toNat_natCast, lineR_parts]
  simp only [if_pos (nn (min (m + 1) x.size)), if_pos (min_le_int m x.size)]
  generalize wordsL (x.data.toList.take m) = W
  by_cases hwd : W = []
  · rw [if_pos hwd, if_pos hwd]
    dsimp only
    rw [if_neg (show ¬ (0 : Int) < 0 by decide), if_neg (show ¬ (0 : Int) = 1 by decide)]
    exact hnext out hout
  · rw [if_neg hwd, if_neg hwd]
    cases hd : decO W with
    | none => rfl
    | some i =>
      by_cases hf : out.length = 4096
      · have h1 := len_ge _ hf
        dsimp only
        rw [if_neg (show ¬ (1 : Int) < 0 by decide), if_pos (show (1 : Int) = 1 from rfl), if_pos h1, if_pos hf]
      · have h1 := len_nge _ hout hf
        have h2 := len_lt _ hout
        have h3 := hnext (out ++ [i]) (by rw [List.length_append, List.length_singleton]; omega)
        dsimp only
        rw [if_neg (show ¬ (1 : Int) < 0 by decide), if_pos (show (1 : Int) = 1 from rfl), if_neg h1, if_neg hf, if_pos h2]
        exact h3
theorem fuel_j2 (k s m : Nat) (h : 4 * s + 200 ≤ k + 1) (hm : m ≤ s) (h0 : s ≠ 0) : 3 * m + 112 + m + 1 ≤ k ∧ 4 * (s - 1 - m) + 201 + m + 1 ≤ k := by omega
theorem parse_loop : ∀ (N : Nat) (x : ByteArray), x.size ≤ N → x.size ≤ 100000 → ∀ (k n : Nat) (out : List S48), 4 * x.size + 200 ≤ k → out.length ≤ 4096 → n + x.size ≤ 200000 →
    ontimeref05_Parse.l0 k x out ((n : Int) + 1) = some (parseGo (linesL x.data.toList) n out) := by
  intro N
  induction N with
  | zero =>
    intro x hxN hx k n out hk hout hn
    have hl := size_len x
    obtain ⟨k, rfl⟩ : ∃ m, k = m + 1 := ⟨k - 1, by omega⟩
    have e : x.data.toList = [] := List.eq_nil_of_length_eq_zero (by omega)
    simp only [ontimeref05_Parse.l0]
    rw [if_neg (by omega), e]
    rfl
  | succ N ih =>
    intro x hxN hx k n out hk hout hn
    have hl := size_len x
    obtain ⟨k, rfl⟩ : ∃ m, k = m + 1 := ⟨k - 1, by omega⟩
    by_cases h0 : x.size = 0
    · have e : x.data.toList = [] := List.eq_nil_of_length_eq_zero (by omega)
      simp only [ontimeref05_Parse.l0]
      rw [if_neg (by omega), e]
      rfl
    · simp only [ontimeref05_Parse.l0]
      rw [if_pos (show (x.size : Int) > 0 by omega), parse_step]
      have hle : lineLen x.data.toList ≤ x.size := hl ▸ lineLen_le x.data.toList
      have hf := fuel_j2 k x.size (lineLen x.data.toList) hk hle h0
      refine pl1_loop x hx out ((n : Int) + 1) _ (max (3 * lineLen x.data.toList + 112) (4 * (x.size - 1 - lineLen x.data.toList) + 201)) ?_ (lineLen x.data.toList) k 0 (Nat.zero_add _) ?_
      · intro k hk2
        have hk3 : 3 * lineLen x.data.toList + 112 ≤ k := Nat.le_trans (Nat.le_max_left _ _) hk2
        have hk4 : 4 * (x.size - 1 - lineLen x.data.toList) + 201 ≤ k := Nat.le_trans (Nat.le_max_right _ _) hk2
        clear hk2 hf
        obtain ⟨k, rfl⟩ : ∃ m, k = m + 1 := ⟨k - 1, by omega⟩
        have hs1 := head_size x (lineLen x.data.toList)
        have hs2 := rest_size x (lineLen x.data.toList) hle h0
        have hs3 := rest_sub x (lineLen x.data.toList)
        refine j2_step x k (lineLen x.data.toList) n out hle hx (by omega) hout ?_ _ ?_
        · have hr := read_eval (x.extract 0 (lineLen x.data.toList)) (Nat.le_trans hs1.1 hx) k (by omega)
          rw [extract_to] at hr
          exact hr
        · intro o ho
          have hr := ih (x.extract (min (lineLen x.data.toList + 1) x.size) x.size) (by omega) (by omega) k (n + 1) o (by omega) ho (by omega)
          rw [rest_data x _ hle] at hr
          exact hr
      · rcases Nat.le_total (3 * lineLen x.data.toList + 112) (4 * (x.size - 1 - lineLen x.data.toList) + 201) with h | h
        · rw [Nat.max_eq_right h]
          exact hf.2
        · rw [Nat.max_eq_left h]
          exact hf.1
theorem refParse_eval (x : ByteArray) (k : Nat) (hk : 300000 ≤ k) : ontimeref05_Parse.f k x = some (parseL x.data.toList) := by
  have hl := size_len x
  unfold ontimeref05_Parse.f parseL
  by_cases h : x.size > 65536
  · rw [if_pos (by omega), if_pos (by omega)]
  · rw [if_neg (by omega), if_neg (by omega)]
    exact parse_loop x.size x (Nat.le_refl _) (by omega) k 0 [] (by omega) (by simp) (by omega)
theorem same_loop (l : List S48) (hl : l.length ≤ 1000000) : ∀ (d k j : Nat), j + d = l.length → d < k → ontimeref05_Same.l0 k l l (j : Int) = some true := by
  intro d
  induction d with
  | zero =>
    intro k j hj hk
    obtain ⟨k, rfl⟩ : ∃ m, k = m + 1 := ⟨k - 1, by omega⟩
    simp only [ontimeref05_Same.l0]
    rw [if_neg (by omega)]
  | succ d ih =>
    intro k j hj hk
    obtain ⟨k, rfl⟩ : ∃ m, k = m + 1 := ⟨k - 1, by omega⟩
    simp only [ontimeref05_Same.l0, beq_self_eq_true, Bool.not_true, Bool.or_self]
    rw [if_pos (by omega), if_pos (by omega), if_pos (by omega), if_neg (by simp), wrap_next j l.length (by omega) (by omega)]
    exact ih k (j + 1) (by omega) (by omega)
theorem same_self (l : List S48) (hl : l.length ≤ 1000000) (k : Nat) (hk : l.length < k) : ontimeref05_Same.f k l l = some true := by
  unfold ontimeref05_Same.f
  rw [if_pos rfl]
  exact same_loop l hl l.length k 0 (by omega) hk
theorem parseGo_len : ∀ (ls : List (List UInt8)) (n : Nat) (out : List S48), out.length ≤ 4096 → (parseGo ls n out).1.length ≤ 4096
  | [], n, out, h => h
  | l :: ls, n, out, h => by
    rw [parseGo]
    split
    · exact parseGo_len ls _ _ h
    · split
      · simp
      · split
        · simp
        · rename_i hne
          exact parseGo_len ls _ _ (by simp; omega)
theorem parseL_len (s : List UInt8) : (parseL s).1.length ≤ 4096 := by
  unfold parseL
  split
  · simp
  · exact parseGo_len _ _ _ (by simp)
theorem AsmParses_pure (a0 : ByteArray) : ∃ k, ontimelaw05_AsmParses.f k a0 = some true := by
  obtain ⟨K, hK⟩ : ∃ K : Nat, 300000 ≤ K := ⟨300000, Nat.le_refl _⟩
  refine ⟨K, ?_⟩
  have hlen := parseL_len a0.data.toList
  unfold ontimelaw05_AsmParses.f
  rw [awake_eval, Option.bind_some, if_pos rfl]
  by_cases h : (a0.size : Int) > 600
  · rw [if_pos h]
  · rw [if_neg h]
    unfold asm_Parse.f
    rw [Option.bind_some, refParse_eval a0 K hK, Option.bind_some, same_self _ (by omega) K (by omega), Option.bind_some, if_pos rfl, if_pos rfl, beq_self_eq_true]
end Go.Proofs.YtmgafakahbanaaaDoor.Pa
