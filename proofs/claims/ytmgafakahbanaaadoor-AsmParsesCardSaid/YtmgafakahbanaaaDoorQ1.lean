import Derived.Test.YtmgafakahbanaaaDoorQ0
namespace Go.Proofs.YtmgafakahbanaaaDoor.Pa
open Go.RowKit Go.Proofs.YtmgafakahbanaaaDoorW.PrintWords Go.Proofs.YtmgafakahbanaaaDoorW.PrintLast Go.Proofs.YtmgafakahbanaaaDoorW.PrintMore
set_option linter.unusedVariables false
set_option linter.unusedSimpArgs false

theorem raise_to {α : Type} (f : Nat → Option α) (hm : ∀ k, LeO (f k) (f (k + 1))) {k : Nat} {r : α} (h : f k = some r) : ∀ k', k ≤ k' → f k' = some r := by
  intro k' hk
  obtain ⟨d, rfl⟩ := Nat.exists_eq_add_of_le hk
  clear hk
  induction d with
  | zero => exact h
  | succ d ih => exact hm (k + d) r ih
theorem bt_list (x : ByteArray) (i : Nat) (h : i < x.size) : bt x (i : Int) = ((x.data.toList.getD i 0).toNat : Int) := by
  rw [bt_getD x i h]
  unfold bt
  simp [h]
theorem drop_cons (x : ByteArray) (i : Nat) (h : i < x.size) : x.data.toList.drop i = x.data.toList.getD i 0 :: x.data.toList.drop (i + 1) := by
  have hl := size_len x
  rw [List.drop_eq_getElem_cons (by omega), List.getD_eq_getElem?_getD, List.getElem?_eq_getElem (by omega)]
  rfl
theorem wrap_next (i N : Nat) (h : i < N) (hn : N ≤ 100000000) : wrap64 ((i : Int) + 1) = ((i + 1 : Nat) : Int) := by unfold wrap64; omega

/-! ### the reference's numbers -/
def digB (b : UInt8) : Bool := decide (48 ≤ b.toNat) && decide (b.toNat ≤ 57)
def digStep (acc : Nat) (b : UInt8) : Nat := 10 * acc + (b.toNat - 48)
def digVal (acc : Nat) (l : List UInt8) : Nat := l.foldl digStep acc
theorem digVal_nil (acc : Nat) : digVal acc [] = acc := List.foldl_nil
theorem digVal_cons (acc : Nat) (b : UInt8) (l : List UInt8) : digVal acc (b :: l) = digVal (10 * acc + (b.toNat - 48)) l := List.foldl_cons ..
theorem digVal_append (a b : List UInt8) (acc : Nat) : digVal acc (a ++ b) = digVal (digVal acc a) b := List.foldl_append
theorem digVal_decDigits (u : Nat) : digVal 0 (Lib.decDigits u) = u := by
  induction u using Nat.strongRecOn with
  | _ u ih =>
    by_cases h10 : u < 10
    · rw [Lib.decDigits, dif_pos h10, digVal_cons, digVal_nil, Num.digit_toNat u h10]
      omega
    · rw [Lib.decDigits, dif_neg h10, digVal_append, ih (u / 10) (by omega), digVal_cons, digVal_nil, Num.digit_toNat (u % 10) (by omega)]
      omega
theorem decDigits_all (u : Nat) : (Lib.decDigits u).all digB = true := by
  rw [List.all_eq_true]
  intro b hb
  have := Num.decDigits_digit u b hb
  simp [digB, this.1, this.2]
theorem decimal_up (n : Int) (h0 : -1000000000 ≤ n) (h1 : n ≤ 1000000000) (k : Nat) (hk : 12 ≤ k) : ontimeref05_Decimal.f k n = some (str (Lib.itoa n)) :=
  raise_to (fun k => ontimeref05_Decimal.f k n) (fun k => ontimeref05_Decimal.mono n k) (decimal_eval n h0 h1) k hk
theorem wrap_sgn (acc : Nat) (h : acc < 100000000) (sgn : Int) (hs : sgn = 1 ∨ sgn = -1) : wrap64 (sgn * (acc : Int)) = sgn * (acc : Int) ∧ -1000000000 ≤ sgn * (acc : Int) ∧ sgn * (acc : Int) ≤ 1000000000 := by
  rcases hs with rfl | rfl
  · refine ⟨?_, by omega, by omega⟩
    unfold wrap64
    omega
  · refine ⟨?_, by omega, by omega⟩
    unfold wrap64
    omega
theorem wrap_dig (acc b : Nat) (h : acc < 100000000) (h1 : 48 ≤ b) (h2 : b ≤ 57) : wrap64 ((wrap64 (10 * (acc : Int))) + (((b : Int) - 48) % 256)) = ((10 * acc + (b - 48) : Nat) : Int) := by
  have e1 : wrap64 (10 * (acc : Int)) = 10 * (acc : Int) := by unfold wrap64; omega
  have e2 : ((b : Int) - 48) % 256 = ((b - 48 : Nat) : Int) := by omega
  rw [e1, e2]
  unfold wrap64
  omega
theorem pow_small (i : Nat) (h : i ≤ 8) : 10 ^ i ≤ 100000000 := Nat.le_trans (Nat.pow_le_pow_right (by omega) h) (by decide)
theorem pow_step (acc i b : Nat) (h : acc < 10 ^ i) (h2 : b ≤ 57) : 10 * acc + (b - 48) < 10 ^ (i + 1) := by
  rw [Nat.pow_succ]
  generalize 10 ^ i = p at h
  omega
theorem num_loop (x : ByteArray) (hx : x.size ≤ 8) (sgn : Int) (hs : sgn = 1 ∨ sgn = -1) : ∀ (d k i acc : Nat), i + d = x.size → d + 13 ≤ k → acc < 10 ^ i →
    ontimeref05_number.l0 k x sgn (acc : Int) (i : Int) = some (if (x.data.toList.drop i).all digB = true then (sgn * (digVal acc (x.data.toList.drop i) : Int), decide (Lib.itoa (sgn * (digVal acc (x.data.toList.drop i) : Int)) = x.data.toList)) else (0, false)) := by
  have hl := size_len x
  intro d
  induction d with
  | zero =>
    intro k i acc hi hk hacc
    obtain ⟨k, rfl⟩ : ∃ m, k = m + 1 := ⟨k - 1, by omega⟩
    have hw := wrap_sgn acc (Nat.lt_of_lt_of_le hacc (pow_small i (by omega))) sgn hs
    clear hacc
    have hd : x.data.toList.drop i = [] := List.drop_of_length_le (by omega)
    simp only [ontimeref05_number.l0]
    rw [if_neg (by omega), hw.1, decimal_up (sgn * (acc : Int)) hw.2.1 hw.2.2 k (by omega), hd]
    simp only [Option.bind_some, List.all_nil, if_true, digVal_nil]
    have e : ((str (Lib.itoa (sgn * (acc : Int)))).toList == x.toList) = decide (Lib.itoa (sgn * (acc : Int)) = x.data.toList) := by
      have := str_eq_dec (Lib.itoa (sgn * (acc : Int))) x.data.toList
      rw [Bool.true_and] at this
      exact this
    rw [e]
  | succ d ih =>
    intro k i acc hi hk hacc
    obtain ⟨k, rfl⟩ : ∃ m, k = m + 1 := ⟨k - 1, by omega⟩
    have hlt : i < x.size := by omega
    have hacc8 := Nat.lt_of_lt_of_le hacc (pow_small i (by omega))
    have hstep := fun b h => pow_step acc i b hacc h
    clear hacc
    simp only [ontimeref05_number.l0]
    rw [if_pos (by omega), if_pos (by omega), bt_list x i hlt, drop_cons x i hlt, wrap_next i x.size hlt (by omega)]
    generalize x.data.toList.getD i 0 = b
    have hb := UInt8.toNat_lt b
    by_cases h1 : ((b.toNat : Int)) < 48
    · rw [if_pos h1, List.all_cons]
      have : digB b = false := by simp [digB]; omega
      rw [this, Bool.false_and, if_neg (by simp)]
    · rw [if_neg h1]
      by_cases h2 : ((b.toNat : Int)) > 57
      · rw [if_pos h2, List.all_cons]
        have : digB b = false := by simp [digB]; omega
        rw [this, Bool.false_and, if_neg (by simp)]
      · rw [if_neg h2, List.all_cons]
        have h3 : digB b = true := by simp [digB]; omega
        have e := wrap_dig acc b.toNat hacc8 (by omega) (by omega)
        rw [h3, Bool.true_and, e, ih k (i + 1) (10 * acc + (b.toNat - 48)) (by omega) (by omega) (hstep _ (by omega)), digVal_cons]
def numR (l : List UInt8) : Int × Bool :=
  if l.head? = some 45 then (if l.length = 1 ∨ 8 < l.length then (0, false) else if (l.drop 1).all digB = true then (-1 * (digVal 0 (l.drop 1) : Int), decide (Lib.itoa (-1 * (digVal 0 (l.drop 1) : Int)) = l)) else (0, false))
  else (if l.length = 0 ∨ 8 < l.length then (0, false) else if l.all digB = true then (1 * (digVal 0 l : Int), decide (Lib.itoa (1 * (digVal 0 l : Int)) = l)) else (0, false))
theorem num_j1 (x : ByteArray) (hx : x.size ≤ 1000000) (i : Nat) (hi : i ≤ 1) (hix : i ≤ x.size) (sgn : Int) (hs : sgn = 1 ∨ sgn = -1) (k : Nat) (hk : 25 ≤ k) :
    ontimeref05_number.j1 k x (i : Int) sgn = some (if x.data.toList.length = i ∨ 8 < x.data.toList.length then (0, false) else if (x.data.toList.drop i).all digB = true then (sgn * (digVal 0 (x.data.toList.drop i) : Int), decide (Lib.itoa (sgn * (digVal 0 (x.data.toList.drop i) : Int)) = x.data.toList)) else (0, false)) := by
  have hl := size_len x
  obtain ⟨k, rfl⟩ : ∃ m, k = m + 2 := ⟨k - 2, by omega⟩
  simp only [ontimeref05_number.j1]
  by_cases h1 : x.size = i
  · rw [if_pos (by omega), if_pos (.inl (by omega))]
    simp only [ontimeref05_number.j2, if_true]
  · rw [if_neg (by omega)]
    simp only [ontimeref05_number.j2]
    by_cases h2 : (x.size : Int) > 8
    · rw [if_pos (decide_eq_true h2), if_pos (.inr (by omega))]
    · rw [if_neg (by simpa using h2), if_neg (by omega)]
      have := num_loop x (by omega) sgn hs (x.size - i) k i 0 (by omega) (by omega) (Nat.pow_pos (by decide))
      exact this
theorem number_eval (x : ByteArray) (hx : x.size ≤ 1000000) (k : Nat) (hk : 26 ≤ k) : ontimeref05_number.f k x = some (numR x.data.toList) := by
  have hl := size_len x
  obtain ⟨k, rfl⟩ : ∃ m, k = m + 1 := ⟨k - 1, by omega⟩
  have hj1 := num_j1 x hx
  by_cases h0 : x.size = 0
  · have e : x.data.toList = [] := List.eq_nil_of_length_eq_zero (by omega)
    unfold ontimeref05_number.f
    rw [if_neg (by omega)]
    simp only [ontimeref05_number.j0]
    have := hj1 0 (by omega) (by omega) 1 (.inl rfl) k (by omega)
    rw [if_neg (by simp)]
    refine this.trans ?_
    unfold numR
    rw [e]
    rfl
  · unfold ontimeref05_number.f
    have hb := bt_list x 0 (by omega)
    have hh : x.data.toList.head? = some (x.data.toList.getD 0 0) := by
      have := drop_cons x 0 (by omega)
      rw [List.drop_zero] at this
      rw [this]
      rfl
    rw [if_pos (by omega), if_pos (by omega), show (0 : Int) = ((0 : Nat) : Int) from rfl, hb]
    simp only [ontimeref05_number.j0]
    unfold numR
    rw [hh]
    by_cases hn : x.data.toList.getD 0 0 = 45
    · have e1 : (((x.data.toList.getD 0 0).toNat : Int) == 45) = true := by rw [hn]; rfl
      rw [if_pos e1, if_pos (by rw [hn])]
      exact hj1 1 (by omega) (by omega) (-1) (.inr rfl) k (by omega)
    · have e1 : (((x.data.toList.getD 0 0).toNat : Int) == 45) = false := by
        rw [beq_eq_false_iff_ne]
        intro e
        exact hn (UInt8.toNat_inj.1 (by have : (45 : UInt8).toNat = 45 := rfl; omega))
      rw [if_neg (by rw [e1]; simp), if_neg (by simpa using hn)]
      exact hj1 0 (by omega) (by omega) 1 (.inl rfl) k (by omega)
theorem numR_ok (l : List UInt8) (h : (numR l).2 = true) : l = Lib.itoa (numR l).1 := by
  unfold numR at h ⊢
  repeat' split at h
  all_goals first
    | (cases h; done)
    | (simp only [decide_eq_true_eq] at h; simp only [*, if_true, if_false]; done)
    | (simp only [decide_eq_true_eq] at h; simp only [*, if_true, if_false]; exact h.symm)
theorem itoa_head (u : Nat) : (Lib.decDigits u).head? ≠ some 45 := by
  intro h
  have hm : (45 : UInt8) ∈ Lib.decDigits u := List.mem_of_mem_head? (by rw [h]; rfl)
  have := Num.decDigits_digit u 45 hm
  have e : (45 : UInt8).toNat = 45 := rfl
  omega
theorem numR_itoa (n : Int) (h8 : (Lib.itoa n).length ≤ 8) : numR (Lib.itoa n) = (n, true) := by
  by_cases hn : n < 0
  · obtain ⟨u, rfl⟩ : ∃ u : Nat, n = -(u : Int) := ⟨n.natAbs, by omega⟩
    have hi := Lib.itoa_neg u (by omega)
    have hne := List.length_pos_iff.2 (Num.decDigits_ne u)
    have e : -1 * ((digVal 0 (Lib.decDigits u) : Nat) : Int) = -(u : Int) := by rw [digVal_decDigits]; omega
    unfold numR
    rw [hi] at h8 ⊢
    rw [if_pos (by rfl), if_neg (by rw [List.length_cons] at h8 ⊢; omega), List.drop_succ_cons, List.drop_zero, if_pos (decDigits_all u), e, hi, decide_eq_true rfl]
  · obtain ⟨u, rfl⟩ : ∃ u : Nat, n = (u : Int) := ⟨n.toNat, by omega⟩
    have hi := Lib.itoa_nonneg u
    have hne := List.length_pos_iff.2 (Num.decDigits_ne u)
    have e : 1 * ((digVal 0 (Lib.decDigits u) : Nat) : Int) = (u : Int) := by rw [digVal_decDigits]; omega
    unfold numR
    rw [hi] at h8 ⊢
    rw [if_neg (itoa_head u), if_neg (by omega), if_pos (decDigits_all u), e, hi, decide_eq_true rfl]
def regR (l : List UInt8) : Int × Bool := if l.length < 2 then (0, false) else if l.head? = some 114 then (if (l.drop 1).head? = some 45 then (0, false) else numR (l.drop 1)) else (0, false)
theorem register_eval (x : ByteArray) (hx : x.size ≤ 1000000) (k : Nat) (hk : 26 ≤ k) : ontimeref05_register.f k x = some (regR x.data.toList) := by
  have hl := size_len x
  unfold ontimeref05_register.f regR
  by_cases h1 : (x.size : Int) < 2
  · rw [if_pos h1, if_pos (by omega)]
  · have hb0 := bt_list x 0 (by omega)
    have hb1 := bt_list x 1 (by omega)
    have hh : x.data.toList.head? = some (x.data.toList.getD 0 0) := by
      have := drop_cons x 0 (by omega)
      rw [List.drop_zero] at this
      rw [this]
      rfl
    have hh1 : (x.data.toList.drop 1).head? = some (x.data.toList.getD 1 0) := by
      rw [drop_cons x 1 (by omega)]
      rfl
    rw [if_neg h1, if_pos (show (0 : Int) < (x.size : Int) by omega), if_neg (show ¬ x.data.toList.length < 2 by omega), show (0 : Int) = ((0 : Nat) : Int) from rfl, hb0, hh]
    have hb1' : bt x 1 = ((x.data.toList.getD 1 0).toNat : Int) := hb1
    by_cases h2 : x.data.toList.getD 0 0 = 114
    · rw [if_pos (show ((x.data.toList.getD 0 0).toNat : Int) = 114 by rw [h2]; rfl), if_pos (show (1 : Int) < (x.size : Int) by omega), if_pos (show some (x.data.toList.getD 0 0) = some 114 by rw [h2]), hb1', hh1]
      by_cases h3 : x.data.toList.getD 1 0 = 45
      · rw [if_pos (show ((x.data.toList.getD 1 0).toNat : Int) = 45 by rw [h3]; rfl), if_pos (show some (x.data.toList.getD 1 0) = some 45 by rw [h3])]
      · have h4 : ¬ ((x.data.toList.getD 1 0).toNat : Int) = 45 := fun e => h3 (UInt8.toNat_inj.1 (by have : (45 : UInt8).toNat = 45 := rfl; omega))
        rw [if_neg h4, if_neg (show ¬ some (x.data.toList.getD 1 0) = some 45 by simpa using h3), if_pos (show (1 : Int) ≤ (x.size : Int) by omega)]
        have hsz : (x.extract 1 x.size).size ≤ 1000000 := by rw [ByteArray.size_extract]; omega
        rw [number_eval _ hsz k hk]
        have e : (x.extract 1 x.size).data.toList = x.data.toList.drop 1 := by
          rw [Lib.extract_data, List.take_of_length_le (by rw [List.length_drop]; omega)]
        rw [e]
        rfl
    · have h4 : ¬ ((x.data.toList.getD 0 0).toNat : Int) = 114 := fun e => h2 (UInt8.toNat_inj.1 (by have : (114 : UInt8).toNat = 114 := rfl; omega))
      rw [if_neg h4, if_neg (show ¬ some (x.data.toList.getD 0 0) = some 114 by simpa using h2)]
theorem regR_ok (l : List UInt8) (h : (regR l).2 = true) : l = 114 :: Lib.itoa (regR l).1 := by
  unfold regR at h ⊢
  split at h
  · cases h
  · rename_i h1
    split at h
    · rename_i h2
      split at h
      · cases h
      · rename_i h3
        rw [if_neg h1, if_pos h2, if_neg h3]
        have := numR_ok _ h
        cases l with
        | nil => simp at h2
        | cons c l =>
          simp only [List.head?_cons, Option.some.injEq] at h2
          subst h2
          rw [List.drop_succ_cons, List.drop_zero] at this ⊢
          rw [← this]
    · cases h
theorem regR_itoa (u : Nat) (h8 : (Lib.itoa (u : Int)).length ≤ 8) : regR (114 :: Lib.itoa (u : Int)) = ((u : Int), true) := by
  have hne := List.length_pos_iff.2 (Num.itoa_ne (u : Int))
  unfold regR
  rw [if_neg (by simp; omega), if_pos (by rfl), List.drop_succ_cons, List.drop_zero, if_neg (by rw [Lib.itoa_nonneg]; exact itoa_head u), numR_itoa _ h8]
/-- An operand's word, read. -/
def opR (c : Int) (l : List UInt8) : Int × Bool := if c = 105 then numR l else regR l
def wordOf (c v : Int) : List UInt8 := if c = 105 then Lib.itoa v else 114 :: Lib.itoa v
theorem opR_ok (c : Int) (l : List UInt8) (h : (opR c l).2 = true) : l = wordOf c (opR c l).1 := by
  unfold opR wordOf at *
  split
  · rename_i hc
    rw [if_pos hc] at h
    exact numR_ok l h
  · rename_i hc
    rw [if_neg hc] at h
    exact regR_ok l h
theorem dec_len : ∀ (k u : Nat), u < 10 ^ (k + 1) → (Lib.decDigits u).length ≤ k + 1
  | 0, u, h => by
    have h10 : u < 10 := by simpa using h
    rw [Lib.decDigits, dif_pos h10]
    simp
  | k + 1, u, h => by
    by_cases h10 : u < 10
    · rw [Lib.decDigits, dif_pos h10]
      simp
    · rw [Lib.decDigits, dif_neg h10]
      have h2 : u / 10 < 10 ^ (k + 1) := by rw [Nat.pow_succ] at h; omega
      have := dec_len k (u / 10) h2
      simp
      omega
theorem itoa_len6 (n : Int) (h0 : -200000 ≤ n) (h1 : n ≤ 200000) : (Lib.itoa n).length ≤ 8 := by
  have key : ∀ u : Nat, u ≤ 200000 → (Lib.decDigits u).length ≤ 6 := fun u hu => by
    exact dec_len 5 u (by have : (10 : Nat) ^ (5 + 1) = 1000000 := rfl; omega)
  by_cases hn : n < 0
  · obtain ⟨u, rfl⟩ : ∃ u : Nat, n = -(u : Int) := ⟨n.natAbs, by omega⟩
    rw [Lib.itoa_neg u (by omega)]
    have := key u (by omega)
    simp
    omega
  · obtain ⟨u, rfl⟩ : ∃ u : Nat, n = (u : Int) := ⟨n.toNat, by omega⟩
    rw [Lib.itoa_nonneg]
    have := key u (by omega)
    omega
theorem opWord_eq (i : S48) (c : Int) (hc : c = 97 ∨ c = 98 ∨ c = 99 ∨ c = 105) : opWord i c = wordOf c (xF i c) := by
  unfold opWord wordOf
  rcases hc with rfl | rfl | rfl | rfl <;> simp [xF]
end Go.Proofs.YtmgafakahbanaaaDoor.Pa
