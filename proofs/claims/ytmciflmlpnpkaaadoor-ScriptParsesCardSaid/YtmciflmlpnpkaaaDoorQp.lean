import Derived.Test.YtmciflmlpnpkaaaDoorQ3
import Derived.Test.YtmciflmlpnpkaaaDoorPax1
import Derived.Test.YtmciflmlpnpkaaaDoorPax2
import Derived.Test.YtmciflmlpnpkaaaDoorPax3
import Derived.Test.YtmciflmlpnpkaaaDoorPax4
import Derived.Test.YtmciflmlpnpkaaaDoorPax5
import Derived.Test.YtmciflmlpnpkaaaDoorN
import Derived.Test.YtmciflmlpnpkaaaDoorPfx1
import Derived.Test.YtmciflmlpnpkaaaDoorPex1
namespace Go.Proofs.YtmciflmlpnpkaaaDoor.Pa
open Go.RowKit Go.Proofs.YtmciflmlpnpkaaaDoorW.PrintWords Go.Proofs.YtmciflmlpnpkaaaDoorW.PrintLast Go.Proofs.YtmciflmlpnpkaaaDoorW.PrintMore
set_option linter.unusedVariables false
set_option linter.unusedSimpArgs false

/-! ### the reference's value of a word -/
theorem bt_list (x : ByteArray) (i : Nat) (h : i < x.size) : bt x (i : Int) = ((x.data.toList.getD i 0).toNat : Int) := by
  have h2 : i < x.data.toList.length := by simpa using h
  rw [List.getD_eq_getElem?_getD, List.getElem?_eq_getElem h2]
  simp [bt, h]
  rfl
theorem drop_cons (x : ByteArray) (i : Nat) (h : i < x.size) : x.data.toList.drop i = x.data.toList.getD i 0 :: x.data.toList.drop (i + 1) := by
  have h2 : i < x.data.toList.length := by simpa using h
  rw [List.drop_eq_getElem_cons h2, List.getD_eq_getElem?_getD, List.getElem?_eq_getElem h2]
  rfl
def decB (b : UInt8) : Bool := decide (48 ≤ b.toNat) && decide (b.toNat ≤ 57)
def accW (n : Int) (b : UInt8) : Int := wrap64 (wrap64 (10 * n) - (((b.toNat : Int) - 48) % 256))
def endW (s : ByteArray) (neg : Bool) (n : Int) : Int × Bool := if neg = true then (n, decide (Lib.itoa n = s.data.toList)) else (wrap64 (-n), decide (Lib.itoa (wrap64 (-n)) = s.data.toList))
theorem wrap_range (n : Int) : -9223372036854775808 ≤ wrap64 n ∧ wrap64 n ≤ 9223372036854775807 := by unfold wrap64; omega
theorem str_eqb (l : List UInt8) (s : ByteArray) : ((str l).toList == s.toList) = decide (l = s.data.toList) := by
  rw [ByteArray.toList_eq, ByteArray.toList_eq]
  show (l == s.data.toList) = _
  by_cases h : l = s.data.toList
  · rw [h]; simp
  · rw [decide_eq_false h, beq_eq_false_iff_ne]; exact h
theorem number_up (n : Int) (h0 : -9223372036854775808 ≤ n) (h1 : n ≤ 9223372036854775807) (k : Nat) (hk : 47 ≤ k) : ontimeref51_Number.f k n = some (str (Lib.itoa n)) :=
  raise_to (fun k => ontimeref51_Number.f k n) (ontimeref51_Number.mono n) (number_eval n h0 h1) k hk
theorem value_end (s : ByteArray) (neg : Bool) (n : Int) (h0 : -9223372036854775808 ≤ n) (h1 : n ≤ 9223372036854775807) (k : Nat) (hk : 47 ≤ k) :
    (if neg = true then ((ontimeref51_Number.f k n).bind fun t146 => (some (n, (t146.toList == s.toList)))) else ((ontimeref51_Number.f k (wrap64 (-n))).bind fun t147 => (some (wrap64 (-n), (t147.toList == s.toList))))) = some (endW s neg n) := by
  unfold endW
  cases neg with
  | true => rw [if_pos rfl, if_pos rfl, number_up n h0 h1 k hk, Option.bind_some, str_eqb]
  | false =>
    have := wrap_range (-n)
    rw [if_neg (by simp), if_neg (by simp), number_up _ this.1 this.2 k hk, Option.bind_some, str_eqb]
theorem step_idx (j : Nat) (h : j ≤ 1000) : wrap64 ((j : Int) + 1) = ((j + 1 : Nat) : Int) := wrap_nat (j + 1) (by omega)
theorem value_loop (s : ByteArray) (hs : s.size ≤ 20) (neg : Bool) : ∀ (d j : Nat) (n : Int) (k : Nat), j + d = s.size → 1 ≤ j → -9223372036854775808 ≤ n → n ≤ 9223372036854775807 → 2 * d + 48 ≤ k →
    ontimeref51_value.l0 k s n neg (j : Int) = some (if (s.data.toList.drop j).all decB = true then endW s neg ((s.data.toList.drop j).foldl accW n) else (0, false))
  | 0, j, n, k, hj, h1, h2, h3, hk => by
    obtain ⟨k, rfl⟩ : ∃ k', k = k' + 1 := ⟨k - 1, by omega⟩
    have hd : s.data.toList.drop j = [] := List.drop_of_length_le (by rw [size_len]; omega)
    rw [ontimeref51_value.l0, if_neg (by omega), value_end s neg n h2 h3 k (by omega), hd]
    rfl
  | d + 1, j, n, k, hj, h1, h2, h3, hk => by
    obtain ⟨k, rfl⟩ : ∃ k', k = k' + 2 := ⟨k - 2, by omega⟩
    have hlt : j < s.size := by omega
    have hb := bt_list s j hlt
    rw [drop_cons s j hlt]
    rw [ontimeref51_value.l0, if_pos (by omega), if_neg (by omega), ontimeref51_value.j2, if_neg (by simp), if_pos (by omega), if_pos (by omega), hb]
    generalize s.data.toList.getD j 0 = b
    by_cases h48 : (b.toNat : Int) < 48
    · have : decB b = false := by simp [decB]; omega
      rw [if_pos h48, List.all_cons, this]
      rfl
    · by_cases h57 : (b.toNat : Int) > 57
      · have : decB b = false := by simp [decB]; omega
        rw [if_neg h48, if_pos h57, List.all_cons, this]
        rfl
      · have hdg : decB b = true := by simp [decB]; omega
        have hw := wrap_range (wrap64 (10 * n) - (((b.toNat : Int) - 48) % 256))
        rw [if_neg h48, if_neg h57, step_idx j (by omega), value_loop s hs neg d (j + 1) _ k (by omega) (by omega) hw.1 hw.2 (by omega), List.all_cons, hdg, List.foldl_cons]
        rfl
/-- What the reference's value returns. -/
def valueR (s : ByteArray) : Int × Bool := if s.size = 0 ∨ 20 < s.size then (0, false)
  else if (s.data.toList.getD 0 0) = 45 then (if (s.data.toList.drop 1).all decB = true then endW s true ((s.data.toList.drop 1).foldl accW 0) else (0, false))
  else (if s.data.toList.all decB = true then endW s false (s.data.toList.foldl accW 0) else (0, false))
theorem value_eval (s : ByteArray) (k : Nat) (hk : 100 ≤ k) : ontimeref51_value.f k s = some (valueR s) := by
  obtain ⟨k, rfl⟩ : ∃ k', k = k' + 3 := ⟨k - 3, by omega⟩
  unfold ontimeref51_value.f valueR
  by_cases h0 : s.size = 0
  · rw [if_pos (by omega), if_pos (.inl h0), ontimeref51_value.j0, if_pos rfl]
  · rw [if_neg (by omega)]
    by_cases h20 : 20 < s.size
    · rw [if_pos (.inr h20), ontimeref51_value.j0, if_pos (decide_eq_true (by omega))]
    · have hlt : 0 < s.size := by omega
      have hb := bt_list s 0 hlt
      rw [show ((0 : Nat) : Int) = 0 from rfl] at hb
      have hd := drop_cons s 0 hlt
      rw [List.drop_zero] at hd
      rw [if_neg (by omega), ontimeref51_value.j0, if_neg (by rw [decide_eq_false (by omega)]; simp), if_pos (by omega), ontimeref51_value.l0, if_pos (by omega), if_pos rfl, ontimeref51_value.j2, hb]
      have e1 : wrap64 (0 + 1) = ((1 : Nat) : Int) := by unfold wrap64; omega
      have hL := fun neg n h2 h3 => value_loop s (by omega) neg (s.size - 1) 1 n k (by omega) (by omega) h2 h3 (by omega)
      rw [Nat.zero_add] at hd
      generalize s.data.toList.getD 0 0 = b at *
      by_cases h45 : b = 45
      · subst h45
        rw [if_pos (by rfl), if_pos rfl, e1]
        exact hL _ 0 (by omega) (by omega)
      · have hn : (((b.toNat : Int)) == 45) = false := by
          rw [beq_eq_false_iff_ne]
          intro e
          exact h45 (UInt8.toNat_inj.1 (by have : (45 : UInt8).toNat = 45 := rfl; omega))
        rw [hn, if_neg (by simp), if_neg h45, if_pos (by omega), if_pos (by omega), hd, List.all_cons, List.foldl_cons]
        by_cases h48 : (b.toNat : Int) < 48
        · have : decB b = false := by simp [decB]; omega
          rw [if_pos h48, this]
          rfl
        · by_cases h57 : (b.toNat : Int) > 57
          · have : decB b = false := by simp [decB]; omega
            rw [if_neg h48, if_pos h57, this]
            rfl
          · have hdg : decB b = true := by simp [decB]; omega
            have hw := wrap_range (wrap64 (10 * 0) - (((b.toNat : Int) - 48) % 256))
            rw [if_neg h48, if_neg h57, e1, hL false _ hw.1 hw.2, hdg]
            rfl
end Go.Proofs.YtmciflmlpnpkaaaDoor.Pa

namespace Go.Proofs.YtmciflmlpnpkaaaDoor.Pa
open Go.RowKit Go.Proofs.YtmciflmlpnpkaaaDoorW.PrintWords Go.Proofs.YtmciflmlpnpkaaaDoorW.PrintLast Go.Proofs.YtmciflmlpnpkaaaDoorW.PrintMore
set_option linter.unusedVariables false
set_option linter.unusedSimpArgs false

/-! ### the reference's value is ours -/
theorem numB_ex {x : List UInt8} (h : numB x = true) : ∃ v : Int, -9223372036854775808 ≤ v ∧ v ≤ 9223372036854775807 ∧ Lib.itoa v = x ∧ numV x = v := by
  unfold numB at h
  unfold numV
  cases hh : Lib.atoiAll x
  all_goals rw [hh] at h
  all_goals first
    | exact ⟨_, (Lib.atoiAll_bounds hh).1, (Lib.atoiAll_bounds hh).2, of_decide_eq_true h, rfl⟩
    | cases h
theorem numB_at (v : Int) (h0 : -9223372036854775808 ≤ v) (h1 : v ≤ 9223372036854775807) : numB (Lib.itoa v) = true ∧ numV (Lib.itoa v) = v := by
  unfold numB numV
  rw [Num.atoi_itoa v h0 h1]
  exact ⟨decide_eq_true rfl, rfl⟩
theorem foldl_range : ∀ (l : List UInt8) (n : Int), -9223372036854775808 ≤ n → n ≤ 9223372036854775807 → -9223372036854775808 ≤ l.foldl accW n ∧ l.foldl accW n ≤ 9223372036854775807
  | [], n, h0, h1 => ⟨h0, h1⟩
  | b :: l, n, h0, h1 => by
    rw [List.foldl_cons]
    have := wrap_range (wrap64 (10 * n) - (((b.toNat : Int) - 48) % 256))
    exact foldl_range l _ this.1 this.2
theorem endW_true (s : ByteArray) (neg : Bool) (n : Int) (h0 : -9223372036854775808 ≤ n) (h1 : n ≤ 9223372036854775807) (h : (endW s neg n).2 = true) : numB s.data.toList = true ∧ numV s.data.toList = (endW s neg n).1 := by
  unfold endW at h ⊢
  cases neg with
  | true =>
    rw [if_pos rfl] at h ⊢
    have e := of_decide_eq_true h
    have := numB_at n h0 h1
    rw [e] at this
    exact this
  | false =>
    rw [if_neg (by simp)] at h ⊢
    have e := of_decide_eq_true h
    have hw := wrap_range (-n)
    have := numB_at _ hw.1 hw.2
    rw [e] at this
    exact this
theorem valueR_true (s : ByteArray) (h : (valueR s).2 = true) : numB s.data.toList = true ∧ numV s.data.toList = (valueR s).1 := by
  unfold valueR at h ⊢
  by_cases h1 : s.size = 0 ∨ 20 < s.size
  · rw [if_pos h1] at h; cases h
  · rw [if_neg h1] at h ⊢
    by_cases h2 : s.data.toList.getD 0 0 = 45
    · rw [if_pos h2] at h ⊢
      by_cases h3 : (s.data.toList.drop 1).all decB = true
      · rw [if_pos h3] at h ⊢
        have hr := foldl_range (s.data.toList.drop 1) 0 (by omega) (by omega)
        exact endW_true s true _ hr.1 hr.2 h
      · rw [if_neg h3] at h; cases h
    · rw [if_neg h2] at h ⊢
      by_cases h3 : s.data.toList.all decB = true
      · rw [if_pos h3] at h ⊢
        have hr := foldl_range s.data.toList 0 (by omega) (by omega)
        exact endW_true s false _ hr.1 hr.2 h
      · rw [if_neg h3] at h; cases h
theorem decB_all (u : Nat) : (Lib.decDigits u).all decB = true := by
  rw [List.all_eq_true]
  intro b hb
  have := Num.decDigits_digit u b hb
  simp [decB, this.1, this.2]
theorem acc_step (u d : Nat) (hd : d < 10) (h : 10 * u + d ≤ 9223372036854775808) : accW (-(u : Int)) (UInt8.ofNat (48 + d)) = -((10 * u + d : Nat) : Int) := by
  unfold accW
  rw [Num.digit_toNat d hd]
  unfold wrap64
  omega
theorem acc_dec (u : Nat) (h : u ≤ 9223372036854775808) : (Lib.decDigits u).foldl accW 0 = -(u : Int) := by
  induction u using Nat.strongRecOn with
  | _ u ih =>
    by_cases h10 : u < 10
    · rw [Lib.decDigits, dif_pos h10, List.foldl_cons, List.foldl_nil]
      have := acc_step 0 u h10 (by omega)
      simpa using this
    · rw [Lib.decDigits, dif_neg h10, List.foldl_append, ih (u / 10) (by omega) (by omega), List.foldl_cons, List.foldl_nil, acc_step _ _ (Nat.mod_lt _ (by omega)) (by omega)]
      congr 1
      omega
theorem dec_len19 (u : Nat) (h : u ≤ 9223372036854775808) : (Lib.decDigits u).length ≤ 19 := Num.dec_len 18 u (by omega)
theorem dec_not45 (u : Nat) : (Lib.decDigits u).getD 0 0 ≠ 45 := by
  cases hd : Lib.decDigits u with
  | nil => exact absurd hd (Num.decDigits_ne u)
  | cons b l =>
    have := Num.decDigits_digit u b (by rw [hd]; exact List.mem_cons_self)
    intro e
    have e2 : b = 45 := e
    rw [e2] at this
    have : (45 : UInt8).toNat = 45 := rfl
    omega
theorem valueR_itoa (v : Int) (h0 : -9223372036854775808 ≤ v) (h1 : v ≤ 9223372036854775807) : valueR (str (Lib.itoa v)) = (v, true) := by
  unfold valueR
  rw [str_size, str_data]
  by_cases hn : v < 0
  · have e : Lib.itoa v = 45 :: Lib.decDigits v.natAbs := by unfold Lib.itoa; rw [if_pos hn]
    have hl := dec_len19 v.natAbs (by omega)
    rw [if_neg (by rw [e]; simp; omega), if_pos (by rw [e]; rfl), show (Lib.itoa v).drop 1 = Lib.decDigits v.natAbs by rw [e]; rfl, if_pos (decB_all _), acc_dec _ (by omega)]
    unfold endW
    rw [if_pos rfl, show -((v.natAbs : Nat) : Int) = v by omega]
    exact congrArg _ (decide_eq_true rfl)
  · have e : Lib.itoa v = Lib.decDigits v.toNat := by unfold Lib.itoa; rw [if_neg hn]
    have hl := dec_len19 v.toNat (by omega)
    have hne := Num.decDigits_ne v.toNat
    have hp : 0 < (Lib.decDigits v.toNat).length := List.length_pos_iff.2 hne
    rw [if_neg (by rw [e]; omega), if_neg (by rw [e]; exact dec_not45 _), if_pos (by rw [e]; exact decB_all _), show (Lib.itoa v).foldl accW 0 = -((v.toNat : Nat) : Int) by rw [e]; exact acc_dec _ (by omega)]
    unfold endW
    have ew : wrap64 (- -((v.toNat : Nat) : Int)) = v := by unfold wrap64; omega
    rw [if_neg (by simp), ew]
    exact congrArg _ (decide_eq_true rfl)
theorem valueR_ok (s : ByteArray) : (valueR s).2 = numB s.data.toList ∧ ((valueR s).2 = true → (valueR s).1 = numV s.data.toList) := by
  refine ⟨?_, fun h => (valueR_true s h).2.symm⟩
  cases hb : numB s.data.toList with
  | true =>
    obtain ⟨v, h0, h1, h2, _⟩ := numB_ex hb
    have : s = str (Lib.itoa v) := by rw [h2]; exact (str_of s).symm
    rw [this, valueR_itoa v h0 h1]
  | false =>
    cases hv : (valueR s).2 with
    | false => rfl
    | true => rw [(valueR_true s hv).1] at hb; cases hb

/-! ### lines and parts -/
theorem cut_loop (x : ByteArray) (hx : x.size ≤ 1000000) : ∀ (d j k : Nat), j + d = x.size → d + 1 ≤ k → (10 : UInt8) ∉ x.data.toList.take j →
    ontimeref51_cut.l0 k x (j : Int) = some (match cut10 x.data.toList with
      | none => (x, ⟨#[]⟩, false)
      | some (a, r) => (str a, str r, true))
  | 0, j, k, hj, hk, h => by
    obtain ⟨k, rfl⟩ : ∃ k', k = k' + 1 := ⟨k - 1, by omega⟩
    rw [List.take_of_length_le (by rw [size_len]; omega)] at h
    rw [ontimeref51_cut.l0, if_neg (by omega), cut10_not _ h]
  | d + 1, j, k, hj, hk, h => by
    obtain ⟨k, rfl⟩ : ∃ k', k = k' + 1 := ⟨k - 1, by omega⟩
    have hlt : j < x.size := by omega
    have hd := drop_cons x j hlt
    have hs : wrap64 ((j : Int) + 1) = ((j + 1 : Nat) : Int) := wrap_nat (j + 1) (by omega)
    rw [ontimeref51_cut.l0, if_pos (by omega), if_pos (by omega), bt_list x j hlt, hs]
    have hta : x.data.toList.take (j + 1) = x.data.toList.take j ++ [x.data.toList.getD j 0] := by
      rw [List.take_add, hd]; rfl
    generalize x.data.toList.getD j 0 = b at *
    by_cases hb : b = 10
    · subst hb
      rw [if_pos (by rfl), if_pos (by omega), if_pos (by omega), if_pos (by omega), Int.toNat_natCast, Int.toNat_natCast, extract_pre, extract_all]
      have e : x.data.toList = x.data.toList.take j ++ 10 :: x.data.toList.drop (j + 1) := by rw [← hd]; exact (List.take_append_drop j _).symm
      have hc : cut10 x.data.toList = some (x.data.toList.take j, x.data.toList.drop (j + 1)) := by
        conv => lhs; rw [e]
        exact cut10_app _ _ h
      rw [hc]
    · rw [if_neg (fun e => hb (UInt8.toNat_inj.1 (by have : (10 : UInt8).toNat = 10 := rfl; omega))), cut_loop x hx d (j + 1) k (by omega) (by omega) (by rw [hta, List.mem_append]; rintro (h1 | h1); exact h h1; simp at h1; exact hb h1.symm)]
theorem cut_eval (x : ByteArray) (hx : x.size ≤ 1000000) (k : Nat) (hk : x.size + 1 ≤ k) : ontimeref51_cut.f k x = some (match cut10 x.data.toList with
      | none => (x, ⟨#[]⟩, false)
      | some (a, r) => (str a, str r, true)) := cut_loop x hx x.size 0 k (by omega) hk (by simp)
end Go.Proofs.YtmciflmlpnpkaaaDoor.Pa

namespace Go.Proofs.YtmciflmlpnpkaaaDoor.Pa
open Go.RowKit Go.Proofs.YtmciflmlpnpkaaaDoorW.PrintWords Go.Proofs.YtmciflmlpnpkaaaDoorW.PrintLast Go.Proofs.YtmciflmlpnpkaaaDoorW.PrintMore
set_option linter.unusedVariables false
set_option linter.unusedSimpArgs false

/-! ### the reference's split -/
def glue (cur : ByteArray) : List (List UInt8) → List ByteArray
  | [] => [cur]
  | p :: ps => (cur ++ str p) :: ps.map str
theorem str_nil_app (x : ByteArray) : x ++ str [] = x := ByteArray.append_empty
theorem nil_str_app (x : ByteArray) : (⟨#[]⟩ : ByteArray) ++ x = x := ByteArray.empty_append
theorem glue_space (cur : ByteArray) (l : List UInt8) : glue cur (partsL 32 (32 :: l)) = cur :: glue ⟨#[]⟩ (partsL 32 l) := by
  rw [partsL, if_pos rfl, glue, str_nil_app]
  cases hp : partsL 32 l with
  | nil => exact absurd hp (partsL_ne 32 l)
  | cons p ps => rw [glue, nil_str_app]; rfl
theorem glue_byte (cur : ByteArray) (b : UInt8) (l : List UInt8) (hb : ¬ b = 32) : glue cur (partsL 32 (b :: l)) = glue (cur ++ str [b]) (partsL 32 l) := by
  rw [partsL, if_neg hb]
  cases hp : partsL 32 l with
  | nil => exact absurd hp (partsL_ne 32 l)
  | cons p ps =>
    simp only [glue]
    rw [ByteArray.append_assoc, str_append]
    rfl
theorem glue_nil (l : List UInt8) : glue ⟨#[]⟩ (partsL 32 l) = (partsL 32 l).map str := by
  cases hp : partsL 32 l with
  | nil => exact absurd hp (partsL_ne 32 l)
  | cons p ps => rw [glue, nil_str_app]; rfl
theorem split_loop (x : ByteArray) (hx : x.size ≤ 1000000) : ∀ (d j k : Nat) (done : List ByteArray) (cur : ByteArray), j + d = x.size → d + 1 ≤ k → done.length ≤ j → cur.size ≤ j →
    ontimeref51_split.l0 k x (done ++ [cur]) (j : Int) = some (done ++ glue cur (partsL 32 (x.data.toList.drop j)))
  | 0, j, k, done, cur, hj, hk, h1, h2 => by
    obtain ⟨k, rfl⟩ : ∃ k', k = k' + 1 := ⟨k - 1, by omega⟩
    rw [ontimeref51_split.l0, if_neg (by omega), List.drop_of_length_le (by rw [size_len]; omega), partsL, glue, str_nil_app]
    rfl
  | d + 1, j, k, done, cur, hj, hk, h1, h2 => by
    obtain ⟨k, rfl⟩ : ∃ k', k = k' + 1 := ⟨k - 1, by omega⟩
    have hlt : j < x.size := by omega
    have hs : wrap64 ((j : Int) + 1) = ((j + 1 : Nat) : Int) := wrap_nat (j + 1) (by omega)
    have hlen : (done ++ [cur]).length = done.length + 1 := by simp
    have hm : wrap64 (((done ++ [cur]).length : Int) - 1) = (done.length : Int) := by
      rw [hlen]
      have := wrap_nat done.length (by omega)
      rw [show ((done.length + 1 : Nat) : Int) - 1 = (done.length : Int) by omega]
      exact this
    have hex : x.extract j (j + 1) = str [x.data.toList.getD j 0] := by
      rw [extract_str, drop_cons x j hlt, show j + 1 - j = 1 by omega]
      rfl
    rw [ontimeref51_split.l0, if_pos (by omega), if_pos (by omega), bt_list x j hlt, hs, hm, drop_cons x j hlt]
    by_cases hb : x.data.toList.getD j 0 = 32
    · rw [hb, if_pos (by rfl), if_pos (by rw [hlen]; omega), split_loop x hx d (j + 1) k (done ++ [cur]) ⟨#[]⟩ (by omega) (by omega) (by rw [hlen]; omega) (by show 0 ≤ j + 1; omega), glue_space]
      simp
    · have hrd : rdOf ByteArray.empty (done ++ [cur]) (done.length : Int) = cur := by simp [rdOf, List.getD_eq_getElem?_getD]
      have hset : (done ++ [cur]).set done.length (cur ++ str [x.data.toList.getD j 0]) = done ++ [cur ++ str [x.data.toList.getD j 0]] := by
        rw [List.set_append_right _ _ (Nat.le_refl _)]
        simp
      rw [if_neg (fun e => hb (UInt8.toNat_inj.1 (by have : (32 : UInt8).toNat = 32 := rfl; omega))), if_pos (by omega), if_pos (by rw [hlen]; omega), if_pos (by omega), if_pos (by omega), hrd, Int.toNat_natCast, Int.toNat_natCast, Int.toNat_natCast, hex,
        if_pos (by rw [str_size]; simp; omega), hset, split_loop x hx d (j + 1) k done _ (by omega) (by omega) (by omega) (by rw [ByteArray.size_append, str_size]; simp; omega), glue_byte _ _ _ hb]
theorem split_eval (x : ByteArray) (hx : x.size ≤ 1000000) (k : Nat) (hk : x.size + 1 ≤ k) : ontimeref51_split.f k x = some ((partsL 32 x.data.toList).map str) := by
  have := split_loop x hx x.size 0 k [] ⟨#[]⟩ (by omega) hk (by simp) (by show 0 ≤ 0; omega)
  rw [List.drop_zero, glue_nil] at this
  exact this
theorem pieces_map (s : ByteArray) : piecesB s = (partsL 32 s.data.toList).map str := by
  rw [← pieces_parts s, List.map_map]
  have : (str ∘ fun x : ByteArray => x.data.toList) = id := by
    funext x
    rfl
  rw [this, List.map_id]
end Go.Proofs.YtmciflmlpnpkaaaDoor.Pa

namespace Go.Proofs.YtmciflmlpnpkaaaDoor.Pa
open Go.RowKit Go.Proofs.YtmciflmlpnpkaaaDoorW.PrintWords Go.Proofs.YtmciflmlpnpkaaaDoorW.PrintLast Go.Proofs.YtmciflmlpnpkaaaDoorW.PrintMore
set_option linter.unusedVariables false
set_option linter.unusedSimpArgs false

/-! ### the reference's names -/
def ltB (c : Int) : Bool := decide (97 ≤ c) && decide (c ≤ 122)
def dgB (c : Int) : Bool := decide (48 ≤ c) && decide (c ≤ 57)
theorem letter_ev (c : Int) : ontimeref11_letter.f c = some (ltB c) := by
  unfold ontimeref11_letter.f ltB
  by_cases h : c ≥ 97
  · rw [if_pos h, decide_eq_true (show 97 ≤ c from h), Bool.true_and]
  · rw [if_neg h, decide_eq_false (show ¬ 97 ≤ c from h), Bool.false_and]
theorem digit_ev (c : Int) : ontimeref11_digit.f c = some (dgB c) := by
  unfold ontimeref11_digit.f dgB
  by_cases h : c ≥ 48
  · rw [if_pos h, decide_eq_true (show 48 ≤ c from h), Bool.true_and]
  · rw [if_neg h, decide_eq_false (show ¬ 48 ≤ c from h), Bool.false_and]
theorem space_ev (c : Int) : ∃ b, ontimeref11_space.f c = some b := by
  unfold ontimeref11_space.f
  repeat' split
  all_goals exact ⟨_, rfl⟩
theorem wordB_or (c : Int) : wordB c = (ltB c || dgB c) := rfl
theorem kind_step (k : Nat) (x : ByteArray) (x3 x4 x5 x6 : Bool) (j : Nat) (hj : j < x.size) (hx : x.size ≤ 1000000) :
    ∃ y4 y5 y6, ontimeref11_kind.l0 (k + 1) x x3 x4 x5 x6 (j : Int) = ontimeref11_kind.l0 k x (x3 && wordB (bt x (j : Int))) y4 y5 y6 ((j + 1 : Nat) : Int) := by
  have hs : wrap64 ((j : Int) + 1) = ((j + 1 : Nat) : Int) := wrap_nat (j + 1) (by omega)
  obtain ⟨sp, hsp⟩ := space_ev (bt x (j : Int))
  have h0 : (0 : Int) ≤ (j : Int) := by omega
  have h1 : (j : Int) < (x.size : Int) := by omega
  rw [ontimeref11_kind.l0, if_pos h1, hs, letter_ev, digit_ev, hsp, wordB_or]
  simp only [Option.bind_some, if_pos h0]
  generalize ltB (bt x (j : Int)) = lt
  generalize dgB (bt x (j : Int)) = dg
  cases x3 <;> cases x4 <;> cases x5 <;> cases x6 <;> cases lt <;> cases dg <;> exact ⟨_, _, _, rfl⟩
def memB (l : List ByteArray) (a : ByteArray) : Bool := decide (a.data.toList ∈ l.map fun x => x.data.toList)
theorem in_loop (l : List ByteArray) (a : ByteArray) (hl : l.length ≤ 1000000) : ∀ (d j k : Nat), j + d = l.length → d + 1 ≤ k → ontimeref11_In.l0 k l a (j : Int) = some (memB (l.drop j) a)
  | 0, j, k, hj, hk => by
    obtain ⟨k, rfl⟩ : ∃ k', k = k' + 1 := ⟨k - 1, by omega⟩
    rw [ontimeref11_In.l0, if_neg (by omega), List.drop_of_length_le (by omega)]
    simp [memB]
  | d + 1, j, k, hj, hk => by
    obtain ⟨k, rfl⟩ : ∃ k', k = k' + 1 := ⟨k - 1, by omega⟩
    have hlt : j < l.length := by omega
    have hr : rdOf ByteArray.empty l (j : Int) = l[j] := by simp [rdOf, List.getD_eq_getElem?_getD, hlt]
    have hs : wrap64 ((j : Int) + 1) = ((j + 1 : Nat) : Int) := wrap_nat (j + 1) (by omega)
    rw [ontimeref11_In.l0, if_pos (by omega), if_pos (by omega), hr, hs, in_loop l a hl d (j + 1) k (by omega) (by omega), List.drop_eq_getElem_cons hlt]
    unfold memB
    by_cases h : l[j].toList = a.toList
    · rw [if_pos h]
      rw [ByteArray.toList_eq, ByteArray.toList_eq] at h
      congr 1
      symm
      exact decide_eq_true (by rw [List.map_cons, h]; exact List.mem_cons_self)
    · rw [if_neg h]
      rw [ByteArray.toList_eq, ByteArray.toList_eq] at h
      congr 1
      have e : ¬ a.data.toList = l[j].data.toList := fun e => h e.symm
      simp only [List.map_cons, List.mem_cons, e, false_or]
theorem in_eval (l : List ByteArray) (a : ByteArray) (hl : l.length ≤ 1000000) (k : Nat) (hk : l.length + 1 ≤ k) : ontimeref11_In.f k l a = some (memB l a) := by
  have := in_loop l a hl l.length 0 k (by omega) hk
  rw [List.drop_zero] at this
  exact this
theorem kind_loop (x : ByteArray) (hx : x.size ≤ 1000000) : ∀ (d j k : Nat) (x3 x4 x5 x6 : Bool), j + d = x.size → d + 100 ≤ k →
    ∃ v, ontimeref11_kind.l0 k x x3 x4 x5 x6 (j : Int) = some v ∧ (v = 1 ↔ x3 = true ∧ (x.data.toList.drop j).all (fun b => wordB (b.toNat : Int)) = true)
  | 0, j, k, x3, x4, x5, x6, hj, hk => by
    obtain ⟨k, rfl⟩ : ∃ k', k = k' + 1 := ⟨k - 1, by omega⟩
    rw [List.drop_of_length_le (by rw [size_len]; omega), ontimeref11_kind.l0, if_neg (by omega)]
    cases x3 with
    | true => exact ⟨1, rfl, by simp⟩
    | false =>
      rw [if_neg (by simp)]
      cases x4 with
      | true => exact ⟨2, rfl, by simp⟩
      | false =>
        rw [if_neg (by simp)]
        unfold ontimeref11_Signs.f
        rw [Option.bind_some, in_eval _ _ (by simp) _ (by simp only [List.length_cons, List.length_nil]; omega), Option.bind_some]
        repeat' split
        · exact ⟨3, rfl, by simp⟩
        · exact ⟨4, rfl, by simp⟩
        · exact ⟨5, rfl, by simp⟩
        · exact ⟨0, rfl, by simp⟩
  | d + 1, j, k, x3, x4, x5, x6, hj, hk => by
    obtain ⟨k, rfl⟩ : ∃ k', k = k' + 1 := ⟨k - 1, by omega⟩
    have hlt : j < x.size := by omega
    obtain ⟨y4, y5, y6, he⟩ := kind_step k x x3 x4 x5 x6 j hlt hx
    obtain ⟨v, hv, hiff⟩ := kind_loop x hx d (j + 1) k (x3 && wordB (bt x (j : Int))) y4 y5 y6 (by omega) (by omega)
    refine ⟨v, he.trans hv, ?_⟩
    rw [hiff, drop_cons x j hlt, List.all_cons, bt_list x j hlt]
    simp [and_assoc]
theorem kind_eval (x : ByteArray) (hx : x.size ≤ 1000000) (k : Nat) (hk : x.size + 100 ≤ k) :
    ∃ v, ontimeref11_kind.f k x = some v ∧ (v = 1 ↔ x.data.toList ≠ [] ∧ headB x.data.toList = true ∧ x.data.toList.all (fun b => wordB (b.toNat : Int)) = true) := by
  unfold ontimeref11_kind.f
  have hsl := size_len x
  by_cases h0 : x.size = 0
  · have e : x.data.toList = [] := List.eq_nil_of_length_eq_zero (by omega)
    rw [if_pos (by omega), e]
    exact ⟨0, rfl, by simp⟩
  · have hlt : 0 < x.size := by omega
    have hb := bt_list x 0 hlt
    rw [show ((0 : Nat) : Int) = 0 from rfl] at hb
    obtain ⟨v, hv, hiff⟩ := kind_loop x hx x.size 0 k (ltB (bt x 0)) true true ((bt x 0) == 35) (by omega) hk
    rw [if_neg (by omega), if_pos (by omega), letter_ev, Option.bind_some]
    refine ⟨v, hv, ?_⟩
    have hne : x.data.toList ≠ [] := fun e => by rw [e] at hsl; simp at hsl; omega
    have hh : headB x.data.toList = ltB (bt x 0) := by rw [headB_eq x hlt, hb]; rfl
    rw [hiff, List.drop_zero, hh]
    simp [hne]
theorem takeWhile_same (p : UInt8 → Bool) : ∀ l : List UInt8, l.all p = true → l.takeWhile p = l
  | [], _ => rfl
  | b :: l, h => by
    rw [List.all_cons, Bool.and_eq_true] at h
    rw [List.takeWhile_cons_of_pos h.1, takeWhile_same p l h.2]
theorem wordLen_all (l : List UInt8) : wordLen l = l.length ↔ l.all (fun b => wordB (b.toNat : Int)) = true := by
  unfold wordLen
  constructor
  · intro h
    have h2 : l.takeWhile (fun b => wordB (b.toNat : Int)) = l := (List.takeWhile_sublist _).eq_of_length h
    rw [← h2]
    exact List.all_takeWhile
  · intro h
    rw [takeWhile_same _ l h]
theorem keys_str : ontimeref11_Keywords.f = some (keysL.map str) := rfl
theorem mem_str (l : List (List UInt8)) (x : ByteArray) : memB (l.map str) x = decide (x.data.toList ∈ l) := by
  unfold memB
  rw [List.map_map]
  have : ((fun x : ByteArray => x.data.toList) ∘ str) = id := by
    funext y
    rfl
  rw [this, List.map_id]
theorem rname_eval (x : ByteArray) (hx : x.size ≤ 1000000) (k : Nat) (hk : x.size + 100 ≤ k) : ontimeref11_Name.f k x = some (nameB x.data.toList) := by
  obtain ⟨v, hv, hiff⟩ := kind_eval x hx k hk
  unfold ontimeref11_Name.f nameB
  rw [hv, Option.bind_some, size_len]
  by_cases h1 : v = 1
  · obtain ⟨a1, a2, a3⟩ := hiff.1 h1
    have a4 := (wordLen_all x.data.toList).2 a3
    rw [size_len] at a4
    rw [if_pos h1, decide_eq_true a1, a2, a4]
    by_cases h12 : x.size ≤ 12
    · rw [if_pos (by omega), keys_str, Option.bind_some, in_eval _ _ (by simp [keysL]) _ (by rw [List.length_map]; show 13 + 1 ≤ k; omega), Option.bind_some, decide_eq_true h12]
      simp [mem_str]
    · rw [if_neg (by omega), decide_eq_false h12]
      simp
  · rw [if_neg h1]
    congr 1
    symm
    by_cases b1 : x.data.toList = []
    · simp [b1]
    · cases b2 : headB x.data.toList with
      | false => simp
      | true =>
        have b3 : ¬ wordLen x.data.toList = x.size := fun e => h1 (hiff.2 ⟨b1, b2, (wordLen_all _).1 (by rw [size_len]; exact e)⟩)
        rw [decide_eq_false b3]
        simp
end Go.Proofs.YtmciflmlpnpkaaaDoor.Pa

namespace Go.Proofs.YtmciflmlpnpkaaaDoor.Pa
open Go.RowKit Go.Proofs.YtmciflmlpnpkaaaDoorW.PrintWords Go.Proofs.YtmciflmlpnpkaaaDoorW.PrintLast Go.Proofs.YtmciflmlpnpkaaaDoorW.PrintMore
set_option linter.unusedVariables false
set_option linter.unusedSimpArgs false

/-! ### the reference's first line -/
abbrev FirstR := Int × ByteArray × List Int × ByteArray × Int × Bool
/-- What the reference's first returns, held against head. -/
def FirstOk (h : HeadR) (r : FirstR) : Prop := r.2.2.2.2.2 = h.ok ∧ (h.ok = true → r = (h.kind, h.name, h.nums, ⟨#[]⟩, (h.lines.toNat : Int), true))
theorem firstOk_no {h : HeadR} {r : FirstR} (h1 : h.ok = false) (h2 : r.2.2.2.2.2 = false) : FirstOk h r := ⟨by rw [h1, h2], fun e => by rw [h1] at e; cases e⟩
theorem rdOf_at (l : List ByteArray) (j : Nat) (h : j < l.length) : rdOf ByteArray.empty l (j : Int) = l[j] := by simp [rdOf, List.getD_eq_getElem?_getD, h]
/-- the numbers of a list of words -/
theorem nums_loop1 (l : List ByteArray) (hl : l.length ≤ 1000000) (x8 kd : Int) (nm : ByteArray) : ∀ (d j k : Nat) (acc : List Int), j + d = l.length → d + 200 ≤ k → acc.length = j →
    ∃ r, ontimeref51_first.l1 k l x8 (j : Int) kd nm acc ⟨#[]⟩ = some r ∧ (match numsO (l.drop j) with
      | none => r.2.2.2.2.2 = false
      | some ns => ∃ b, ontimeref51_counts.f kd ((acc ++ ns).length : Int) = some b ∧ r = (kd, nm, acc ++ ns, ⟨#[]⟩, x8, b))
  | 0, j, k, acc, hj, hk, ha => by
    obtain ⟨k, rfl⟩ : ∃ k', k = k' + 1 := ⟨k - 1, by omega⟩
    have hc : ∃ b, ontimeref51_counts.f kd (acc.length : Int) = some b := by
      unfold ontimeref51_counts.f
      repeat' split
      all_goals exact ⟨_, rfl⟩
    obtain ⟨b, hb⟩ := hc
    rw [ontimeref51_first.l1, if_neg (by omega), hb, Option.bind_some, List.drop_of_length_le (by omega), numsO]
    exact ⟨_, rfl, b, by rw [List.append_nil]; exact hb, by rw [List.append_nil]⟩
  | d + 1, j, k, acc, hj, hk, ha => by
    obtain ⟨k, rfl⟩ : ∃ k', k = k' + 1 := ⟨k - 1, by omega⟩
    have hlt : j < l.length := by omega
    have hs : wrap64 ((j : Int) + 1) = ((j + 1 : Nat) : Int) := wrap_nat (j + 1) (by omega)
    have hv := valueR_ok l[j]
    rw [ontimeref51_first.l1, if_pos (by omega), if_pos (by omega), rdOf_at l j hlt, value_eval _ k (by omega), Option.bind_some, List.drop_eq_getElem_cons hlt, numsO, ← hv.1]
    by_cases hb : (valueR l[j]).2 = true
    · rw [if_pos hb, if_pos (by omega), hs, if_pos hb, hv.2 hb]
      obtain ⟨r, h1, h2⟩ := nums_loop1 l hl x8 kd nm d (j + 1) k (acc ++ [numV l[j].data.toList]) (by omega) (by omega) (by simp [ha])
      refine ⟨r, h1, ?_⟩
      cases hn : numsO (l.drop (j + 1)) with
      | none => rw [hn] at h2; exact h2
      | some ns =>
        rw [hn] at h2
        obtain ⟨b, hb2, hr⟩ := h2
        rw [List.append_assoc] at hb2 hr
        exact ⟨b, hb2, hr⟩
    · rw [if_neg hb, if_neg hb]
      exact ⟨_, rfl, rfl⟩
/-- the counts of the kinds -/
theorem counts_ok (j : Nat) (sh : Shp) (hsh : shapesL[j]? = some sh) (n : Nat) : ontimeref51_counts.f (1 + (j : Int)) (n : Int) = some (!(decide ((n : Int) < sh.least) || decide (sh.most < (n : Int)))) := by
  have hj : j < 11 := (List.getElem?_eq_some_iff.1 hsh).1
  unfold ontimeref51_counts.f
  have hcase : j = 0 ∨ j = 1 ∨ j = 2 ∨ j = 3 ∨ j = 4 ∨ j = 5 ∨ j = 6 ∨ j = 7 ∨ j = 8 ∨ j = 9 ∨ j = 10 := by omega
  rcases hcase with rfl | rfl | rfl | rfl | rfl | rfl | rfl | rfl | rfl | rfl | rfl <;>
    (simp only [shapesL, List.getElem?_cons_zero, List.getElem?_cons_succ, Option.some.injEq] at hsh; subst hsh; simp; try (first | (rw [Bool.eq_iff_iff, Bool.and_eq_true, Bool.not_eq_true', Bool.not_eq_true', decide_eq_false_iff_not, decide_eq_false_iff_not, beq_iff_eq]; omega) | (rw [Bool.eq_iff_iff, Bool.and_eq_true, Bool.not_eq_true', Bool.not_eq_true', decide_eq_false_iff_not, decide_eq_false_iff_not, decide_eq_true_iff]; omega)))
theorem texted_ok (j : Nat) (sh : Shp) (hsh : shapesL[j]? = some sh) : ontimeref51_texted.f (1 + (j : Int)) = some sh.text := by
  have hj : j < 11 := (List.getElem?_eq_some_iff.1 hsh).1
  have hcase : j = 0 ∨ j = 1 ∨ j = 2 ∨ j = 3 ∨ j = 4 ∨ j = 5 ∨ j = 6 ∨ j = 7 ∨ j = 8 ∨ j = 9 ∨ j = 10 := by omega
  rcases hcase with rfl | rfl | rfl | rfl | rfl | rfl | rfl | rfl | rfl | rfl | rfl <;>
    (simp only [shapesL, List.getElem?_cons_zero, List.getElem?_cons_succ, Option.some.injEq] at hsh; subst hsh; rfl)
theorem named_ok (j : Nat) (sh : Shp) (hsh : shapesL[j]? = some sh) : ontimeref51_named.f (1 + (j : Int)) = some sh.name := by
  have hj : j < 11 := (List.getElem?_eq_some_iff.1 hsh).1
  have hcase : j = 0 ∨ j = 1 ∨ j = 2 ∨ j = 3 ∨ j = 4 ∨ j = 5 ∨ j = 6 ∨ j = 7 ∨ j = 8 ∨ j = 9 ∨ j = 10 := by omega
  rcases hcase with rfl | rfl | rfl | rfl | rfl | rfl | rfl | rfl | rfl | rfl | rfl <;>
    (simp only [shapesL, List.getElem?_cons_zero, List.getElem?_cons_succ, Option.some.injEq] at hsh; subst hsh; rfl)
theorem numsO_len : ∀ (l : List ByteArray) (ns : List Int), numsO l = some ns → ns.length = l.length
  | [], ns, h => by
    simp only [numsO, Option.some.injEq] at h
    subst h
    rfl
  | x :: l, ns, h => by
    rw [numsO] at h
    split at h
    · cases hn : numsO l with
      | none => rw [hn] at h; cases h
      | some ms =>
        rw [hn] at h
        simp only [Option.map_some, Option.some.injEq] at h
        subst h
        rw [List.length_cons, List.length_cons, numsO_len l ms hn]
    · cases h
theorem text_count (j : Nat) (sh : Shp) (hsh : shapesL[j]? = some sh) (ht : sh.text = true) : sh.least = 0 ∧ sh.most = 0 := by
  have key : ∀ s ∈ shapesL, s.text = true → s.least = 0 ∧ s.most = 0 := by decide
  exact key sh (List.mem_of_getElem? hsh) ht
/-- the numbers and their count -/
theorem fin_nums (j : Nat) (sh : Shp) (hsh : shapesL[j]? = some sh) (htx : sh.text = false) (nm : ByteArray) (l : List ByteArray) (hl : l.length ≤ 1000000) (k : Nat) (hk : l.length + 202 ≤ k) :
    ∃ r, ontimeref51_first.j2 k l 0 (1 + (j : Int)) nm ⟨#[]⟩ = some r ∧ FirstOk (finR sh (1 + (j : Int)) nm l) r := by
  obtain ⟨k, rfl⟩ : ∃ k', k = k' + 1 := ⟨k - 1, by omega⟩
  obtain ⟨r, h1, h2⟩ := nums_loop1 l hl 0 (1 + (j : Int)) nm l.length 0 k [] (by omega) (by omega) rfl
  rw [ontimeref51_first.j2]
  refine ⟨r, h1, ?_⟩
  rw [List.drop_zero] at h2
  unfold finR
  rw [if_neg (by rw [htx]; simp)]
  cases hn : numsO l with
  | none =>
    rw [hn] at h2
    refine firstOk_no ?_ h2
    split
    · rfl
    · unfold numsR; rw [hn]; rfl
  | some ns =>
    rw [hn] at h2
    obtain ⟨b, hb, hr⟩ := h2
    rw [List.nil_append] at hb hr
    have hlen := numsO_len l ns hn
    rw [hlen, counts_ok j sh hsh l.length] at hb
    have hb := Option.some.inj hb
    by_cases hc : (l.length : Int) < sh.least ∨ sh.most < (l.length : Int)
    · rw [if_pos hc]
      refine firstOk_no rfl ?_
      rw [hr, ← hb]
      rcases hc with hc | hc
      · simp [hc]
      · simp [hc]
    · rw [if_neg hc]
      have h3 : b = true := by
        rw [← hb, decide_eq_false (fun e => hc (.inl e)), decide_eq_false (fun e => hc (.inr e))]
        rfl
      unfold numsR
      rw [hn, hr, h3]
      exact ⟨rfl, fun _ => rfl⟩
theorem fin_eval (j : Nat) (sh : Shp) (hsh : shapesL[j]? = some sh) (nm : ByteArray) (l : List ByteArray) (hl : l.length ≤ 1000000) (k : Nat) (hk : l.length + 203 ≤ k) :
    ∃ r, ontimeref51_first.j1 k l (1 + (j : Int)) nm ⟨#[]⟩ = some r ∧ FirstOk (finR sh (1 + (j : Int)) nm l) r := by
  obtain ⟨k, rfl⟩ : ∃ k', k = k' + 1 := ⟨k - 1, by omega⟩
  rw [ontimeref51_first.j1, texted_ok j sh hsh, Option.bind_some]
  cases htx : sh.text with
  | false =>
    rw [if_neg (by simp)]
    exact fin_nums j sh hsh htx nm l hl k (by omega)
  | true =>
    obtain ⟨m0, m1⟩ := text_count j sh hsh htx
    rw [if_pos rfl]
    unfold finR
    rw [if_pos htx]
    by_cases h0 : l.length = 0
    · have e : l = [] := List.eq_nil_of_length_eq_zero h0
      subst e
      exact ⟨_, rfl, firstOk_no rfl rfl⟩
    · have hw : wrap64 ((l.length : Int) - 1) = ((l.length - 1 : Nat) : Int) := by
        rw [show (l.length : Int) - 1 = ((l.length - 1 : Nat) : Int) by omega]
        exact wrap_nat _ (by omega)
      have hlt : l.length - 1 < l.length := by omega
      have hv := valueR_ok l[l.length - 1]
      rw [if_neg (by omega), hw, if_pos (by omega), if_pos (by omega), rdOf_at l _ hlt, value_eval _ k (by omega), Option.bind_some]
      by_cases hb : (valueR l[l.length - 1]).2 = true
      · rw [if_pos hb, hv.2 hb]
        by_cases hneg : numV l[l.length - 1].data.toList < 0
        · rw [if_pos hneg]
          refine ⟨_, rfl, firstOk_no ?_ rfl⟩
          unfold textR
          split
          · rename_i x
            have hneg' : numV x.data.toList < 0 := hneg
            simp only []
            rw [decide_eq_false (by omega)]
            simp
          · rfl
        · rw [if_neg hneg, if_pos (by omega), Int.toNat_natCast]
          obtain ⟨k, rfl⟩ : ∃ k', k = k' + 1 := ⟨k - 1, by omega⟩
          obtain ⟨r, h1, h2⟩ := nums_loop1 (l.take (l.length - 1)) (by rw [List.length_take]; omega) (numV l[l.length - 1].data.toList) (1 + (j : Int)) nm (l.take (l.length - 1)).length 0 k [] (by omega) (by rw [List.length_take]; omega) rfl
          rw [ontimeref51_first.j2]
          refine ⟨r, h1, ?_⟩
          rw [List.drop_zero] at h2
          by_cases hone : l.length = 1
          · obtain ⟨x, rfl⟩ : ∃ x, l = [x] := by
              match l, hone with
              | [x], _ => exact ⟨x, rfl⟩
            have e1 : ([x] : List ByteArray).take ([x].length - 1) = [] := rfl
            rw [e1, numsO] at h2
            obtain ⟨b, hb2, hr⟩ := h2
            have hc := counts_ok j sh hsh 0
            rw [m0, m1] at hc
            have hb3 : b = true := by
              have : ontimeref51_counts.f (1 + (j : Int)) (([] ++ [] : List Int).length : Int) = some b := hb2
              rw [show (([] ++ [] : List Int).length : Int) = ((0 : Nat) : Int) from rfl, hc] at this
              exact (Option.some.inj this).symm
            have hnn : 0 ≤ numV x.data.toList := Int.not_lt.1 hneg
            have hbx : numB x.data.toList = true := by rw [← (valueR_ok x).1]; exact hb
            unfold textR
            simp only []
            rw [hr, hb3, hbx, decide_eq_true hnn]
            refine ⟨rfl, fun _ => ?_⟩
            have : (([x] : List ByteArray)[[x].length - 1]'hlt) = x := rfl
            simp only [this, List.append_nil]
            rw [Int.toNat_of_nonneg hnn]
          · refine firstOk_no ?_ ?_
            · unfold textR
              split
              · rename_i x
                exact absurd rfl hone
              · rfl
            · cases hn : numsO (l.take (l.length - 1)) with
              | none => rw [hn] at h2; exact h2
              | some ns =>
                rw [hn] at h2
                obtain ⟨b, hb2, hr⟩ := h2
                have hlen := numsO_len _ ns hn
                rw [List.length_take] at hlen
                have hc := counts_ok j sh hsh ns.length
                rw [m0, m1] at hc
                rw [List.nil_append, hc] at hb2
                have hb3 := Option.some.inj hb2
                rw [hr, ← hb3, decide_eq_true (show (0 : Int) < (ns.length : Int) by omega)]
                simp
      · rw [if_neg hb]
        refine ⟨_, rfl, firstOk_no ?_ rfl⟩
        unfold textR
        split
        · rename_i x
          have hbx : numB x.data.toList = false := by
            rw [← (valueR_ok x).1]
            simpa using hb
          simp only []
          rw [hbx]
          rfl
        · rfl
end Go.Proofs.YtmciflmlpnpkaaaDoor.Pa

namespace Go.Proofs.YtmciflmlpnpkaaaDoor.Pa
open Go.RowKit Go.Proofs.YtmciflmlpnpkaaaDoorW.PrintWords Go.Proofs.YtmciflmlpnpkaaaDoorW.PrintLast Go.Proofs.YtmciflmlpnpkaaaDoorW.PrintMore
set_option linter.unusedVariables false
set_option linter.unusedSimpArgs false

/-! ### the kind of the first word, as the reference finds it -/
theorem words_f : ontimeref51_Words.f = some (shapesL.map fun s => str s.word) := rfl
def kgo (x : List UInt8) : List Shp → Nat → Int → Int
  | [], _, kd => kd
  | s :: l, j, kd => kgo x l (j + 1) (if s.word = x then ((j + 1 : Nat) : Int) else kd)
theorem kgo_no (x : List UInt8) : ∀ (l : List Shp) (j : Nat) (kd : Int), (∀ s ∈ l, s.word ≠ x) → kgo x l j kd = kd ∧ kindGo x l j = -1
  | [], _, _, _ => ⟨rfl, rfl⟩
  | s :: l, j, kd, h => by
    have h1 := h s List.mem_cons_self
    obtain ⟨a, b⟩ := kgo_no x l (j + 1) kd (fun t ht => h t (List.mem_cons_of_mem _ ht))
    exact ⟨by rw [kgo, if_neg h1, a], by rw [kindGo, if_neg h1, b]⟩
theorem kgo_eq (x : List UInt8) : ∀ (l : List Shp) (j : Nat), (l.map (·.word)).Nodup → (kgo x l j 0 = 0 ∧ kindGo x l j = -1) ∨ (kgo x l j 0 = 1 + kindGo x l j ∧ kindGo x l j ≠ -1)
  | [], _, _ => .inl ⟨rfl, rfl⟩
  | s :: l, j, h => by
    rw [List.map_cons, List.nodup_cons] at h
    by_cases h1 : s.word = x
    · have hno := kgo_no x l (j + 1) ((j + 1 : Nat) : Int) (fun t ht e => h.1 (by rw [h1, ← e]; exact List.mem_map_of_mem ht))
      right
      rw [kgo, if_pos h1, hno.1, kindGo, if_pos h1]
      omega
    · rw [kgo, if_neg h1, kindGo, if_neg h1]
      exact kgo_eq x l (j + 1) h.2
theorem kgo_kind (x : List UInt8) : (kgo x shapesL 0 0 = 0 ∧ kindI x = -1) ∨ (kgo x shapesL 0 0 = 1 + kindI x ∧ kindI x ≠ -1) := kgo_eq x shapesL 0 (by decide)
theorem words_loop (ws : List ByteArray) (x0 : ByteArray) (h0 : ws[0]? = some x0) (k : Nat) (tx : ByteArray) : ∀ (d j : Nat) (kd : Int), j + d = 11 →
    ontimeref51_first.l0 (k + d) ws (j : Int) kd ⟨#[]⟩ tx = ontimeref51_first.l0 k ws 11 (kgo x0.data.toList (shapesL.drop j) j kd) ⟨#[]⟩ tx
  | 0, j, kd, hj => by
    obtain rfl : j = 11 := by omega
    rfl
  | d + 1, j, kd, hj => by
    have hlt : j < shapesL.length := by show j < 11; omega
    have hw0 : 0 < ws.length := (List.getElem?_eq_some_iff.1 h0).1
    have e0 : rdOf ByteArray.empty ws 0 = x0 := by
      have := rdOf_at ws 0 hw0
      rw [show ((0 : Nat) : Int) = 0 from rfl] at this
      rw [this]
      exact (List.getElem?_eq_some_iff.1 h0).2
    have e1 : rdOf ByteArray.empty (shapesL.map fun s => str s.word) (j : Int) = str shapesL[j].word := by
      rw [rdOf_at _ j (by simpa using hlt)]
      simp
    have hs : wrap64 ((j : Int) + 1) = ((j + 1 : Nat) : Int) := wrap_nat (j + 1) (by omega)
    have hm : ((j + 1 : Nat) : Int) % 256 = ((j + 1 : Nat) : Int) := by omega
    have hl : ((shapesL.map fun s => str s.word).length : Int) = 11 := rfl
    rw [← Nat.add_assoc, ontimeref51_first.l0, words_f, Option.bind_some, Option.bind_some, hl, if_pos (by omega), if_pos (by omega), if_pos (by omega), if_pos (by omega), e1, e0, hs, hm, List.drop_eq_getElem_cons hlt, kgo]
    by_cases h : shapesL[j].word = x0.data.toList
    · rw [if_pos (by rw [ByteArray.toList_eq, ByteArray.toList_eq]; exact h), if_pos h]
      exact words_loop ws x0 h0 k tx d (j + 1) _ (by omega)
    · rw [if_neg (by rw [ByteArray.toList_eq, ByteArray.toList_eq]; exact h), if_neg h]
      exact words_loop ws x0 h0 k tx d (j + 1) _ (by omega)
theorem first_eval (s : ByteArray) (hs : s.size ≤ 100000) (k : Nat) (hk : 2 * s.size + 1000 ≤ k) : ∃ r, ontimeref51_first.f k s = some r ∧ FirstOk (headR s) r := by
  unfold ontimeref51_first.f headR
  have hp := pieces_map s
  have hlen := pieces_len s (by omega)
  have hlen2 : (piecesB s).length ≤ s.size + 1 := by
    rw [hp, List.length_map]
    have h1 : (piecesB s).length = Lib.countB s ⟨#[32]⟩ + 1 := Lib.splitB_all _ (by decide) 0 _ s rfl
    have h2 := Lib.countB_le ⟨#[32]⟩ (by decide) s.size s (Nat.le_refl _)
    rw [hp, List.length_map] at h1
    omega
  have hsm := splitB_small ⟨#[32]⟩ (Lib.countB s ⟨#[32]⟩) s
  rw [split_eval s (by omega) k (by omega), Option.bind_some, ← hp]
  have hsm2 : ∀ x ∈ piecesB s, x.size ≤ s.size := hsm
  generalize piecesB s = ws at *
  cases ws with
  | nil => simp at hlen
  | cons x0 l =>
    obtain ⟨k, rfl⟩ : ∃ k', k = k' + 1 + 11 := ⟨k - 12, by omega⟩
    have hwl := words_loop (x0 :: l) x0 rfl (k + 1) ⟨#[]⟩ 11 0 0 rfl
    rw [List.drop_zero, show ((0 : Nat) : Int) = 0 from rfl] at hwl
    rw [hwl, ontimeref51_first.l0, words_f, Option.bind_some, show ((shapesL.map fun s => str s.word).length : Int) = 11 from rfl, if_neg (by omega)]
    unfold headWs
    show ∃ r, _ ∧ FirstOk (if kindI x0.data.toList < 0 then noneR else nameR (shapesL.getD (kindI x0.data.toList).toNat shp0) (1 + kindI x0.data.toList) l) r
    rw [List.length_cons] at hlen2
    rcases kgo_kind x0.data.toList with ⟨h1, h2⟩ | ⟨h1, h2⟩
    · rw [h1, if_pos rfl, h2, if_pos (by omega)]
      exact ⟨_, rfl, firstOk_no rfl rfl⟩
    · rcases kindI_range x0.data.toList with hk1 | ⟨j, sh, HK, hsh, _⟩
      · exact absurd hk1 h2
      · have hneg : ¬ ((j : Int) < 0) := by omega
        have hne0 : ¬ (1 + (j : Int) = 0) := by omega
        rw [h1, HK, if_neg hne0, if_pos (by rw [List.length_cons]; omega), Option.bind_some, named_ok j sh hsh, Option.bind_some, if_neg hneg, Int.toNat_natCast, List.getD_eq_getElem?_getD, hsh, Option.getD_some]
        have hdrop : (x0 :: l).drop (1 : Int).toNat = l := rfl
        rw [hdrop]
        unfold nameR
        cases hnm : sh.name with
        | false =>
          rw [if_neg (by simp), if_neg (by simp)]
          exact fin_eval j sh hsh ⟨#[]⟩ l (by omega) k (by omega)
        | true =>
          rw [if_pos rfl, if_pos rfl]
          cases l with
          | nil => exact ⟨_, rfl, firstOk_no rfl rfl⟩
          | cons n l =>
            have hns := hsm2 n (List.mem_cons_of_mem _ List.mem_cons_self)
            have e0 : rdOf ByteArray.empty (n :: l) 0 = n := rfl
            rw [List.length_cons] at hlen2
            rw [if_neg (by rw [List.length_cons]; omega), if_pos (by rw [List.length_cons]; omega), e0, rname_eval n (by omega) k (by omega), Option.bind_some]
            cases hb : nameB n.data.toList with
            | false =>
              rw [if_neg (by simp)]
              refine ⟨_, rfl, firstOk_no ?_ rfl⟩
              show (if nameB n.data.toList = true then finR sh (1 + (j : Int)) n l else noneR).ok = false
              rw [hb]
              rfl
            | true =>
              rw [if_pos rfl, if_pos (by rw [List.length_cons]; omega)]
              obtain ⟨r, h3, h4⟩ := fin_eval j sh hsh n l (by omega) k (by omega)
              refine ⟨r, h3, ?_⟩
              show FirstOk (if nameB n.data.toList = true then finR sh (1 + (j : Int)) n l else noneR) r
              rw [if_pos hb]
              exact h4
end Go.Proofs.YtmciflmlpnpkaaaDoor.Pa

namespace Go.Proofs.YtmciflmlpnpkaaaDoor.Pa
open Go.RowKit Go.Proofs.YtmciflmlpnpkaaaDoorW.PrintWords Go.Proofs.YtmciflmlpnpkaaaDoorW.PrintLast Go.Proofs.YtmciflmlpnpkaaaDoorW.PrintMore
set_option linter.unusedVariables false
set_option linter.unusedSimpArgs false

/-! ### the reference's Parse -/
def c71 (c : S31) : S71 := ⟨c.f0, c.f1, c.f2, c.f3⟩
theorem text_loop (out : List S71) (at_ n kd : Int) (nm : ByteArray) (ns : List Int) (hn : n ≤ 9223372036854775807) : ∀ (m : Nat) (l : List UInt8) (i : Nat) (text : ByteArray) (k : Nat), (i : Int) + (m : Int) = n → l.length ≤ 100000 → text.size + l.length ≤ 1000000 → 2 * l.length + 5 ≤ k →
    (takeL m l = none → ontimeref51_Parse.l1 k out at_ (str l) n (i : Int) kd nm ns text = some ([], at_, 4)) ∧
    (∀ t r, takeL m l = some (t, r) → ontimeref51_Parse.l1 k out at_ (str l) n (i : Int) kd nm ns text = ontimeref51_Parse.l1 (k - m) out at_ (str r) n n kd nm ns (text ++ str t))
  | 0, l, i, text, k, h1, h2, h3, h4 => by
    refine ⟨fun h => by simp [takeL] at h, fun t r h => ?_⟩
    simp only [takeL, Option.some.injEq, Prod.mk.injEq] at h
    obtain ⟨rfl, rfl⟩ := h
    have : (i : Int) = n := by omega
    rw [this, str_nil_app, Nat.sub_zero]
  | m + 1, l, i, text, k, h1, h2, h3, h4 => by
    obtain ⟨k, rfl⟩ : ∃ k', k = k' + 1 := ⟨k - 1, by omega⟩
    have hlt : (i : Int) < n := by omega
    rw [ontimeref51_Parse.l1, if_pos hlt, cut_eval (str l) (by rw [str_size]; omega) k (by rw [str_size]; omega), Option.bind_some, str_data, takeL]
    cases hc : cut10 l with
    | none =>
      refine ⟨fun _ => rfl, fun t r h => ?_⟩
      cases h
    | some q =>
      obtain ⟨a, r1⟩ := q
      have hll := congrArg List.length (cut10_some hc).1
      rw [List.length_append, List.length_cons] at hll
      have hsz1 : text.size + (str a).size ≤ 9223372036854775807 := by rw [str_size]; omega
      have hsz2 : (text ++ str a).size + 1 ≤ 9223372036854775807 := by rw [ByteArray.size_append, str_size]; omega
      have hw : wrap64 ((i : Int) + 1) = ((i + 1 : Nat) : Int) := wrap_one i (by omega)
      have ht10 : (text ++ str a) ++ (⟨#[10]⟩ : ByteArray) = text ++ str (a ++ [10]) := by
        rw [ByteArray.append_assoc, show (⟨#[10]⟩ : ByteArray) = str [10] from rfl, str_append]
      obtain ⟨ih1, ih2⟩ := text_loop out at_ n kd nm ns hn m r1 (i + 1) (text ++ str (a ++ [10])) k (by omega) (by omega) (by rw [ByteArray.size_append, str_size]; simp; omega) (by omega)
      simp only
      rw [if_pos trivial, if_pos hsz1, if_pos hsz2, hw, ht10]
      cases ht : takeL m r1 with
      | none =>
        refine ⟨fun _ => ih1 ht, fun t r h => ?_⟩
        cases h
      | some p =>
        obtain ⟨t1, r2⟩ := p
        refine ⟨fun h => (by cases h), fun t r h => ?_⟩
        simp only [Option.map_some, Option.some.injEq, Prod.mk.injEq] at h
        obtain ⟨rfl, rfl⟩ := h
        rw [ih2 t1 r2 ht, show k + 1 - (m + 1) = k - m by omega, ByteArray.append_assoc, str_append]
        simp
theorem wrap_two (a n : Nat) (h : a + n + 1 ≤ 1000000000) : wrap64 (wrap64 ((a : Int) + 1) + (n : Int)) = ((a + (1 + n) : Nat) : Int) := by
  have e1 : wrap64 ((a : Int) + 1) = ((a + 1 : Nat) : Int) := wrap_nat (a + 1) (by omega)
  rw [e1, show ((a + 1 : Nat) : Int) + (n : Int) = ((a + (1 + n) : Nat) : Int) by omega]
  exact wrap_nat _ (by omega)
theorem rparse_step (l : List UInt8) (out : List S71) (at_ k : Nat) (hl : l.length ≤ 90000) (hne : l ≠ []) (hout : out.length < 1000) (hat : at_ ≤ 2000000) (hk : 4 * l.length + 2000 ≤ k) :
    (∀ e, oneL l = .err e → ontimeref51_Parse.l0 k (str l) out at_ = some ([], (at_ : Int), e)) ∧
    (∀ c n r R, oneL l = .ok c n r → (∀ k', 4 * r.length + 2000 ≤ k' → ontimeref51_Parse.l0 k' (str r) (out ++ [c71 c]) ((at_ + (1 + n) : Nat) : Int) = some R) → ontimeref51_Parse.l0 k (str l) out at_ = some R) := by
  obtain ⟨k, rfl⟩ : ∃ k', k = k' + 1 := ⟨k - 1, by omega⟩
  have h1 : ¬ (str l).toList = [] := by rw [ByteArray.toList_eq]; exact hne
  rw [ontimeref51_Parse.l0, if_neg h1, if_neg (by omega), cut_eval (str l) (by rw [str_size]; omega) k (by rw [str_size]; omega), Option.bind_some, str_data]
  unfold oneL
  cases hc : cut10 l with
  | none =>
    refine ⟨fun e h => ?_, fun c n r R h _ => by cases h⟩
    injection h with h
    subst h
    rfl
  | some q =>
    obtain ⟨a, r1⟩ := q
    have hll := congrArg List.length (cut10_some hc).1
    rw [List.length_append, List.length_cons] at hll
    simp only
    rw [if_pos trivial]
    obtain ⟨fr, hf1, hf2⟩ := first_eval (str a) (by rw [str_size]; omega) k (by rw [str_size]; omega)
    rw [hf1, Option.bind_some]
    obtain ⟨hf3, hf4⟩ := hf2
    unfold oneH
    cases ho : (headR (str a)).ok with
    | false =>
      rw [ho] at hf3
      have hne2 : ¬ fr.2.2.2.2.2 = true := by rw [hf3]; simp
      rw [if_neg hne2, if_neg (show ¬ false = true by simp)]
      refine ⟨fun e h => ?_, fun c n r R h _ => by cases h⟩
      injection h with h
      subst h
      rfl
    | true =>
      have hfr := hf4 ho
      rw [hfr]
      simp only
      rw [if_pos trivial, if_pos trivial]
      have hlt : ((headR (str a)).lines.toNat : Int) ≤ 9223372036854775807 := headR_lines _
      have hL := text_loop out at_ ((headR (str a)).lines.toNat : Int) (headR (str a)).kind (headR (str a)).name (headR (str a)).nums hlt (headR (str a)).lines.toNat r1 0 ⟨#[]⟩ k (by omega) (by omega) (by show 0 + r1.length ≤ 1000000; omega) (by omega)
      rw [show ((0 : Nat) : Int) = 0 from rfl] at hL
      cases ht : takeL (headR (str a)).lines.toNat r1 with
      | none =>
        refine ⟨fun e h => ?_, fun c n r R h _ => by cases h⟩
        injection h with h
        subst h
        exact hL.1 ht
      | some p =>
        obtain ⟨t, r2⟩ := p
        obtain ⟨e1, e2, _⟩ := takeL_some ht
        have hcl : t.count 10 ≤ t.length := List.count_le_length
        have e1l := congrArg List.length e1
        rw [List.length_append] at e1l
        rw [hL.2 t r2 ht, nil_str_app]
        obtain ⟨k2, hk2⟩ : ∃ k2, k - (headR (str a)).lines.toNat = k2 + 1 := ⟨k - (headR (str a)).lines.toNat - 1, by omega⟩
        rw [hk2, ontimeref51_Parse.l1, if_neg (by omega), str_size]
        simp only
        by_cases hbig : 65536 < t.length
        · have hb1 : (t.length : Int) > 65536 := by omega
          rw [if_pos hb1, if_pos hbig]
          refine ⟨fun e h => ?_, fun c n r R h _ => by cases h⟩
          injection h with h
          subst h
          rfl
        · have hb1 : ¬ (t.length : Int) > 65536 := by omega
          have hb2 : out.length < 2199023255552 := by omega
          rw [if_neg hb1, if_neg hbig, if_pos hb2, wrap_two at_ _ (by omega)]
          refine ⟨fun e h => (by cases h), fun c n r R h hR => ?_⟩
          injection h with h1 h2 h3
          subst h1 h2 h3
          exact hR k2 (by omega)
theorem rparse_steps {l : List UInt8} {cs : List S31} {n : Nat} {r : List UInt8} (h : Steps l cs n r) : ∀ (out : List S71) (at_ k : Nat) (R : List S71 × Int × Int), l.length ≤ 90000 → out.length + cs.length ≤ 1000 → at_ + n ≤ 2000000 → 4 * l.length + 2000 ≤ k →
    (∀ k', 4 * r.length + 2000 ≤ k' → ontimeref51_Parse.l0 k' (str r) (out ++ cs.map c71) ((at_ + n : Nat) : Int) = some R) → ontimeref51_Parse.l0 k (str l) out at_ = some R := by
  induction h with
  | nil l =>
    intro out at_ k R _ _ _ hk hR
    have := hR k hk
    simpa using this
  | @cons l c n r cs m r' h1 _ ih =>
    intro out at_ k R hl hout hat hk hR
    obtain ⟨p, e1, _, _, s1, n1⟩ := oneL_local h1
    have e2 := congrArg List.length e1
    rw [List.length_append] at e2
    rw [List.length_cons] at hout
    refine (rparse_step l out at_ k hl (by rintro rfl; simp at e2; omega) (by omega) (by omega) hk).2 c n r R h1 (fun k' hk' => ?_)
    refine ih (out ++ [c71 c]) (at_ + (1 + n)) k' R (by omega) (by simp; omega) (by omega) hk' (fun k2 hk2 => ?_)
    have := hR k2 hk2
    rw [List.append_assoc]
    rw [show at_ + (1 + n) + m = at_ + (1 + n + m) by omega]
    exact this
theorem rparse_ok (l : List UInt8) (cs : List S31) (n : Nat) (h : Steps l cs n []) (hl : l.length ≤ 90000) (hcs : cs.length ≤ 1000) (k : Nat) (hk : 4 * l.length + 2000 ≤ k) : ontimeref51_Parse.f k (str l) = some (cs.map c71, 0, 0) := by
  obtain ⟨p, e1, _, _, _, n1⟩ := steps_local h
  rw [List.append_nil] at e1
  subst e1
  unfold ontimeref51_Parse.f
  refine rparse_steps h [] 1 k _ hl (by simpa using hcs) (by omega) hk (fun k' hk' => ?_)
  obtain ⟨k', rfl⟩ : ∃ k2, k' = k2 + 1 := ⟨k' - 1, by omega⟩
  rw [ontimeref51_Parse.l0, if_pos (by rw [ByteArray.toList_eq]; rfl)]
  rfl
theorem rparse_err (l : List UInt8) (cs : List S31) (n : Nat) (r : List UInt8) (e : Int) (h : Steps l cs n r) (hr : r ≠ []) (he : oneL r = .err e) (hl : l.length ≤ 90000) (hcs : cs.length < 1000) (k : Nat) (hk : 4 * l.length + 2000 ≤ k) : ontimeref51_Parse.f k (str l) = some ([], ((1 + n : Nat) : Int), e) := by
  obtain ⟨p, e1, _, _, _, n1⟩ := steps_local h
  have e2 := congrArg List.length e1
  rw [List.length_append] at e2
  unfold ontimeref51_Parse.f
  refine rparse_steps h [] 1 k _ hl (by simp; omega) (by omega) hk (fun k' hk' => ?_)
  exact (rparse_step r _ (1 + n) k' (by omega) hr (by simpa using hcs) (by omega) hk').1 e he

/-! ### ScriptParses -/
theorem numsR_nums (k : Int) (nm : ByteArray) (l : List ByteArray) : (numsR k nm [] l).nums.length ≤ l.length := by
  unfold numsR
  cases hn : numsO l with
  | none => exact Nat.zero_le _
  | some ns =>
    have := numsO_len l ns hn
    simp [this]
theorem finR_nums (s : Shp) (k : Int) (nm : ByteArray) (l : List ByteArray) : (finR s k nm l).nums.length ≤ l.length := by
  unfold finR
  split
  · unfold textR
    split
    · exact Nat.zero_le _
    · exact Nat.zero_le _
  · split
    · exact Nat.zero_le _
    · exact numsR_nums k nm l
theorem nameR_nums (s : Shp) (k : Int) (l : List ByteArray) : (nameR s k l).nums.length ≤ l.length + 1 := by
  unfold nameR
  by_cases h : s.name = true
  · rw [if_pos h]
    cases l with
    | nil => exact Nat.zero_le _
    | cons n l =>
      show (if nameB n.data.toList = true then finR s k n l else noneR).nums.length ≤ l.length + 1 + 1
      by_cases hb : nameB n.data.toList = true
      · rw [if_pos hb]
        have := finR_nums s k n l
        omega
      · rw [if_neg hb]
        exact Nat.zero_le _
  · rw [if_neg h]
    have := finR_nums s k ⟨#[]⟩ l
    omega
theorem headR_nums (s : ByteArray) : (headR s).nums.length ≤ (piecesB s).length := by
  unfold headR
  cases hp : piecesB s with
  | nil => exact Nat.zero_le _
  | cons x l =>
    show (if kindI x.data.toList < 0 then noneR else nameR (shapesL.getD (kindI x.data.toList).toNat shp0) (1 + kindI x.data.toList) l).nums.length ≤ l.length + 1
    by_cases hk : kindI x.data.toList < 0
    · rw [if_pos hk]
      exact Nat.zero_le _
    · rw [if_neg hk]
      exact nameR_nums _ _ _
theorem steps_nums {l : List UInt8} {cs : List S31} {n : Nat} {r : List UInt8} (h : Steps l cs n r) (hl : l.length ≤ 90000) : ∀ c ∈ cs, c.f2.length ≤ 1000000 := by
  induction h with
  | nil l => intro c hc; cases hc
  | @cons l c n r cs m r' h1 _ ih =>
    obtain ⟨p, e1, _, _, s1, n1⟩ := oneL_local h1
    have e2 := congrArg List.length e1
    rw [List.length_append] at e2
    intro d hd
    rcases List.mem_cons.1 hd with rfl | hd
    · obtain ⟨a, t, h2, _, _, h4, _⟩ := oneL_ok h1
      have h5 := congrArg HeadR.nums h4
      have h6 := headR_nums (str a)
      rw [h5, pieces_map, List.length_map] at h6
      have h7 := pieces_len (str a) (by
        have := congrArg List.length h2
        simp at this
        rw [str_size]
        omega)
      rw [pieces_map, List.length_map] at h7
      have h8 : ∀ (x : List UInt8), (partsL 32 x).length ≤ x.length + 1 := by
        intro x
        induction x with
        | nil => simp [partsL]
        | cons b x ih =>
          rw [partsL]
          split
          · simp; omega
          · split
            · rename_i y ys hy
              rw [hy] at ih
              simp at ih ⊢
              omega
            · simp
      have h9 := h8 (str a).data.toList
      have h10 := congrArg List.length h2
      rw [str_data] at h9
      rw [str_data] at h6
      simp at h10
      exact Nat.le_trans h6 (by omega)
    · exact ih (by omega) d hd
theorem eqL_map : ∀ l : List S31, eqL l (l.map c71) = true
  | [] => rfl
  | x :: l => by
    rw [List.map_cons, eqL, eqL_map l]
    simp [eqC, c71]
theorem ScriptParses_pure (a0 : ByteArray) : ∃ k, ontimelaw51_ScriptParses.f k a0 = some true := by
  refine ⟨10000, ?_⟩
  unfold ontimelaw51_ScriptParses.f
  rw [awake_pos _ (by omega), Option.bind_some, if_pos rfl, ontimelaw51_ScriptParses.j0]
  by_cases hbig : (a0.size : Int) > 1500
  · rw [if_pos (decide_eq_true hbig), awake_pos _ (by omega)]
    rfl
  · rw [if_neg (by rw [decide_eq_false hbig]; simp)]
    have hl := size_len a0
    obtain ⟨cs, n, r, h, he⟩ := steps_all _ a0.data.toList (Nat.le_refl _)
    obtain ⟨p, e1, o1, t1, s1, n1⟩ := steps_local h
    have e1l := congrArg List.length e1
    rw [List.length_append] at e1l
    by_cases hr : r = []
    · subst hr
      have h1 := parse_ok _ cs n h (by omega) (by omega) 9999 (by omega)
      have h2 := rparse_ok _ cs n h (by omega) (by omega) 9999 (by omega)
      rw [str_of] at h1 h2
      have h3 : ontimelaw51_equal.f cs (cs.map c71) = some true := by
        unfold ontimelaw51_equal.f
        rw [if_pos (by rw [List.all_eq_true]; intro c hc; simpa using steps_nums h (by omega) c hc), eqL_map]
      rw [h1, Option.bind_some, h2, Option.bind_some]
      simp only
      rw [if_pos trivial, if_pos trivial, h3]
      rfl
    · rcases he with he | ⟨e, he⟩
      · exact absurd he hr
      · have h1 := parse_err _ cs n r e h hr he (by omega) (by omega) 9999 (by omega)
        have h2 := rparse_err _ cs n r e h hr he (by omega) (by omega) 9999 (by omega)
        rw [str_of] at h1 h2
        rw [h1, Option.bind_some, h2, Option.bind_some]
        simp only
        rw [if_pos trivial, if_pos trivial]
        rfl
end Go.Proofs.YtmciflmlpnpkaaaDoor.Pa

