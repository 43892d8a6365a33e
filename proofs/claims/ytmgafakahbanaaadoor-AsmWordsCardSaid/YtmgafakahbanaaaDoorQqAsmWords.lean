/- The plain law AsmWords: what the functions answer, in plain words. -/
import Derived.Test.YtmgafakahbanaaaDoorPcx2
import Derived.Test.YtmgafakahbanaaaDoorE3
import Derived.Laws.BitsLemmas
import Derived.Test.YtmgafakahbanaaaDoorPdx3
namespace Go.Proofs.YtmgafakahbanaaaDoor.Pa
open Go.RowKit Go.Proofs.YtmgafakahbanaaaDoorW.PrintWords Go.Proofs.YtmgafakahbanaaaDoorW.PrintLast Go.Proofs.YtmgafakahbanaaaDoorW.PrintMore
set_option linter.unusedVariables false
set_option linter.unusedSimpArgs false
theorem awake_eval : ontimelaw05_awake.f = some true := by kernel_rfl
theorem rd_T48_at (l : List S48) (j : Nat) (h : j < l.length) : rd_T48 l (j : Int) = l[j] := by
  simp [rd_T48, List.getD, List.getElem?_eq_getElem h]
theorem valid_loop (l : List S48) (hl : l.length ≤ 1000000) (hok : ∀ i ∈ l, opOk i = true) : ∀ (d k j : Nat), j + d = l.length → d < k →
    ontimelaw05_valid.l0 k l (j : Int) = some (if (l.drop j).all validB = true then 1 else 0) := by
  intro d
  induction d with
  | zero =>
    intro k j hj hk
    obtain ⟨k, rfl⟩ : ∃ m, k = m + 1 := ⟨k - 1, by omega⟩
    simp only [ontimelaw05_valid.l0]
    rw [if_neg (by omega), List.drop_of_length_le (by omega)]
    rfl
  | succ d ih =>
    intro k j hj hk
    obtain ⟨k, rfl⟩ : ∃ m, k = m + 1 := ⟨k - 1, by omega⟩
    have hlt : j < l.length := by omega
    have ho := hok l[j] (List.getElem_mem hlt)
    simp only [opOk, Bool.and_eq_true, decide_eq_true_eq] at ho
    have hw : wrap64 ((j : Int) + 1) = ((j + 1 : Nat) : Int) := by unfold wrap64; omega
    simp only [ontimelaw05_valid.l0]
    rw [if_pos (by omega), if_pos (by omega), rd_T48_at l j hlt, hw, isa_Valid.f, if_pos ho, List.drop_eq_getElem_cons hlt, List.all_cons]
    simp only [Option.bind_some]
    by_cases hv : validB l[j] = true
    · rw [if_pos hv, ih k (j + 1) (by omega) (by omega), hv, Bool.true_and]
    · rw [if_neg hv]
      have : validB l[j] = false := by simpa using hv
      rw [this, Bool.false_and, if_neg (by simp)]
theorem valid_eval (l : List S48) (hl : l.length ≤ 1000000) (hok : ∀ i ∈ l, opOk i = true) (k : Nat) (hk : l.length < k) : ontimelaw05_valid.f k l = some (if l.all validB = true then 1 else 0) := by
  have := valid_loop l hl hok l.length k 0 (by omega) hk
  rw [List.drop_zero] at this
  exact this
theorem wrap_next (i N : Nat) (h : i < N) (hn : N ≤ 100000000) : wrap64 ((i : Int) + 1) = ((i + 1 : Nat) : Int) := by unfold wrap64; omega
theorem nn (n : Nat) : (0 : Int) ≤ (n : Int) := by omega
theorem same_loop (l : List S48) (hl : l.length ≤ 1000000) : ∀ (d k j : Nat), j + d = l.length → d < k → ontimeref05_Same.l0 k l l (j : Int) = some true := by
  intro d
  induction d with
  | zero =>
    intro k j hj hk
    obtain ⟨k, rfl⟩ : ∃ m, k = m + 1 := ⟨k - 1, by omega⟩
    simp only [ontimeref05_Same.l0]
    rw [if_neg (by omega)]
  | succ d ih =>
    intro k j hj hk
    obtain ⟨k, rfl⟩ : ∃ m, k = m + 1 := ⟨k - 1, by omega⟩
    simp only [ontimeref05_Same.l0, beq_self_eq_true, Bool.not_true, Bool.or_self]
    rw [if_pos (by omega), if_pos (by omega), if_pos (by omega), if_neg (by simp), wrap_next j l.length (by omega) (by omega)]
    exact ih k (j + 1) (by omega) (by omega)
theorem same_self (l : List S48) (hl : l.length ≤ 1000000) (k : Nat) (hk : l.length < k) : ontimeref05_Same.f k l l = some true := by
  unfold ontimeref05_Same.f
  rw [if_pos rfl]
  exact same_loop l hl l.length k 0 (by omega) hk
theorem all_good {l : List S48} (hok : ∀ i ∈ l, opOk i = true) (hv : l.all validB = true) : ∀ i ∈ l, 0 ≤ i.f0 ∧ validB i = true := fun i hi => by
  have h1 := hok i hi
  have h2 := List.all_eq_true.1 hv i hi
  simp only [opOk, Bool.and_eq_true, decide_eq_true_eq] at h1
  exact ⟨h1.1, h2⟩
theorem lt_int (i n : Nat) (h : i < n) : (i : Int) < (n : Int) := by omega
def shapesOk : Bool := (List.range 30).all fun n => (nums8 (rowOf (n : Int)).f1 == [97, 98, 99] || nums8 (rowOf (n : Int)).f1 == [97, 98, 105] || nums8 (rowOf (n : Int)).f1 == [97, 105] || nums8 (rowOf (n : Int)).f1 == [105] || nums8 (rowOf (n : Int)).f1 == []) && (decide (-131072 ≤ (rowOf (n : Int)).f2) && decide ((rowOf (n : Int)).f3 ≤ 131071))
theorem shapesOk_all : shapesOk = true := by kernel_rfl
theorem row_shape (op : Int) (h0 : 0 ≤ op) (h1 : op < 30) : (nums8 (rowOf op).f1 = [97, 98, 99] ∨ nums8 (rowOf op).f1 = [97, 98, 105] ∨ nums8 (rowOf op).f1 = [97, 105] ∨ nums8 (rowOf op).f1 = [105] ∨ nums8 (rowOf op).f1 = []) ∧ -131072 ≤ (rowOf op).f2 ∧ (rowOf op).f3 ≤ 131071 := by
  have h := List.all_eq_true.1 shapesOk_all op.toNat (by simp; omega)
  rw [show ((op.toNat : Nat) : Int) = op by omega] at h
  simp only [Bool.and_eq_true, Bool.or_eq_true, beq_iff_eq, decide_eq_true_eq] at h
  refine ⟨?_, h.2.1, h.2.2⟩
  rcases h.1 with (((h | h) | h) | h) | h <;> simp [h]
theorem ok_reg {r : S76} {c x : Int} (h : okF r c x = true) (hc : c ≠ 105) (hm : hasB r.f1 c = true) : 0 ≤ x ∧ x ≤ 15 := by
  unfold okF at h
  rw [if_pos hm, if_neg hc] at h
  simpa using h
theorem ok_imm {r : S76} {x : Int} (h : okF r 105 x = true) (hm : hasB r.f1 105 = true) : r.f2 ≤ x ∧ x ≤ r.f3 := by
  unfold okF at h
  rw [if_pos hm, if_pos rfl] at h
  simpa using h
theorem ok_zero {r : S76} {c x : Int} (h : okF r c x = true) (hm : hasB r.f1 c = false) : x = 0 := by
  unfold okF at h
  rw [hm, if_neg (by decide)] at h
  simpa using h
theorem wraps_u32 (n : Int) (h0 : 0 ≤ n) (h1 : n < 2 ^ 32) : IntKind.u32.wrap n = n := by rw [IntKind.wrap_u32]; omega
theorem or_u32 (i : Nat) (x y : Int) (hx0 : 0 ≤ x) (hx : x % 2 ^ i = 0) (hx1 : x < 2 ^ 32) (hy0 : 0 ≤ y) (hy : y < 2 ^ i) (hy1 : y < 2 ^ 32) : bits .or .u32 x y = x + y :=
  bits_join .u32 32 (by decide) wraps_u32 i x y hx0 hx hx1 hy0 hy hy1
theorem and_u32 (i : Nat) (hi : i ≤ 32) (x : Int) (h0 : 0 ≤ x) (h1 : x < 2 ^ 32) : bits .and .u32 x (2 ^ i - 1) = x % 2 ^ i :=
  bits_mask .u32 32 (by decide) wraps_u32 i hi x h0 h1
theorem p22 : (2 : Int) ^ (posF 97).toNat = 4194304 := by decide
theorem p18 : (2 : Int) ^ (posF 98).toNat = 262144 := by decide
theorem p14 : (2 : Int) ^ (posF 99).toNat = 16384 := by decide
theorem p00 : (2 : Int) ^ (posF 105).toNat = 1 := by decide
theorem enc97 (i : S48) (u : Int) (h : 0 ≤ i.f1 ∧ i.f1 ≤ 15) (hu0 : 0 ≤ u) (hu : u % 67108864 = 0) (hu1 : u < 4294967296) : encStep i u 97 = u + i.f1 * 4194304 := by
  have e : encStep i u 97 = bits .or .u32 u (i.f1 % 4294967296 * 4194304 % 4294967296) := by unfold encStep; rw [if_neg (by decide), p22]; rfl
  rw [e, or_u32 26 u _ hu0 hu hu1 (by omega) (by omega) (by omega)]
  omega
theorem enc98 (i : S48) (u : Int) (h : 0 ≤ i.f2 ∧ i.f2 ≤ 15) (hu0 : 0 ≤ u) (hu : u % 4194304 = 0) (hu1 : u < 4294967296) : encStep i u 98 = u + i.f2 * 262144 := by
  have e : encStep i u 98 = bits .or .u32 u (i.f2 % 4294967296 * 262144 % 4294967296) := by unfold encStep; rw [if_neg (by decide), p18]; rfl
  rw [e, or_u32 22 u _ hu0 hu hu1 (by omega) (by omega) (by omega)]
  omega
theorem enc99 (i : S48) (u : Int) (h : 0 ≤ i.f3 ∧ i.f3 ≤ 15) (hu0 : 0 ≤ u) (hu : u % 262144 = 0) (hu1 : u < 4294967296) : encStep i u 99 = u + i.f3 * 16384 := by
  have e : encStep i u 99 = bits .or .u32 u (i.f3 % 4294967296 * 16384 % 4294967296) := by unfold encStep; rw [if_neg (by decide), p14]; rfl
  rw [e, or_u32 18 u _ hu0 hu hu1 (by omega) (by omega) (by omega)]
  omega
theorem enc105 (i : S48) (u : Int) (hu0 : 0 ≤ u) (hu : u % 262144 = 0) (hu1 : u < 4294967296) : encStep i u 105 = u + i.f4 % 262144 := by
  have e : encStep i u 105 = bits .or .u32 u (bits .and .u32 (i.f4 % 4294967296) 262143 * 1 % 4294967296) := by unfold encStep; rw [if_pos rfl, p00]; rfl
  have e2 : bits .and .u32 (i.f4 % 4294967296) 262143 = i.f4 % 4294967296 % 262144 := and_u32 18 (by decide) (i.f4 % 4294967296) (by omega) (by omega)
  rw [e, e2, or_u32 18 u _ hu0 hu hu1 (by omega) (by omega) (by omega)]
  omega
theorem wrap_id (n : Int) (h0 : 0 ≤ n) (h1 : n ≤ 4294967296) : wrap64 n = n := by unfold wrap64; omega
theorem and15 (x : Int) (h0 : 0 ≤ x) (h1 : x < 4294967296) : bits .and .u32 x 15 = x % 16 := and_u32 4 (by decide) x h0 h1
theorem dec97 (x : Int) (i : S48) (h0 : 0 ≤ x) (h1 : x < 4294967296) : decStep x i 97 = ⟨i.f0, x / 4194304 % 16, i.f2, i.f3, i.f4⟩ := by
  have e : decStep x i 97 = setF i 97 (wrap64 (bits .and .u32 (x / 4194304) 15)) := by unfold decStep; rw [if_neg (by decide), p22]
  rw [e, and15 _ (by omega) (by omega), wrap_id _ (by omega) (by omega)]
  simp [setF]
theorem dec98 (x : Int) (i : S48) (h0 : 0 ≤ x) (h1 : x < 4294967296) : decStep x i 98 = ⟨i.f0, i.f1, x / 262144 % 16, i.f3, i.f4⟩ := by
  have e : decStep x i 98 = setF i 98 (wrap64 (bits .and .u32 (x / 262144) 15)) := by unfold decStep; rw [if_neg (by decide), p18]
  rw [e, and15 _ (by omega) (by omega), wrap_id _ (by omega) (by omega)]
  simp [setF]
theorem dec99 (x : Int) (i : S48) (h0 : 0 ≤ x) (h1 : x < 4294967296) : decStep x i 99 = ⟨i.f0, i.f1, i.f2, x / 16384 % 16, i.f4⟩ := by
  have e : decStep x i 99 = setF i 99 (wrap64 (bits .and .u32 (x / 16384) 15)) := by unfold decStep; rw [if_neg (by decide), p14]
  rw [e, and15 _ (by omega) (by omega), wrap_id _ (by omega) (by omega)]
  simp [setF]
theorem imm_back (x v : Int) (hv : x % 262144 = v % 262144) (h0 : -131072 ≤ v) (h1 : v ≤ 131071) : wrap64 (wrap32 (x * 16384 % 4294967296) / 16384) = v := by
  have e : x * 16384 % 4294967296 = (v % 262144) * 16384 := by omega
  rw [e]
  unfold wrap32
  have e2 : ((v % 262144) * 16384 + 2147483648) % 4294967296 - 2147483648 = v * 16384 := by omega
  rw [e2, show v * 16384 / 16384 = v by omega]
  unfold wrap64
  omega
theorem dec105 (x v : Int) (i : S48) (hv : x % 262144 = v % 262144) (h0 : -131072 ≤ v) (h1 : v ≤ 131071) : decStep x i 105 = ⟨i.f0, i.f1, i.f2, i.f3, v⟩ := by
  have e : decStep x i 105 = setF i 105 (wrap64 (wrap32 (x * 16384 % 4294967296) / 16384)) := by unfold decStep; rw [if_pos rfl]
  rw [e, imm_back x v hv h0 h1]
  simp [setF]
/-- A valid instruction's word is decoded as that instruction. -/
theorem enc_dec (i : S48) (h0 : 0 ≤ i.f0) (hv : validB i = true) : ∃ x : Int, encF i = (x, 0) ∧ 0 ≤ x ∧ x < 4294967296 ∧ decF x = (i, 0) := by
  obtain ⟨h1, v1, v2, v3, v4⟩ := valid_parts i hv
  obtain ⟨hs, hlo, hhi⟩ := row_shape i.f0 h0 h1
  have he : encF i = (encW i (i.f0 * 67108864) (nums8 (rowOf i.f0).f1), 0) := by unfold encF; rw [if_pos hv]
  have hd : ∀ x : Int, x / 67108864 = i.f0 → decW x ⟨i.f0, 0, 0, 0, 0⟩ (nums8 (rowOf i.f0).f1) = i → encF i = (x, 0) → decF x = (i, 0) := by
    intro x hx hw hex
    unfold decF
    rw [hx, if_pos h1, hw, hex, if_pos ⟨rfl, rfl⟩]
  have hb : ∀ c, hasB (rowOf i.f0).f1 c = (nums8 (rowOf i.f0).f1).contains c := fun c => rfl
  have q1 := fun h => ok_reg v1 (by decide) ((hb 97).trans h)
  have q2 := fun h => ok_reg v2 (by decide) ((hb 98).trans h)
  have q3 := fun h => ok_reg v3 (by decide) ((hb 99).trans h)
  have q4 := fun h => ok_imm v4 ((hb 105).trans h)
  have z1 := fun h => ok_zero v1 ((hb 97).trans h)
  have z2 := fun h => ok_zero v2 ((hb 98).trans h)
  have z3 := fun h => ok_zero v3 ((hb 99).trans h)
  have z4 := fun h => ok_zero v4 ((hb 105).trans h)
  clear v1 v2 v3 v4 hb
  generalize (rowOf i.f0).f2 = lo at *
  generalize (rowOf i.f0).f3 = hi at *
  generalize nums8 (rowOf i.f0).f1 = ops at *
  have hi5 : i = ⟨i.f0, i.f1, i.f2, i.f3, i.f4⟩ := rfl
  rcases hs with rfl | rfl | rfl | rfl | rfl
  · have a := q1 rfl
    have b := q2 rfl
    have c := q3 rfl
    have d := z4 rfl
    have e : encW i (i.f0 * 67108864) [97, 98, 99] = i.f0 * 67108864 + i.f1 * 4194304 + i.f2 * 262144 + i.f3 * 16384 := by
      show encStep i (encStep i (encStep i _ 97) 98) 99 = _
      rw [enc97 i _ a (by omega) (by omega) (by omega), enc98 i _ b (by omega) (by omega) (by omega), enc99 i _ c (by omega) (by omega) (by omega)]
    rw [e] at he
    refine ⟨_, he, by omega, by omega, hd _ (by omega) ?_ he⟩
    show decStep _ (decStep _ (decStep _ _ 97) 98) 99 = _
    rw [dec97 _ _ (by omega) (by omega), dec98 _ _ (by omega) (by omega), dec99 _ _ (by omega) (by omega), hi5, d]
    simp only [S48.mk.injEq, true_and, and_true]
    omega
  · have a := q1 rfl
    have b := q2 rfl
    have c := z3 rfl
    have d := q4 rfl
    have e : encW i (i.f0 * 67108864) [97, 98, 105] = i.f0 * 67108864 + i.f1 * 4194304 + i.f2 * 262144 + i.f4 % 262144 := by
      show encStep i (encStep i (encStep i _ 97) 98) 105 = _
      rw [enc97 i _ a (by omega) (by omega) (by omega), enc98 i _ b (by omega) (by omega) (by omega), enc105 i _ (by omega) (by omega) (by omega)]
    rw [e] at he
    refine ⟨_, he, by omega, by omega, hd _ (by omega) ?_ he⟩
    show decStep _ (decStep _ (decStep _ _ 97) 98) 105 = _
    rw [dec97 _ _ (by omega) (by omega), dec98 _ _ (by omega) (by omega), dec105 _ i.f4 _ (by omega) (by omega) (by omega), hi5, c]
    simp only [S48.mk.injEq, true_and, and_true]
    omega
  · have a := q1 rfl
    have b := z2 rfl
    have c := z3 rfl
    have d := q4 rfl
    have e : encW i (i.f0 * 67108864) [97, 105] = i.f0 * 67108864 + i.f1 * 4194304 + i.f4 % 262144 := by
      show encStep i (encStep i _ 97) 105 = _
      rw [enc97 i _ a (by omega) (by omega) (by omega), enc105 i _ (by omega) (by omega) (by omega)]
    rw [e] at he
    refine ⟨_, he, by omega, by omega, hd _ (by omega) ?_ he⟩
    show decStep _ (decStep _ _ 97) 105 = _
    rw [dec97 _ _ (by omega) (by omega), dec105 _ i.f4 _ (by omega) (by omega) (by omega), hi5, b, c]
    simp only [S48.mk.injEq, true_and, and_true]
    omega
  · have a := z1 rfl
    have b := z2 rfl
    have c := z3 rfl
    have d := q4 rfl
    have e : encW i (i.f0 * 67108864) [105] = i.f0 * 67108864 + i.f4 % 262144 := by
      show encStep i _ 105 = _
      rw [enc105 i _ (by omega) (by omega) (by omega)]
    rw [e] at he
    refine ⟨_, he, by omega, by omega, hd _ (by omega) ?_ he⟩
    show decStep _ _ 105 = _
    rw [dec105 _ i.f4 _ (by omega) (by omega) (by omega), hi5, a, b, c]
  · have a := z1 rfl
    have b := z2 rfl
    have c := z3 rfl
    have d := z4 rfl
    have e : encW i (i.f0 * 67108864) [] = i.f0 * 67108864 := rfl
    rw [e] at he
    refine ⟨_, he, by omega, by omega, hd _ (by omega) ?_ he⟩
    show (⟨i.f0, 0, 0, 0, 0⟩ : S48) = i
    rw [hi5, a, b, c, d]
theorem check_at (l : List S48) (hok : ∀ i ∈ l, opOk i = true) (k : Nat) (hk : l.length < k) : asm_check.f k l = some (if 4096 < l.length then 5 else if l.all validB = true then 0 else 3) := by
  unfold asm_check.f
  by_cases h : l.length ≤ 4096
  · rw [if_neg (by omega), if_neg (by omega)]
    have := check_loop l hok h l.length k 0 (by omega) hk
    rw [List.drop_zero] at this
    exact this
  · rw [if_pos (by omega), if_pos (by omega)]
theorem enc_at (i : S48) (h : opOk i = true) : isa_Encode.f i.f0 i.f1 i.f2 i.f3 i.f4 = some (encF i) := by
  simp only [opOk, Bool.and_eq_true, decide_eq_true_eq] at h
  unfold isa_Encode.f
  rw [if_pos ⟨h.1, by omega⟩]
theorem dec_at (x : Int) (h0 : 0 ≤ x) (h1 : x < 4294967296) : isa_Decode.f x = some ((decF x).1.f0, (decF x).1.f1, (decF x).1.f2, (decF x).1.f3, (decF x).1.f4, (decF x).2) := by
  unfold isa_Decode.f
  rw [if_pos ⟨h0, h1⟩]
theorem rdI_at (c : List Int) (j : Nat) (h : j < c.length) : rd c (j : Int) = c[j] := by
  simp [rd, List.getD, List.getElem?_eq_getElem h]
theorem take_map_succ {α β : Type} (f : α → β) (l : List α) (j : Nat) (h : j < l.length) : (l.take j).map f ++ [f l[j]] = (l.take (j + 1)).map f := by
  rw [List.take_succ_eq_append_getElem h, List.map_append]
  rfl
def encs (l : List S48) : List Int := l.map fun i => (encF i).1
def decs (c : List Int) : List S48 := c.map fun x => (decF x).1
theorem len_big (n m : Nat) (h : n ≤ m) (hm : m ≤ 100000) : n < 35184372088832 ∧ n < 3518437208883 := by omega
theorem asm_loop (l : List S48) (hok : ∀ i ∈ l, opOk i = true) (hl : l.length ≤ 100000) : ∀ (d k j : Nat), j + d = l.length → d < k →
    asm_Assemble.l0 k ((l.take j).map fun i => (encF i).1) l (l.length : Int) (j : Int) = some (encs l, 0) := by
  intro d
  induction d with
  | zero =>
    intro k j hj hk
    obtain ⟨k, rfl⟩ : ∃ m, k = m + 1 := ⟨k - 1, by omega⟩
    rw [asm_Assemble.l0, if_neg (by omega), List.take_of_length_le (by omega)]
    rfl
  | succ d ih =>
    intro k j hj hk
    obtain ⟨k, rfl⟩ : ∃ m, k = m + 1 := ⟨k - 1, by omega⟩
    have hlt : j < l.length := by omega
    have hlen : ((l.take j).map fun i => (encF i).1).length < 35184372088832 := by
      rw [List.length_map, List.length_take]
      omega
    rw [asm_Assemble.l0, if_pos (lt_int j _ hlt), if_pos (nn j), if_pos (lt_int j _ hlt), rd_T48_at l j hlt, enc_at _ (hok _ (List.getElem_mem hlt)), Option.bind_some, if_pos hlen, wrap_next j l.length hlt (by omega),
      take_map_succ (fun i => (encF i).1) l j hlt]
    exact ih k (j + 1) (by omega) (by omega)
theorem assemble_good (l : List S48) (hok : ∀ i ∈ l, opOk i = true) (hl : l.length ≤ 4096) (hv : l.all validB = true) (k : Nat) (hk : l.length < k) : asm_Assemble.f k l = some (encs l, 0) := by
  unfold asm_Assemble.f
  rw [check_at l hok k hk, if_neg (by omega), if_pos hv, Option.bind_some, if_pos rfl]
  exact asm_loop l hok (by omega) l.length k 0 (by omega) hk
theorem assemble_bad (l : List S48) (hok : ∀ i ∈ l, opOk i = true) (hl : l.length ≤ 4096) (hv : ¬ l.all validB = true) (k : Nat) (hk : l.length < k) : asm_Assemble.f k l = some ([], 3) := by
  unfold asm_Assemble.f
  rw [check_at l hok k hk, if_neg (by omega), if_neg hv, Option.bind_some, if_neg (by decide)]
theorem dis_step (c : List Int) (hc : ∀ x ∈ c, 0 ≤ x ∧ x < 4294967296) (hl : c.length ≤ 100000) (k j : Nat) (hlt : j < c.length) (out : List S48) (ho : out.length ≤ 100000) :
    asm_Disassemble.l0 (k + 1) out c (c.length : Int) (j : Int) = if (decF c[j]).2 = 0 then asm_Disassemble.l0 k (out ++ [(decF c[j]).1]) c (c.length : Int) ((j + 1 : Nat) : Int) else some ([], (j : Int), 3) := by
  have hx := hc _ (List.getElem_mem hlt)
  have h2 := (len_big _ _ ho (Nat.le_refl _)).2
  rw [asm_Disassemble.l0, if_pos (lt_int j _ hlt), if_pos (nn j), if_pos (lt_int j _ hlt), rdI_at c j hlt, dec_at _ hx.1 hx.2, Option.bind_some, if_pos h2, wrap_next j c.length hlt (by omega)]
theorem dis_loop (c : List Int) (hc : ∀ x ∈ c, 0 ≤ x ∧ x < 4294967296) (hl : c.length ≤ 100000) (m : Nat) (hm : m ≤ c.length) (hg : ∀ (j : Nat) (h : j < c.length), j < m → (decF c[j]).2 = 0) (r : List S48 × Int × Int) (K : Nat)
    (hr : ∀ k, K ≤ k → asm_Disassemble.l0 k ((c.take m).map fun x => (decF x).1) c (c.length : Int) (m : Int) = some r) : ∀ (d k j : Nat), j + d = m → K + d ≤ k →
    asm_Disassemble.l0 k ((c.take j).map fun x => (decF x).1) c (c.length : Int) (j : Int) = some r := by
  intro d
  induction d with
  | zero =>
    intro k j hj hk
    have : j = m := by omega
    subst this
    exact hr k (by omega)
  | succ d ih =>
    intro k j hj hk
    obtain ⟨k, rfl⟩ : ∃ m, k = m + 1 := ⟨k - 1, by omega⟩
    have hlt : j < c.length := by omega
    rw [dis_step c hc hl k j hlt _ (by rw [List.length_map, List.length_take]; omega), if_pos (hg j hlt (by omega)), take_map_succ (fun x => (decF x).1) c j hlt]
    exact ih k (j + 1) (by omega) (by omega)
theorem dis_good (c : List Int) (hc : ∀ x ∈ c, 0 ≤ x ∧ x < 4294967296) (hl : c.length ≤ 4096) (hg : ∀ x ∈ c, (decF x).2 = 0) (k : Nat) (hk : c.length < k) : asm_Disassemble.f k c = some (decs c, 0, 0) := by
  unfold asm_Disassemble.f
  rw [if_neg (by omega)]
  refine dis_loop c hc (by omega) c.length (Nat.le_refl _) (fun j h _ => hg _ (List.getElem_mem h)) _ 1 ?_ c.length k 0 (by omega) (by omega)
  intro k hk
  obtain ⟨k, rfl⟩ : ∃ m, k = m + 1 := ⟨k - 1, by omega⟩
  rw [asm_Disassemble.l0, if_neg (by omega), List.take_of_length_le (by omega)]
  rfl
theorem encs_ok (l : List S48) (hg : ∀ i ∈ l, 0 ≤ i.f0 ∧ validB i = true) : (∀ x ∈ encs l, 0 ≤ x ∧ x < 4294967296) ∧ (∀ x ∈ encs l, (decF x).2 = 0) ∧ decs (encs l) = l := by
  have key : ∀ i ∈ l, 0 ≤ (encF i).1 ∧ (encF i).1 < 4294967296 ∧ decF (encF i).1 = (i, 0) := by
    intro i hi
    obtain ⟨x, h1, h2, h3, h4⟩ := enc_dec i (hg i hi).1 (hg i hi).2
    rw [h1]
    exact ⟨h2, h3, h4⟩
  refine ⟨fun x hx => ?_, fun x hx => ?_, ?_⟩
  · obtain ⟨i, hi, rfl⟩ := List.mem_map.1 hx
    exact ⟨(key i hi).1, (key i hi).2.1⟩
  · obtain ⟨i, hi, rfl⟩ := List.mem_map.1 hx
    rw [(key i hi).2.2]
  · unfold decs encs
    rw [List.map_map]
    have : ∀ i ∈ l, ((fun x => (decF x).1) ∘ fun i => (encF i).1) i = id i := fun i hi => by
      show (decF (encF i).1).1 = i
      rw [(key i hi).2.2]
    rw [List.map_congr_left this, List.map_id]
theorem words_law_loop (l : List S48) (hok : ∀ i ∈ l, opOk i = true) (hg : ∀ i ∈ l, 0 ≤ i.f0 ∧ validB i = true) (hl : l.length ≤ 4096) (K : Nat) (hK : 5000 ≤ K) : ∀ (d k j : Nat), j + d = l.length → K + d + 1 ≤ k →
    ontimelaw05_AsmWords.l0 k l (encs l) (j : Int) = some true := by
  have hel : (encs l).length = l.length := List.length_map _
  obtain ⟨e1, e2, e3⟩ := encs_ok l hg
  intro d
  induction d with
  | zero =>
    intro k j hj hk
    obtain ⟨k, rfl⟩ : ∃ m, k = m + 1 := ⟨k - 1, by omega⟩
    rw [ontimelaw05_AsmWords.l0, if_neg (by omega), dis_good (encs l) e1 (by omega) e2 k (by omega), Option.bind_some, if_pos rfl, if_pos rfl, e3, same_self l (by omega) k (by omega), Option.bind_some]
  | succ d ih =>
    intro k j hj hk
    obtain ⟨k, rfl⟩ : ∃ m, k = m + 1 := ⟨k - 1, by omega⟩
    have hlt : j < l.length := by omega
    obtain ⟨x, h1, h2, h3, h4⟩ := enc_dec l[j] (hg _ (List.getElem_mem hlt)).1 (hg _ (List.getElem_mem hlt)).2
    have hrd : rd (encs l) (j : Int) = x := by
      rw [rdI_at (encs l) j (by omega)]
      unfold encs
      rw [List.getElem_map, h1]
    rw [ontimelaw05_AsmWords.l0, if_pos (lt_int j _ hlt), if_pos (nn j), rd_T48_at l j hlt, enc_at _ (hok _ (List.getElem_mem hlt)), h1, Option.bind_some, if_pos rfl, hrd, if_pos (lt_int j _ (by omega)), if_pos rfl, wrap_next j l.length hlt (by omega)]
    exact ih k (j + 1) (by omega) (by omega)
theorem AsmWords_pure (l : List S48) (hok : ∀ i ∈ l, opOk i = true) : ∃ k, ontimelaw05_AsmWords.f k l = some true := by
  obtain ⟨K, hK⟩ : ∃ K : Nat, 10000 ≤ K := ⟨10000, Nat.le_refl _⟩
  refine ⟨K + 1, ?_⟩
  unfold ontimelaw05_AsmWords.f
  rw [awake_eval, Option.bind_some, if_pos rfl]
  by_cases hl : (l.length : Int) > 40
  · rw [if_pos hl]
  · rw [if_neg hl]
    by_cases hv : l.all validB = true
    · have hel : (encs l).length = l.length := List.length_map _
      rw [assemble_good l hok (by omega) hv (K + 1) (by omega), Option.bind_some, valid_eval l (by omega) hok (K + 1) (by omega), Option.bind_some, if_pos hv, if_neg (by decide), if_pos rfl]
      rw [show (((encs l, (0 : Int)).1.length : Int) != (l.length : Int)) = false by simp [hel]]
      rw [ontimelaw05_AsmWords.j0, if_neg (by decide)]
      exact words_law_loop l hok (all_good hok hv) (by omega) 5000 (by omega) l.length K 0 (by omega) (by omega)
    · rw [assemble_bad l hok (by omega) hv (K + 1) (by omega), Option.bind_some, valid_eval l (by omega) hok (K + 1) (by omega), Option.bind_some, if_neg hv, if_pos rfl, if_pos rfl]
      rfl
end Go.Proofs.YtmgafakahbanaaaDoor.Pa
