import Derived.Test.YtmciflmlpnpkaaaDoorH6
import Derived.Test.YtmciflmlpnpkaaaDoorPax4
import Derived.Test.YtmciflmlpnpkaaaDoorN
import Derived.Test.YtmciflmlpnpkaaaDoorPbx0
namespace Go.Proofs.YtmciflmlpnpkaaaDoor.Pa
open Go.RowKit Go.Proofs.YtmciflmlpnpkaaaDoorW.PrintWords Go.Proofs.YtmciflmlpnpkaaaDoorW.PrintLast Go.Proofs.YtmciflmlpnpkaaaDoorW.PrintMore
set_option linter.unusedVariables false
set_option linter.unusedSimpArgs false

/-! ### the reference's decimal text of an int -/
theorem num_last (x3 x4 : ByteArray) (h : x4 ≠ ⟨#[]⟩) (hs : x3.size + x4.size ≤ 9223372036854775807) (k : Nat) : ontimeref51_Number.l0 (k + 2) 0 x3 x4 = some (x3 ++ x4) := by
  have e : (x4.toList == ([] : List UInt8)) = false := by
    rw [beq_eq_false_iff_ne, ByteArray.toList_eq]
    exact fun e => h (ByteArray.ext (Array.toList_inj.1 e))
  rw [ontimeref51_Number.l0, if_pos rfl, e, ontimeref51_Number.j2, if_neg (by simp), if_pos hs]
theorem num_dig (x0 : Int) (hr0 : -9223372036854775808 ≤ x0) (hr1 : x0 ≤ 9223372036854775807) (x3 x4 : ByteArray) (hs : x4.size ≤ 100) (k : Nat) (h : x0 ≠ 0 ∨ x4 = ⟨#[]⟩) :
    ∃ x0' : Int, x0'.natAbs = x0.natAbs / 10 ∧ -9223372036854775808 ≤ x0' ∧ x0' ≤ 9223372036854775807 ∧ ontimeref51_Number.l0 (k + 2) x0 x3 x4 = ontimeref51_Number.l0 k x0' x3 (str [UInt8.ofNat (48 + x0.natAbs % 10)] ++ x4) := by
  have hd : ∀ u : Nat, strOfNums [((48 + u % 10 : Nat) : Int)] = str [UInt8.ofNat (48 + u % 10)] := by
    intro u
    show (⟨#[UInt8.ofNat (((48 + u % 10 : Nat) : Int)).toNat]⟩ : ByteArray) = _
    rw [Int.toNat_natCast]
    rfl
  have hsz : ∀ (y : UInt8), (str [y]).size + x4.size ≤ 9223372036854775807 := fun y => by rw [str_size]; simp; omega
  have hj : ∃ x0' : Int, x0'.natAbs = x0.natAbs / 10 ∧ -9223372036854775808 ≤ x0' ∧ x0' ≤ 9223372036854775807 ∧ ontimeref51_Number.j2 (k + 1) x0 x3 x4 true = ontimeref51_Number.l0 k x0' x3 (str [UInt8.ofNat (48 + x0.natAbs % 10)] ++ x4) := by
    rw [ontimeref51_Number.j2, if_pos rfl]
    by_cases hn : 0 ≤ x0
    · obtain ⟨u, rfl⟩ : ∃ u : Nat, x0 = (u : Int) := ⟨x0.toNat, by omega⟩
      have e1 : Int.tmod (u : Int) 10 = ((u % 10 : Nat) : Int) := by rw [Int.tmod_eq_emod_of_nonneg (by omega)]; omega
      have e3 : wrap64 (Int.tdiv (u : Int) 10) = ((u / 10 : Nat) : Int) := by
        rw [Int.tdiv_eq_ediv_of_nonneg (by omega)]
        unfold wrap64
        omega
      have e2 : wrap64 (48 + ((u % 10 : Nat) : Int)) % 256 = ((48 + u % 10 : Nat) : Int) := by unfold wrap64; omega
      refine ⟨((u / 10 : Nat) : Int), by omega, by omega, by omega, ?_⟩
      rw [e1, if_neg (by omega), e2, e3]
      simp only [Option.bind_some]
      rw [hd, if_pos (hsz _), Int.natAbs_natCast]
    · obtain ⟨u, rfl⟩ : ∃ u : Nat, x0 = -(u : Int) := ⟨x0.natAbs, by omega⟩
      have e1 : Int.tmod (-(u : Int)) 10 = -((u % 10 : Nat) : Int) := by rw [Int.neg_tmod, Int.tmod_eq_emod_of_nonneg (by omega)]; omega
      have e3 : wrap64 (Int.tdiv (-(u : Int)) 10) = -((u / 10 : Nat) : Int) := by
        rw [Int.neg_tdiv, Int.tdiv_eq_ediv_of_nonneg (by omega)]
        unfold wrap64
        omega
      refine ⟨-((u / 10 : Nat) : Int), by omega, by omega, by omega, ?_⟩
      rw [e1, e3, Int.natAbs_neg, Int.natAbs_natCast]
      by_cases h0 : u % 10 = 0
      · have e2 : wrap64 (48 + -((u % 10 : Nat) : Int)) % 256 = ((48 + u % 10 : Nat) : Int) := by unfold wrap64; omega
        rw [if_neg (by omega), e2]
        simp only [Option.bind_some]
        rw [hd, if_pos (hsz _)]
      · have e2 : wrap64 (48 + wrap64 (- -((u % 10 : Nat) : Int))) % 256 = ((48 + u % 10 : Nat) : Int) := by unfold wrap64; omega
        rw [if_pos (by omega), e2]
        simp only [Option.bind_some]
        rw [hd, if_pos (hsz _)]
  obtain ⟨x0', h1, h2, h3, h4⟩ := hj
  refine ⟨x0', h1, h2, h3, ?_⟩
  rw [← h4]
  conv => lhs; unfold ontimeref51_Number.l0
  by_cases h0 : x0 = 0
  · rw [if_pos h0]
    have : x4 = ⟨#[]⟩ := by
      rcases h with h | h
      · exact absurd h0 h
      · exact h
    subst this
    rw [show ((⟨#[]⟩ : ByteArray).toList == ([] : List UInt8)) = true from by rw [ByteArray.toList_eq]; rfl]
  · rw [if_neg h0]
theorem str_cons_ne (b : UInt8) (x : ByteArray) : str [b] ++ x ≠ ⟨#[]⟩ := by
  intro h
  have := congrArg ByteArray.size h
  rw [ByteArray.size_append, str_size, List.length_singleton] at this
  have e : (⟨#[]⟩ : ByteArray).size = 0 := rfl
  omega
theorem decDigits_step (u : Nat) : Lib.decDigits u = (if u / 10 = 0 then [] else Lib.decDigits (u / 10)) ++ [UInt8.ofNat (48 + u % 10)] := by
  by_cases h : u < 10
  · rw [if_pos (by omega), Lib.decDigits, dif_pos h, List.nil_append, Nat.mod_eq_of_lt h]
  · rw [if_neg (by omega)]
    conv => lhs; rw [Lib.decDigits, dif_neg h]
theorem num_loop : ∀ (n : Nat) (x0 : Int), x0.natAbs < 10 ^ n → -9223372036854775808 ≤ x0 → x0 ≤ 9223372036854775807 → ∀ (x3 x4 : ByteArray), x3.size ≤ 100 → x4.size + n ≤ 100 → x4 ≠ ⟨#[]⟩ → ontimeref51_Number.l0 (2 * n + 2) x0 x3 x4 = some (x3 ++ (str (if x0.natAbs = 0 then [] else Lib.decDigits x0.natAbs) ++ x4))
  | 0, x0, hu, _, _, x3, x4, h3, h4, hne => by
    have : x0 = 0 := by simp at hu; exact hu
    subst this
    rw [num_last x3 x4 hne (by omega) 0]
    congr 2
  | n + 1, x0, hu, hr0, hr1, x3, x4, h3, h4, hne => by
    by_cases h0 : x0 = 0
    · subst h0
      rw [show 2 * (n + 1) + 2 = (2 * n + 2) + 2 by omega, num_last x3 x4 hne (by omega) _]
      congr 2
    · obtain ⟨x0', h1, h2, h5, h6⟩ := num_dig x0 hr0 hr1 x3 x4 (by omega) (2 * n + 2) (.inl h0)
      rw [show 2 * (n + 1) + 2 = (2 * n + 2) + 2 by omega, h6, num_loop n x0' (by rw [h1]; rw [Nat.pow_succ] at hu; omega) h2 h5 x3 _ h3 (by rw [ByteArray.size_append, str_size]; simp; omega) (str_cons_ne _ _), h1, if_neg (show ¬ x0.natAbs = 0 by omega), decDigits_step x0.natAbs, ← str_append]
      simp only [ByteArray.append_assoc]
theorem number_eval (n : Int) (h0 : -9223372036854775808 ≤ n) (h1 : n ≤ 9223372036854775807) : ontimeref51_Number.f 47 n = some (str (Lib.itoa n)) := by
  have hj : ∀ x3 : ByteArray, x3.size ≤ 100 → ontimeref51_Number.j0 47 n x3 = some (x3 ++ str (Lib.decDigits n.natAbs)) := by
    intro x3 h3
    obtain ⟨x0', h4, h5, h6, h7⟩ := num_dig n h0 h1 x3 ⟨#[]⟩ (by show 0 ≤ 100; omega) 44 (.inr rfl)
    show ontimeref51_Number.l0 46 n x3 ⟨#[]⟩ = _
    rw [h7, num_loop 21 x0' (by rw [h4]; omega) h5 h6 x3 _ h3 (by rw [ByteArray.size_append, str_size]; show 1 + 0 + 21 ≤ 100; omega) (str_cons_ne _ _), h4, decDigits_step n.natAbs, ← str_append]
    congr 3
  unfold ontimeref51_Number.f Lib.itoa
  by_cases hn : n < 0
  · rw [if_pos hn, if_pos hn, hj _ (by show 1 ≤ 100; omega)]
    rw [show (⟨#[45]⟩ : ByteArray) = str [45] from rfl, str_append]
    rfl
  · rw [if_neg hn, if_neg hn, hj _ (by show 0 ≤ 100; omega), show n.natAbs = n.toNat by omega]
    congr 1
end Go.Proofs.YtmciflmlpnpkaaaDoor.Pa

namespace Go.Proofs.YtmciflmlpnpkaaaDoor.Pa
open Go.RowKit Go.Proofs.YtmciflmlpnpkaaaDoorW.PrintWords Go.Proofs.YtmciflmlpnpkaaaDoorW.PrintLast Go.Proofs.YtmciflmlpnpkaaaDoorW.PrintMore
set_option linter.unusedVariables false
set_option linter.unusedSimpArgs false

/-! ### lines -/
def cut10 : List UInt8 → Option (List UInt8 × List UInt8)
  | [] => none
  | b :: l => if b = 10 then some ([], l) else (cut10 l).map fun p => (b :: p.1, p.2)
theorem cut10_some : ∀ {l a r : List UInt8}, cut10 l = some (a, r) → l = a ++ 10 :: r ∧ (10 : UInt8) ∉ a
  | [], a, r, h => by simp [cut10] at h
  | b :: l, a, r, h => by
    rw [cut10] at h
    by_cases h1 : b = 10
    · rw [if_pos h1] at h
      simp only [Option.some.injEq, Prod.mk.injEq] at h
      obtain ⟨rfl, rfl⟩ := h
      simp [h1]
    · rw [if_neg h1] at h
      cases hc : cut10 l with
      | none => rw [hc] at h; simp at h
      | some p =>
        rw [hc] at h
        simp only [Option.map_some, Option.some.injEq, Prod.mk.injEq] at h
        obtain ⟨rfl, rfl⟩ := h
        obtain ⟨h2, h3⟩ := cut10_some (a := p.1) (r := p.2) hc
        refine ⟨by rw [List.cons_append, ← h2], ?_⟩
        simp [h3, Ne.symm h1]
theorem cut10_app : ∀ (a r : List UInt8), (10 : UInt8) ∉ a → cut10 (a ++ 10 :: r) = some (a, r)
  | [], r, _ => by simp [cut10]
  | b :: a, r, h => by
    have h1 : ¬ b = 10 := fun e => h (by simp [e])
    rw [List.cons_append, cut10, if_neg h1, cut10_app a r (fun hh => h (List.mem_cons_of_mem _ hh))]
    rfl
theorem cut10_none : ∀ {l : List UInt8}, cut10 l = none → (10 : UInt8) ∉ l
  | [], _ => by simp
  | b :: l, h => by
    rw [cut10] at h
    by_cases h1 : b = 10
    · rw [if_pos h1] at h; cases h
    · rw [if_neg h1, Option.map_eq_none_iff] at h
      simp [cut10_none h, Ne.symm h1]
theorem cut10_not : ∀ (l : List UInt8), (10 : UInt8) ∉ l → cut10 l = none := by
  intro l h
  cases hc : cut10 l with
  | none => rfl
  | some p => exact absurd (by rw [(cut10_some (a := p.1) (r := p.2) hc).1]; simp) h
def takeL : Nat → List UInt8 → Option (List UInt8 × List UInt8)
  | 0, l => some ([], l)
  | n + 1, l => match cut10 l with
    | none => none
    | some (a, r) => (takeL n r).map fun p => (a ++ 10 :: p.1, p.2)
/-- What takeL takes: n whole lines. -/
theorem takeL_some : ∀ {n : Nat} {l t r : List UInt8}, takeL n l = some (t, r) → l = t ++ r ∧ t.count 10 = n ∧ ∀ r', takeL n (t ++ r') = some (t, r')
  | 0, l, t, r, h => by
    simp only [takeL, Option.some.injEq, Prod.mk.injEq] at h
    obtain ⟨rfl, rfl⟩ := h
    exact ⟨rfl, rfl, fun r' => rfl⟩
  | n + 1, l, t, r, h => by
    rw [takeL] at h
    cases hc : cut10 l with
    | none => rw [hc] at h; cases h
    | some p =>
      obtain ⟨a, r1⟩ := p
      rw [hc] at h
      simp only at h
      cases ht : takeL n r1 with
      | none => rw [ht] at h; cases h
      | some q =>
        obtain ⟨t1, r2⟩ := q
        rw [ht] at h
        simp only [Option.map_some, Option.some.injEq, Prod.mk.injEq] at h
        obtain ⟨rfl, rfl⟩ := h
        obtain ⟨h1, h2⟩ := cut10_some hc
        obtain ⟨h3, h4, h5⟩ := takeL_some ht
        refine ⟨by rw [h1, h3]; simp, ?_, ?_⟩
        · rw [List.count_append, List.count_cons_self, h4, List.count_eq_zero.2 h2]
          omega
        · intro r'
          rw [takeL, List.append_assoc, List.cons_append, cut10_app _ _ h2]
          simp only
          rw [h5 r']
          rfl
theorem takeL_count : ∀ {n : Nat} {l : List UInt8}, takeL n l = none → l.count 10 < n
  | 0, l, h => by simp [takeL] at h
  | n + 1, l, h => by
    rw [takeL] at h
    cases hc : cut10 l with
    | none =>
      rw [List.count_eq_zero.2 (cut10_none hc)]
      omega
    | some p =>
      obtain ⟨a, r1⟩ := p
      rw [hc] at h
      simp only at h
      cases ht : takeL n r1 with
      | some q => rw [ht] at h; cases h
      | none =>
        have := takeL_count ht
        rw [(cut10_some hc).1, List.count_append, List.count_cons_self, List.count_eq_zero.2 (cut10_some hc).2]
        omega
theorem takeL_add : ∀ {n m : Nat} {l t r t2 r2 : List UInt8}, takeL n l = some (t, r) → takeL m r = some (t2, r2) → takeL (n + m) l = some (t ++ t2, r2)
  | 0, m, l, t, r, t2, r2, h, h2 => by
    simp only [takeL, Option.some.injEq, Prod.mk.injEq] at h
    obtain ⟨rfl, rfl⟩ := h
    rw [Nat.zero_add]
    exact h2
  | n + 1, m, l, t, r, t2, r2, h, h2 => by
    rw [takeL] at h
    rw [show n + 1 + m = (n + m) + 1 by omega, takeL]
    cases hc : cut10 l with
    | none => rw [hc] at h; cases h
    | some p =>
      obtain ⟨a, r1⟩ := p
      rw [hc] at h
      simp only at h ⊢
      cases ht : takeL n r1 with
      | none => rw [ht] at h; cases h
      | some q =>
        obtain ⟨t1, r3⟩ := q
        rw [ht] at h
        simp only [Option.map_some, Option.some.injEq, Prod.mk.injEq] at h
        obtain ⟨rfl, rfl⟩ := h
        rw [takeL_add ht h2]
        simp

/-! ### one command -/
inductive OneR where
  | ok (c : S31) (n : Nat) (rest : List UInt8)
  | err (e : Int)
def oneH (h : HeadR) (r : List UInt8) : OneR :=
  if h.ok = true then (match takeL h.lines.toNat r with
    | none => .err 4
    | some (t, r') => if 65536 < t.length then .err 3 else .ok ⟨h.kind, h.name, h.nums, str t⟩ h.lines.toNat r')
  else .err 3
def oneL (l : List UInt8) : OneR := match cut10 l with
  | none => .err 4
  | some (a, r) => oneH (headR (str a)) r
/-- A command's lines stand for the command, whatever follows. -/
theorem oneL_ok {l : List UInt8} {c : S31} {n : Nat} {r : List UInt8} (h : oneL l = .ok c n r) :
    ∃ a t, l = a ++ 10 :: t ++ r ∧ (10 : UInt8) ∉ a ∧ t.length ≤ 65536 ∧ headR (str a) = ⟨c.f0, c.f1, c.f2, (headR (str a)).lines, true⟩ ∧ (headR (str a)).lines.toNat = n ∧ c.f3 = str t ∧ t.count 10 = n ∧ (∀ r', takeL n (t ++ r') = some (t, r')) := by
  unfold oneL at h
  cases hc : cut10 l with
  | none => rw [hc] at h; cases h
  | some p =>
    obtain ⟨a, r1⟩ := p
    rw [hc] at h
    simp only at h
    unfold oneH at h
    by_cases ho : (headR (str a)).ok = true
    · rw [if_pos ho] at h
      cases ht : takeL (headR (str a)).lines.toNat r1 with
      | none => rw [ht] at h; cases h
      | some q =>
        obtain ⟨t, r2⟩ := q
        rw [ht] at h
        simp only at h
        by_cases hl : 65536 < t.length
        · rw [if_pos hl] at h; cases h
        · rw [if_neg hl] at h
          injection h with h1 h2 h3
          subst h1 h2 h3
          obtain ⟨e1, e2⟩ := cut10_some hc
          obtain ⟨e3, e4, e5⟩ := takeL_some ht
          exact ⟨a, t, by rw [e1, e3]; simp, e2, by omega, by rw [← ho], rfl, rfl, e4, e5⟩
    · rw [if_neg ho] at h; cases h
theorem oneL_err {l : List UInt8} {e : Int} (h : oneL l = .err e) : e = 3 ∨ e = 4 := by
  unfold oneL at h
  cases hc : cut10 l with
  | none => rw [hc] at h; injection h with h; exact .inr h.symm
  | some p =>
    rw [hc] at h
    simp only at h
    unfold oneH at h
    split at h
    · split at h
      · injection h with h; exact .inr h.symm
      · split at h
        · injection h with h; exact .inl h.symm
        · cases h
    · injection h with h; exact .inl h.symm
theorem oneL_local {l : List UInt8} {c : S31} {n : Nat} {r : List UInt8} (h : oneL l = .ok c n r) :
    ∃ p, l = p ++ r ∧ (∀ r', oneL (p ++ r') = .ok c n r') ∧ (∀ r', takeL (1 + n) (p ++ r') = some (p, r')) ∧ 2 ≤ p.length ∧ 1 + n ≤ p.length := by
  obtain ⟨a, t, h1, h2, h3, h4, h5, h6, h7, h8⟩ := oneL_ok h
  refine ⟨a ++ 10 :: t, h1, ?_, ?_, ?_, ?_⟩
  · intro r'
    unfold oneL
    rw [List.append_assoc, List.cons_append, cut10_app _ _ h2]
    simp only
    rw [h4]
    unfold oneH
    rw [if_pos rfl]
    simp only
    rw [h5, h8 r']
    simp only
    rw [if_neg (by omega), ← h6]
  · intro r'
    rw [Nat.add_comm, takeL, List.append_assoc, List.cons_append, cut10_app _ _ h2]
    simp only
    rw [h8 r']
    rfl
  · have : a ≠ [] := by
      rintro rfl
      have e : headR (str []) = noneR := rfl
      rw [e] at h4
      have := congrArg HeadR.ok h4
      cases this
    have : 1 ≤ a.length := by
      cases a with
      | nil => exact absurd rfl this
      | cons _ _ => simp
    simp
    omega
  · have : t.count 10 ≤ t.length := List.count_le_length
    simp
    omega
inductive Steps : List UInt8 → List S31 → Nat → List UInt8 → Prop
  | nil (l : List UInt8) : Steps l [] 0 l
  | cons {l : List UInt8} {c : S31} {n : Nat} {r : List UInt8} {cs : List S31} {m : Nat} {r' : List UInt8} : oneL l = .ok c n r → Steps r cs m r' → Steps l (c :: cs) (1 + n + m) r'
theorem steps_local {l : List UInt8} {cs : List S31} {n : Nat} {r : List UInt8} (h : Steps l cs n r) :
    ∃ p, l = p ++ r ∧ (∀ r', Steps (p ++ r') cs n r') ∧ (∀ r', takeL n (p ++ r') = some (p, r')) ∧ 2 * cs.length ≤ p.length ∧ n ≤ p.length := by
  induction h with
  | nil l => exact ⟨[], rfl, fun r' => .nil _, fun r' => rfl, by simp, by simp⟩
  | cons h1 _ ih =>
    obtain ⟨p1, e1, o1, t1, s1, n1⟩ := oneL_local h1
    obtain ⟨p2, e2, o2, t2, s2, n2⟩ := ih
    refine ⟨p1 ++ p2, by rw [e1, e2, List.append_assoc], ?_, ?_, ?_, ?_⟩
    · intro r'
      rw [List.append_assoc]
      exact .cons (o1 _) (o2 r')
    · intro r'
      rw [List.append_assoc]
      exact takeL_add (t1 _) (t2 r')
    · simp; omega
    · simp; omega
theorem steps_snoc {l : List UInt8} {cs : List S31} {n : Nat} {r : List UInt8} (h : Steps l cs n r) {c : S31} {m : Nat} {r' : List UInt8} (h2 : oneL r = .ok c m r') : Steps l (cs ++ [c]) (n + (1 + m)) r' := by
  induction h with
  | nil l =>
    have := Steps.cons h2 (.nil _)
    rw [Nat.zero_add]
    exact this
  | cons h1 _ ih =>
    have := Steps.cons h1 (ih h2)
    rw [List.cons_append, Nat.add_assoc]
    exact this
theorem steps_app {l : List UInt8} {cs : List S31} {n : Nat} {r : List UInt8} (h : Steps l cs n r) {cs2 : List S31} {m : Nat} {r' : List UInt8} (h2 : Steps r cs2 m r') : Steps l (cs ++ cs2) (n + m) r' := by
  induction h with
  | nil l => rw [Nat.zero_add]; exact h2
  | cons h1 _ ih =>
    have := Steps.cons h1 (ih h2)
    rw [List.cons_append, Nat.add_assoc]
    exact this
/-- Every text: as many commands as there are, then the end or an error. -/
theorem steps_all : ∀ (k : Nat) (l : List UInt8), l.length ≤ k → ∃ cs n r, Steps l cs n r ∧ (r = [] ∨ ∃ e, oneL r = .err e)
  | 0, l, h => ⟨[], 0, l, .nil _, .inl (List.eq_nil_of_length_eq_zero (by omega))⟩
  | k + 1, l, h => by
    cases ho : oneL l with
    | err e => exact ⟨[], 0, l, .nil _, .inr ⟨e, ho⟩⟩
    | ok c n r =>
      obtain ⟨p, e1, _, _, s1, _⟩ := oneL_local ho
      obtain ⟨cs, m, r', h1, h2⟩ := steps_all k r (by rw [e1, List.length_append] at h; omega)
      exact ⟨c :: cs, _, r', .cons ho h1, h2⟩
end Go.Proofs.YtmciflmlpnpkaaaDoor.Pa

