/- Decimal numerals: what itoa writes, atoi reads. Plain lists of bytes; no program. -/
import Derived.Lib.AtoiAllCases
import Derived.Lib.ItoaNum
import Derived.Lib.ItoaMem
import Derived.Lib.Join
namespace Go.Proofs.YtmciflmlpnpkaaaDoor.Num
open Go

theorem parse_append : ∀ (a b : List UInt8) (acc v : Nat), Lib.parseUint10 acc a = .ok v → Lib.parseUint10 acc (a ++ b) = Lib.parseUint10 v b
  | [], b, acc, v, h => by
    simp only [Lib.parseUint10] at h
    injection h with h
    subst h
    rfl
  | c :: a, b, acc, v, h => by
    simp only [Lib.parseUint10, List.cons_append] at h ⊢
    by_cases h1 : 48 ≤ c.toNat ∧ c.toNat ≤ 57
    · rw [if_pos h1] at h ⊢
      by_cases h2 : 1844674407370955162 ≤ acc
      · rw [if_pos h2] at h; cases h
      · rw [if_neg h2] at h ⊢
        by_cases h3 : 18446744073709551616 ≤ acc * 10 + (c.toNat - 48)
        · rw [if_pos h3] at h; cases h
        · rw [if_neg h3] at h ⊢
          exact parse_append a b _ v h
    · rw [if_neg h1] at h; cases h
theorem digit_toNat (d : Nat) (h : d < 10) : (UInt8.ofNat (48 + d)).toNat = 48 + d := by
  rw [UInt8.toNat_ofNat']
  omega
theorem parse_decDigits (u : Nat) (h : u < 18446744073709551616) : Lib.parseUint10 0 (Lib.decDigits u) = .ok u := by
  induction u using Nat.strongRecOn with
  | _ u ih =>
    by_cases h10 : u < 10
    · rw [Lib.decDigits, dif_pos h10]
      simp only [Lib.parseUint10]
      rw [digit_toNat u h10, if_pos (by omega), if_neg (by omega), if_neg (by omega)]
      congr 1
      omega
    · rw [Lib.decDigits, dif_neg h10, parse_append _ _ _ _ (ih (u / 10) (by omega) (by omega))]
      simp only [Lib.parseUint10]
      rw [digit_toNat (u % 10) (by omega), if_pos (by omega), if_neg (by omega), if_neg (by omega)]
      congr 1
      omega
theorem decDigits_ne (u : Nat) : Lib.decDigits u ≠ [] := by
  intro h
  have := Lib.nDigits_pos u
  rw [← Lib.decDigits_length, h] at this
  simp at this
theorem decDigits_digit (u : Nat) : ∀ b ∈ Lib.decDigits u, 48 ≤ b.toNat ∧ b.toNat ≤ 57 := by
  induction u using Nat.strongRecOn with
  | _ u ih =>
    intro b hb
    by_cases h10 : u < 10
    · rw [Lib.decDigits, dif_pos h10] at hb
      simp only [List.mem_singleton] at hb
      subst hb
      rw [digit_toNat u h10]
      omega
    · rw [Lib.decDigits, dif_neg h10, List.mem_append] at hb
      rcases hb with hb | hb
      · exact ih (u / 10) (by omega) b hb
      · simp only [List.mem_singleton] at hb
        subst hb
        rw [digit_toNat (u % 10) (by omega)]
        omega
theorem itoa_bytes (n : Int) : ∀ b ∈ Lib.itoa n, b.toNat = 45 ∨ (48 ≤ b.toNat ∧ b.toNat ≤ 57) := by
  intro b hb
  unfold Lib.itoa at hb
  split at hb
  · rcases List.mem_cons.1 hb with rfl | hb
    · exact .inl rfl
    · exact .inr (decDigits_digit _ b hb)
  · exact .inr (decDigits_digit _ b hb)
theorem parseMag_decDigits (u : Nat) (h : u < 18446744073709551616) : Lib.parseMag (Lib.decDigits u) = .ok u := by
  unfold Lib.parseMag
  rw [if_neg (decDigits_ne u)]
  exact parse_decDigits u h
theorem atoi_itoa (n : Int) (h0 : -9223372036854775808 ≤ n) (h1 : n ≤ 9223372036854775807) : Lib.atoiAll (Lib.itoa n) = .ok n := by
  by_cases hn : n < 0
  · obtain ⟨u, rfl⟩ : ∃ u : Nat, n = -(u : Int) := ⟨n.natAbs, by omega⟩
    rw [Lib.itoa_neg u (by omega), Lib.atoiAll_minus, parseMag_decDigits u (by omega)]
    simp only [Lib.signed]
    rw [if_neg (by omega)]
  · obtain ⟨u, rfl⟩ : ∃ u : Nat, n = (u : Int) := ⟨n.toNat, by omega⟩
    rw [Lib.itoa_nonneg]
    have hd := decDigits_digit u
    have hm := parseMag_decDigits u (by omega)
    cases hl : Lib.decDigits u with
    | nil => exact absurd hl (decDigits_ne u)
    | cons c r =>
      rw [hl] at hd hm
      have := hd c List.mem_cons_self
      rw [Lib.atoiAll_plain c r (by omega) (by omega), hm]
      simp only [Lib.signless]
      rw [if_neg (by omega)]
theorem itoa_inj (n m : Int) (h0 : -9223372036854775808 ≤ n) (h1 : n ≤ 9223372036854775807) (h2 : -9223372036854775808 ≤ m) (h3 : m ≤ 9223372036854775807) (h : Lib.itoa n = Lib.itoa m) : n = m := by
  have a := atoi_itoa n h0 h1
  have b := atoi_itoa m h2 h3
  rw [h, b] at a
  injection a with a
  exact a.symm
theorem itoa_ne (n : Int) : Lib.itoa n ≠ [] := by
  unfold Lib.itoa
  split
  · simp
  · exact decDigits_ne _

/-! ### words and the line that they make -/
/-- Words in one line are read back: no word holds the separator. -/
theorem sep_inj (s : UInt8) : ∀ (a b : List UInt8) (u v : List UInt8), s ∉ a → s ∉ b → (u = [] ∨ ∃ t, u = s :: t) → (v = [] ∨ ∃ t, v = s :: t) → a ++ u = b ++ v → a = b ∧ u = v
  | [], [], u, v, _, _, _, _, h => ⟨rfl, by simpa using h⟩
  | [], y :: b, u, v, _, hb, hu, _, h => by
    exfalso
    rcases hu with rfl | ⟨t, rfl⟩
    · simp at h
    · simp only [List.nil_append, List.cons_append, List.cons.injEq] at h
      exact hb (by rw [h.1]; exact List.mem_cons_self)
  | x :: a, [], u, v, ha, _, _, hv, h => by
    exfalso
    rcases hv with rfl | ⟨t, rfl⟩
    · simp at h
    · simp only [List.nil_append, List.cons_append, List.cons.injEq] at h
      exact ha (by rw [← h.1]; exact List.mem_cons_self)
  | x :: a, y :: b, u, v, ha, hb, hu, hv, h => by
    simp only [List.cons_append, List.cons.injEq] at h
    obtain ⟨h1, h2⟩ := h
    obtain ⟨e1, e2⟩ := sep_inj s a b u v (fun hh => ha (List.mem_cons_of_mem _ hh)) (fun hh => hb (List.mem_cons_of_mem _ hh)) hu hv h2
    exact ⟨by rw [h1, e1], e2⟩
def spaced (ws : List (List UInt8)) : List UInt8 := ws.flatMap fun w => 32 :: w
theorem spaced_form (ws : List (List UInt8)) : spaced ws = [] ∨ ∃ t, spaced ws = 32 :: t := by
  cases ws with
  | nil => exact .inl rfl
  | cons w ws => exact .inr ⟨w ++ spaced ws, by simp [spaced]⟩
theorem spaced_inj : ∀ (a b : List (List UInt8)), (∀ w ∈ a, (32 : UInt8) ∉ w) → (∀ w ∈ b, (32 : UInt8) ∉ w) → spaced a = spaced b → a = b
  | [], [], _, _, _ => rfl
  | [], _ :: _, _, _, h => by simp [spaced] at h
  | _ :: _, [], _, _, h => by simp [spaced] at h
  | x :: a, y :: b, ha, hb, h => by
    have h' : x ++ spaced a = y ++ spaced b := by simpa [spaced] using h
    obtain ⟨e1, e2⟩ := sep_inj 32 x y _ _ (ha x List.mem_cons_self) (hb y List.mem_cons_self) (spaced_form a) (spaced_form b) h'
    rw [e1, spaced_inj a b (fun w hw => ha w (List.mem_cons_of_mem _ hw)) (fun w hw => hb w (List.mem_cons_of_mem _ hw)) e2]
theorem line_inj (x y : List UInt8) (a b : List (List UInt8)) (hx : (32 : UInt8) ∉ x) (hy : (32 : UInt8) ∉ y) (ha : ∀ w ∈ a, (32 : UInt8) ∉ w) (hb : ∀ w ∈ b, (32 : UInt8) ∉ w) (h : x ++ spaced a = y ++ spaced b) : x = y ∧ a = b := by
  obtain ⟨e1, e2⟩ := sep_inj 32 x y _ _ hx hy (spaced_form a) (spaced_form b) h
  exact ⟨e1, spaced_inj a b ha hb e2⟩
theorem join_spaced (x : List UInt8) (a : List (List UInt8)) : Lib.join (x :: a) [32] = x ++ spaced a := by
  unfold Lib.join
  induction a generalizing x with
  | nil => simp [List.intercalate, spaced]
  | cons y a ih =>
    have e : [32].intercalate (x :: y :: a) = x ++ ([32] ++ [32].intercalate (y :: a)) := by simp [List.intercalate, List.intersperse]
    rw [e, ih y]
    simp [spaced]
end Go.Proofs.YtmciflmlpnpkaaaDoor.Num

namespace Go.Proofs.YtmciflmlpnpkaaaDoor.Num
open Go
theorem dec_head (u : Nat) (h : 1 ≤ u) : (Lib.decDigits u).head? ≠ some 48 := by
  induction u using Nat.strongRecOn with
  | _ u ih =>
    by_cases h10 : u < 10
    · rw [Lib.decDigits, dif_pos h10, List.head?_cons]
      intro e
      have := congrArg UInt8.toNat (Option.some.inj e)
      rw [digit_toNat u h10] at this
      have e48 : (48 : UInt8).toNat = 48 := rfl
      omega
    · rw [Lib.decDigits, dif_neg h10]
      have := ih (u / 10) (by omega) (by omega)
      cases hd : Lib.decDigits (u / 10) with
      | nil => exact absurd hd (decDigits_ne _)
      | cons b l => rw [hd] at this; exact this
theorem dec_zero : Lib.decDigits 0 = [48] := by rw [Lib.decDigits, dif_pos (by omega)]; rfl
theorem dec_len : ∀ (k u : Nat), u < 10 ^ (k + 1) → (Lib.decDigits u).length ≤ k + 1
  | 0, u, h => by rw [Lib.decDigits, dif_pos (by simpa using h)]; simp
  | k + 1, u, h => by
    by_cases h10 : u < 10
    · rw [Lib.decDigits, dif_pos h10]; simp
    · rw [Lib.decDigits, dif_neg h10]
      have := dec_len k (u / 10) (by rw [Nat.pow_succ] at h; omega)
      simp
      omega
/-- No numeral has a 0 ahead of other digits. -/
theorem itoa_zero (v : Int) (t : List UInt8) (h : Lib.itoa v = 48 :: t) : t = [] := by
  unfold Lib.itoa at h
  split at h
  · injection h with h _
    exact absurd h (by decide)
  · by_cases h0 : v.toNat = 0
    · rw [h0, dec_zero] at h
      injection h with _ h
      exact h.symm
    · have := dec_head v.toNat (by omega)
      rw [h] at this
      exact absurd rfl this
theorem itoa_minus_zero (v : Int) (t : List UInt8) : Lib.itoa v ≠ 45 :: 48 :: t := by
  intro h
  unfold Lib.itoa at h
  split at h
  · injection h with _ h
    have := dec_head v.natAbs (by omega)
    rw [h] at this
    exact this rfl
  · have := decDigits_digit v.toNat 45 (by rw [h]; exact List.mem_cons_self)
    have e : (45 : UInt8).toNat = 45 := rfl
    omega
theorem itoa_long (v : Int) (h0 : -9223372036854775808 ≤ v) (h1 : v ≤ 9223372036854775807) (n : Nat) (hn : 20 ≤ n) : Lib.itoa v ≠ List.replicate n 57 := by
  intro h
  unfold Lib.itoa at h
  obtain ⟨m, rfl⟩ : ∃ m, n = m + 1 := ⟨n - 1, by omega⟩
  split at h
  · rw [List.replicate_succ] at h
    injection h with h _
    exact absurd h (by decide)
  · have := dec_len 18 v.toNat (by omega)
    rw [h, List.length_replicate] at this
    omega
theorem itoa_mem (v : Int) (b : UInt8) (h : b ∈ Lib.itoa v) (h1 : b ≠ 45) (h2 : b.toNat < 48 ∨ 57 < b.toNat) : False := by
  rcases itoa_bytes v b h with h3 | h3
  · exact h1 (UInt8.toNat_inj.1 h3)
  · omega
end Go.Proofs.YtmciflmlpnpkaaaDoor.Num

