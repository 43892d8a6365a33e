/- Which texts are decimal numerals. Plain lists of bytes; no program. -/
import Derived.Test.YtmciflmlpnpkaaaDoorN
namespace Go.Proofs.YtmciflmlpnpkaaaDoor.Num
open Go
theorem dec_head (u : Nat) (h : 1 ≤ u) : (Lib.decDigits u).head? ≠ some 48 := by
  induction u using Nat.strongRecOn with
  | _ u ih =>
    by_cases h10 : u < 10
    · rw [Lib.decDigits, dif_pos h10, List.head?_cons]
      intro e
      have := congrArg UInt8.toNat (Option.some.inj e)
      rw [digit_toNat u h10] at this
      have e48 : (48 : UInt8).toNat = 48 := rfl
      omega
    · rw [Lib.decDigits, dif_neg h10]
      have := ih (u / 10) (by omega) (by omega)
      cases hd : Lib.decDigits (u / 10) with
      | nil => exact absurd hd (decDigits_ne _)
      | cons b l => rw [hd] at this; exact this
theorem dec_zero : Lib.decDigits 0 = [48] := by rw [Lib.decDigits, dif_pos (by omega)]; rfl
theorem dec_len : ∀ (k u : Nat), u < 10 ^ (k + 1) → (Lib.decDigits u).length ≤ k + 1
  | 0, u, h => by rw [Lib.decDigits, dif_pos (by simpa using h)]; simp
  | k + 1, u, h => by
    by_cases h10 : u < 10
    · rw [Lib.decDigits, dif_pos h10]; simp
    · rw [Lib.decDigits, dif_neg h10]
      have := dec_len k (u / 10) (by rw [Nat.pow_succ] at h; omega)
      simp
      omega
/-- No numeral has a 0 ahead of other digits. -/
theorem itoa_zero (v : Int) (t : List UInt8) (h : Lib.itoa v = 48 :: t) : t = [] := by
  unfold Lib.itoa at h
  split at h
  · injection h with h _
    exact absurd h (by decide)
  · by_cases h0 : v.toNat = 0
    · rw [h0, dec_zero] at h
      injection h with _ h
      exact h.symm
    · have := dec_head v.toNat (by omega)
      rw [h] at this
      exact absurd rfl this
theorem itoa_minus_zero (v : Int) (t : List UInt8) : Lib.itoa v ≠ 45 :: 48 :: t := by
  intro h
  unfold Lib.itoa at h
  split at h
  · injection h with _ h
    have := dec_head v.natAbs (by omega)
    rw [h] at this
    exact this rfl
  · have := decDigits_digit v.toNat 45 (by rw [h]; exact List.mem_cons_self)
    have e : (45 : UInt8).toNat = 45 := rfl
    omega
theorem itoa_long (v : Int) (h0 : -9223372036854775808 ≤ v) (h1 : v ≤ 9223372036854775807) (n : Nat) (hn : 20 ≤ n) : Lib.itoa v ≠ List.replicate n 57 := by
  intro h
  unfold Lib.itoa at h
  obtain ⟨m, rfl⟩ : ∃ m, n = m + 1 := ⟨n - 1, by omega⟩
  split at h
  · rw [List.replicate_succ] at h
    injection h with h _
    exact absurd h (by decide)
  · have := dec_len 18 v.toNat (by omega)
    rw [h, List.length_replicate] at this
    omega
theorem itoa_mem (v : Int) (b : UInt8) (h : b ∈ Lib.itoa v) (h1 : b ≠ 45) (h2 : b.toNat < 48 ∨ 57 < b.toNat) : False := by
  rcases itoa_bytes v b h with h3 | h3
  · exact h1 (UInt8.toNat_inj.1 h3)
  · omega
end Go.Proofs.YtmciflmlpnpkaaaDoor.Num
