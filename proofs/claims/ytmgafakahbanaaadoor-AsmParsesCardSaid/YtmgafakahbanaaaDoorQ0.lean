import Derived.Test.YtmgafakahbanaaaDoorPcx2
namespace Go.Proofs.YtmgafakahbanaaaDoor.Pa
open Go.RowKit Go.Proofs.YtmgafakahbanaaaDoorW.PrintWords Go.Proofs.YtmgafakahbanaaaDoorW.PrintLast Go.Proofs.YtmgafakahbanaaaDoorW.PrintMore
set_option linter.unusedVariables false
set_option linter.unusedSimpArgs false
theorem awake_eval : ontimelaw05_awake.f = some true := by kernel_rfl
theorem rd_T48_at (l : List S48) (j : Nat) (h : j < l.length) : rd_T48 l (j : Int) = l[j] := by
  simp [rd_T48, List.getD, List.getElem?_eq_getElem h]
theorem valid_loop (l : List S48) (hl : l.length ≤ 1000000) (hok : ∀ i ∈ l, opOk i = true) : ∀ (d k j : Nat), j + d = l.length → d < k →
    ontimelaw05_valid.l0 k l (j : Int) = some (if (l.drop j).all validB = true then 1 else 0) := by
  intro d
  induction d with
  | zero =>
    intro k j hj hk
    obtain ⟨k, rfl⟩ : ∃ m, k = m + 1 := ⟨k - 1, by omega⟩
    simp only [ontimelaw05_valid.l0]
    rw [if_neg (by omega), List.drop_of_length_le (by omega)]
    rfl
  | succ d ih =>
    intro k j hj hk
    obtain ⟨k, rfl⟩ : ∃ m, k = m + 1 := ⟨k - 1, by omega⟩
    have hlt : j < l.length := by omega
    have ho := hok l[j] (List.getElem_mem hlt)
    simp only [opOk, Bool.and_eq_true, decide_eq_true_eq] at ho
    have hw : wrap64 ((j : Int) + 1) = ((j + 1 : Nat) : Int) := by unfold wrap64; omega
    simp only [ontimelaw05_valid.l0]
    rw [if_pos (by omega), if_pos (by omega), rd_T48_at l j hlt, hw, isa_Valid.f, if_pos ho, List.drop_eq_getElem_cons hlt, List.all_cons]
    simp only [Option.bind_some]
    by_cases hv : validB l[j] = true
    · rw [if_pos hv, ih k (j + 1) (by omega) (by omega), hv, Bool.true_and]
    · rw [if_neg hv]
      have : validB l[j] = false := by simpa using hv
      rw [this, Bool.false_and, if_neg (by simp)]
theorem valid_eval (l : List S48) (hl : l.length ≤ 1000000) (hok : ∀ i ∈ l, opOk i = true) (k : Nat) (hk : l.length < k) : ontimelaw05_valid.f k l = some (if l.all validB = true then 1 else 0) := by
  have := valid_loop l hl hok l.length k 0 (by omega) hk
  rw [List.drop_zero] at this
  exact this
theorem format_eval (l : List S48) (hok : ∀ i ∈ l, opOk i = true) : asm_Format.f l = some (fmtL l) := by
  unfold asm_Format.f
  rw [if_pos (List.all_eq_true.2 hok)]
theorem str_nil : str [] = (⟨#[]⟩ : ByteArray) := rfl
theorem fmtL_yes (l : List S48) (hl : l.length ≤ 4096) (hv : l.all validB = true) : fmtL l = (str (textL l), 0) := by
  unfold fmtL
  rw [if_neg (by omega), if_pos hv]
theorem fmtL_no (l : List S48) (hl : l.length ≤ 4096) (hv : ¬ l.all validB = true) : fmtL l = (⟨#[]⟩, 3) := by
  unfold fmtL
  rw [if_neg (by omega), if_neg hv]
theorem refFormat_eval (l : List S48) (hl : l.length ≤ 4096) (hok : ∀ i ∈ l, opOk i = true) (hv : l.all validB = true) : ontimeref05_Format.f l = some (str (textL l)) := by
  unfold ontimeref05_Format.f
  refine if_pos ⟨hl, ?_⟩
  rw [List.all_eq_true]
  intro i hi
  have h1 := hok i hi
  have h2 := List.all_eq_true.1 hv i hi
  simp only [opOk, Bool.and_eq_true, decide_eq_true_eq] at h1
  simp [h1.1, h2]
theorem AsmFormats_pure (l : List S48) (hok : ∀ i ∈ l, opOk i = true) : ∃ k, ontimelaw05_AsmFormats.f k l = some true := by
  refine ⟨42, ?_⟩
  unfold ontimelaw05_AsmFormats.f
  rw [awake_eval, Option.bind_some, if_pos rfl]
  by_cases hl : (l.length : Int) > 40
  · rw [if_pos hl]
  · have hl2 : l.length ≤ 40 := by omega
    rw [if_neg hl, format_eval l hok, Option.bind_some, valid_eval l (by omega) hok 42 (by omega), Option.bind_some]
    by_cases hv : l.all validB = true
    · rw [if_pos hv, fmtL_yes l (by omega) hv, if_neg (by decide), if_pos rfl, refFormat_eval l (by omega) hok hv, Option.bind_some, beq_self_eq_true]
    · rw [if_neg hv, fmtL_no l (by omega) hv, if_pos rfl, if_pos rfl]
      rw [ByteArray.toList_eq]
      rfl
end Go.Proofs.YtmgafakahbanaaaDoor.Pa
