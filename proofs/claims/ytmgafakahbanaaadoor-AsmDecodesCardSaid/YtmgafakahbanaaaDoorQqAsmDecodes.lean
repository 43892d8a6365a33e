/- The plain law AsmDecodes: what the functions answer, in plain words. -/
import Derived.Test.YtmgafakahbanaaaDoorPcx2
import Derived.Test.YtmgafakahbanaaaDoorE3
import Derived.Laws.BitsLemmas
import Derived.Test.YtmgafakahbanaaaDoorPdx2
import Derived.Test.YtmgafakahbanaaaDoorPdx4
namespace Go.Proofs.YtmgafakahbanaaaDoor.Pa
open Go.RowKit Go.Proofs.YtmgafakahbanaaaDoorW.PrintWords Go.Proofs.YtmgafakahbanaaaDoorW.PrintLast Go.Proofs.YtmgafakahbanaaaDoorW.PrintMore
set_option linter.unusedVariables false
set_option linter.unusedSimpArgs false
theorem awake_eval : ontimelaw05_awake.f = some true := by kernel_rfl
theorem rd_T48_at (l : List S48) (j : Nat) (h : j < l.length) : rd_T48 l (j : Int) = l[j] := by
  simp [rd_T48, List.getD, List.getElem?_eq_getElem h]
theorem wrap_next (i N : Nat) (h : i < N) (hn : N ≤ 100000000) : wrap64 ((i : Int) + 1) = ((i + 1 : Nat) : Int) := by unfold wrap64; omega
theorem nn (n : Nat) : (0 : Int) ≤ (n : Int) := by omega
theorem lt_int (i n : Nat) (h : i < n) : (i : Int) < (n : Int) := by omega
/-- What is decoded is valid, and encoded as the word. -/
theorem dec_enc (x : Int) (h0 : 0 ≤ x) (h : (decF x).2 = 0) : 0 ≤ (decF x).1.f0 ∧ (decF x).1.f0 ≤ 255 ∧ validB (decF x).1 = true ∧ encF (decF x).1 = (x, 0) := by
  unfold decF at h ⊢
  by_cases h1 : x / 67108864 < 30
  · rw [if_pos h1] at h ⊢
    by_cases h2 : (encF (decW x ⟨x / 67108864, 0, 0, 0, 0⟩ (nums8 (rowOf (x / 67108864)).f1))).2 = 0 ∧ (encF (decW x ⟨x / 67108864, 0, 0, 0, 0⟩ (nums8 (rowOf (x / 67108864)).f1))).1 = x
    · rw [if_pos h2]
      have hf := decW_op x (nums8 (rowOf (x / 67108864)).f1) ⟨x / 67108864, 0, 0, 0, 0⟩
      generalize decW x ⟨x / 67108864, 0, 0, 0, 0⟩ (nums8 (rowOf (x / 67108864)).f1) = cur at h2 hf ⊢
      have hf2 : cur.f0 = x / 67108864 := hf
      refine ⟨by show 0 ≤ cur.f0; omega, by show cur.f0 ≤ 255; omega, ?_, Prod.ext h2.2 h2.1⟩
      have h3 := h2.1
      unfold encF at h3
      by_cases hv : validB cur = true
      · exact hv
      · rw [if_neg hv] at h3
        exact absurd h3 (by decide)
    · rw [if_neg h2] at h
      exact absurd h (by decide)
  · rw [if_neg h1] at h
    exact absurd h (by decide)
theorem check_at (l : List S48) (hok : ∀ i ∈ l, opOk i = true) (k : Nat) (hk : l.length < k) : asm_check.f k l = some (if 4096 < l.length then 5 else if l.all validB = true then 0 else 3) := by
  unfold asm_check.f
  by_cases h : l.length ≤ 4096
  · rw [if_neg (by omega), if_neg (by omega)]
    have := check_loop l hok h l.length k 0 (by omega) hk
    rw [List.drop_zero] at this
    exact this
  · rw [if_pos (by omega), if_pos (by omega)]
theorem enc_at (i : S48) (h : opOk i = true) : isa_Encode.f i.f0 i.f1 i.f2 i.f3 i.f4 = some (encF i) := by
  simp only [opOk, Bool.and_eq_true, decide_eq_true_eq] at h
  unfold isa_Encode.f
  rw [if_pos ⟨h.1, by omega⟩]
theorem dec_at (x : Int) (h0 : 0 ≤ x) (h1 : x < 4294967296) : isa_Decode.f x = some ((decF x).1.f0, (decF x).1.f1, (decF x).1.f2, (decF x).1.f3, (decF x).1.f4, (decF x).2) := by
  unfold isa_Decode.f
  rw [if_pos ⟨h0, h1⟩]
theorem rdI_at (c : List Int) (j : Nat) (h : j < c.length) : rd c (j : Int) = c[j] := by
  simp [rd, List.getD, List.getElem?_eq_getElem h]
theorem take_map_succ {α β : Type} (f : α → β) (l : List α) (j : Nat) (h : j < l.length) : (l.take j).map f ++ [f l[j]] = (l.take (j + 1)).map f := by
  rw [List.take_succ_eq_append_getElem h, List.map_append]
  rfl
def encs (l : List S48) : List Int := l.map fun i => (encF i).1
def decs (c : List Int) : List S48 := c.map fun x => (decF x).1
theorem len_big (n m : Nat) (h : n ≤ m) (hm : m ≤ 100000) : n < 35184372088832 ∧ n < 3518437208883 := by omega
theorem asm_loop (l : List S48) (hok : ∀ i ∈ l, opOk i = true) (hl : l.length ≤ 100000) : ∀ (d k j : Nat), j + d = l.length → d < k →
    asm_Assemble.l0 k ((l.take j).map fun i => (encF i).1) l (l.length : Int) (j : Int) = some (encs l, 0) := by
  intro d
  induction d with
  | zero =>
    intro k j hj hk
    obtain ⟨k, rfl⟩ : ∃ m, k = m + 1 := ⟨k - 1, by omega⟩
    rw [asm_Assemble.l0, if_neg (by omega), List.take_of_length_le (by omega)]
    rfl
  | succ d ih =>
    intro k j hj hk
    obtain ⟨k, rfl⟩ : ∃ m, k = m + 1 := ⟨k - 1, by omega⟩
    have hlt : j < l.length := by omega
    have hlen : ((l.take j).map fun i => (encF i).1).length < 35184372088832 := by
      rw [List.length_map, List.length_take]
      omega
    rw [asm_Assemble.l0, if_pos (lt_int j _ hlt), if_pos (nn j), if_pos (lt_int j _ hlt), rd_T48_at l j hlt, enc_at _ (hok _ (List.getElem_mem hlt)), Option.bind_some, if_pos hlen, wrap_next j l.length hlt (by omega),
      take_map_succ (fun i => (encF i).1) l j hlt]
    exact ih k (j + 1) (by omega) (by omega)
theorem assemble_good (l : List S48) (hok : ∀ i ∈ l, opOk i = true) (hl : l.length ≤ 4096) (hv : l.all validB = true) (k : Nat) (hk : l.length < k) : asm_Assemble.f k l = some (encs l, 0) := by
  unfold asm_Assemble.f
  rw [check_at l hok k hk, if_neg (by omega), if_pos hv, Option.bind_some, if_pos rfl]
  exact asm_loop l hok (by omega) l.length k 0 (by omega) hk
theorem dis_step (c : List Int) (hc : ∀ x ∈ c, 0 ≤ x ∧ x < 4294967296) (hl : c.length ≤ 100000) (k j : Nat) (hlt : j < c.length) (out : List S48) (ho : out.length ≤ 100000) :
    asm_Disassemble.l0 (k + 1) out c (c.length : Int) (j : Int) = if (decF c[j]).2 = 0 then asm_Disassemble.l0 k (out ++ [(decF c[j]).1]) c (c.length : Int) ((j + 1 : Nat) : Int) else some ([], (j : Int), 3) := by
  have hx := hc _ (List.getElem_mem hlt)
  have h2 := (len_big _ _ ho (Nat.le_refl _)).2
  rw [asm_Disassemble.l0, if_pos (lt_int j _ hlt), if_pos (nn j), if_pos (lt_int j _ hlt), rdI_at c j hlt, dec_at _ hx.1 hx.2, Option.bind_some, if_pos h2, wrap_next j c.length hlt (by omega)]
theorem dis_loop (c : List Int) (hc : ∀ x ∈ c, 0 ≤ x ∧ x < 4294967296) (hl : c.length ≤ 100000) (m : Nat) (hm : m ≤ c.length) (hg : ∀ (j : Nat) (h : j < c.length), j < m → (decF c[j]).2 = 0) (r : List S48 × Int × Int) (K : Nat)
    (hr : ∀ k, K ≤ k → asm_Disassemble.l0 k ((c.take m).map fun x => (decF x).1) c (c.length : Int) (m : Int) = some r) : ∀ (d k j : Nat), j + d = m → K + d ≤ k →
    asm_Disassemble.l0 k ((c.take j).map fun x => (decF x).1) c (c.length : Int) (j : Int) = some r := by
  intro d
  induction d with
  | zero =>
    intro k j hj hk
    have : j = m := by omega
    subst this
    exact hr k (by omega)
  | succ d ih =>
    intro k j hj hk
    obtain ⟨k, rfl⟩ : ∃ m, k = m + 1 := ⟨k - 1, by omega⟩
    have hlt : j < c.length := by omega
    rw [dis_step c hc hl k j hlt _ (by rw [List.length_map, List.length_take]; omega), if_pos (hg j hlt (by omega)), take_map_succ (fun x => (decF x).1) c j hlt]
    exact ih k (j + 1) (by omega) (by omega)
theorem dis_good (c : List Int) (hc : ∀ x ∈ c, 0 ≤ x ∧ x < 4294967296) (hl : c.length ≤ 4096) (hg : ∀ x ∈ c, (decF x).2 = 0) (k : Nat) (hk : c.length < k) : asm_Disassemble.f k c = some (decs c, 0, 0) := by
  unfold asm_Disassemble.f
  rw [if_neg (by omega)]
  refine dis_loop c hc (by omega) c.length (Nat.le_refl _) (fun j h _ => hg _ (List.getElem_mem h)) _ 1 ?_ c.length k 0 (by omega) (by omega)
  intro k hk
  obtain ⟨k, rfl⟩ : ∃ m, k = m + 1 := ⟨k - 1, by omega⟩
  rw [asm_Disassemble.l0, if_neg (by omega), List.take_of_length_le (by omega)]
  rfl
theorem dis_bad (c : List Int) (hc : ∀ x ∈ c, 0 ≤ x ∧ x < 4294967296) (hl : c.length ≤ 4096) (m : Nat) (hm : m < c.length) (hg : ∀ (j : Nat) (h : j < c.length), j < m → (decF c[j]).2 = 0) (hb : ¬ (decF c[m]).2 = 0) (k : Nat) (hk : c.length < k) : asm_Disassemble.f k c = some ([], (m : Int), 3) := by
  unfold asm_Disassemble.f
  rw [if_neg (by omega)]
  refine dis_loop c hc (by omega) m (by omega) hg _ 1 ?_ m k 0 (by omega) (by omega)
  intro k hk
  obtain ⟨k, rfl⟩ : ∃ m, k = m + 1 := ⟨k - 1, by omega⟩
  rw [dis_step c hc (by omega) k m hm _ (by rw [List.length_map, List.length_take]; omega), if_neg hb]
theorem decs_ok (c : List Int) (hc : ∀ x ∈ c, 0 ≤ x ∧ x < 4294967296) (hg : ∀ x ∈ c, (decF x).2 = 0) : (∀ i ∈ decs c, opOk i = true) ∧ (decs c).all validB = true ∧ encs (decs c) = c := by
  refine ⟨fun i hi => ?_, ?_, ?_⟩
  · obtain ⟨x, hx, rfl⟩ := List.mem_map.1 hi
    obtain ⟨a, b, _, _⟩ := dec_enc x (hc x hx).1 (hg x hx)
    simp only [opOk, Bool.and_eq_true, decide_eq_true_eq]
    omega
  · rw [List.all_eq_true]
    intro i hi
    obtain ⟨x, hx, rfl⟩ := List.mem_map.1 hi
    exact (dec_enc x (hc x hx).1 (hg x hx)).2.2.1
  · unfold decs encs
    rw [List.map_map]
    have : ∀ x ∈ c, ((fun i => (encF i).1) ∘ fun x => (decF x).1) x = id x := fun x hx => by
      show (encF (decF x).1).1 = x
      rw [(dec_enc x (hc x hx).1 (hg x hx)).2.2.2]
    rw [List.map_congr_left this, List.map_id]
theorem last_loop (c : List Int) (hl : c.length ≤ 4096) : ∀ (d k j : Nat), j + d = c.length → d < k → ontimelaw05_AsmDecodes.l1 k c c (j : Int) = some true := by
  intro d
  induction d with
  | zero =>
    intro k j hj hk
    obtain ⟨k, rfl⟩ : ∃ m, k = m + 1 := ⟨k - 1, by omega⟩
    rw [ontimelaw05_AsmDecodes.l1, if_neg (by omega)]
  | succ d ih =>
    intro k j hj hk
    obtain ⟨k, rfl⟩ : ∃ m, k = m + 1 := ⟨k - 1, by omega⟩
    have hlt : j < c.length := by omega
    rw [ontimelaw05_AsmDecodes.l1, if_pos (lt_int j _ hlt), if_pos (nn j), if_pos (lt_int j _ hlt), if_pos rfl, wrap_next j c.length hlt (by omega)]
    exact ih k (j + 1) (by omega) (by omega)
theorem good_loop (c : List Int) (hc : ∀ x ∈ c, 0 ≤ x ∧ x < 4294967296) (hl : c.length ≤ 4096) (hg : ∀ x ∈ c, (decF x).2 = 0) (K : Nat) (hK : 5000 ≤ K) : ∀ (d k j : Nat), j + d = c.length → K + d + 4 ≤ k →
    ontimelaw05_AsmDecodes.l0 k c (decs c) 0 0 (j : Int) = some true := by
  have hdl : (decs c).length = c.length := List.length_map _
  obtain ⟨e1, e2, e3⟩ := decs_ok c hc hg
  intro d
  induction d with
  | zero =>
    intro k j hj hk
    obtain ⟨k, rfl⟩ : ∃ m, k = m + 1 + 1 + 1 := ⟨k - 3, by omega⟩
    rw [ontimelaw05_AsmDecodes.l0, if_neg (by omega), if_pos rfl, if_pos rfl, show (((decs c).length : Int) != (c.length : Int)) = false by simp [hdl], ontimelaw05_AsmDecodes.j1, if_neg (by decide), assemble_good (decs c) e1 (by omega) e2 (k + 1) (by omega), Option.bind_some, if_pos rfl, e3]
    dsimp only
    rw [show ((c.length : Int) != (c.length : Int)) = false by simp, ontimelaw05_AsmDecodes.j2, if_neg (by decide)]
    exact last_loop c hl c.length k 0 (by omega) (by omega)
  | succ d ih =>
    intro k j hj hk
    obtain ⟨k, rfl⟩ : ∃ m, k = m + 1 := ⟨k - 1, by omega⟩
    have hlt : j < c.length := by omega
    have hx := hc _ (List.getElem_mem hlt)
    have hrd : rd_T48 (decs c) (j : Int) = (decF c[j]).1 := by
      rw [rd_T48_at (decs c) j (by omega)]
      unfold decs
      rw [List.getElem_map]
    rw [ontimelaw05_AsmDecodes.l0, if_pos (lt_int j _ hlt), if_pos (nn j), rdI_at c j hlt, dec_at _ hx.1 hx.2, Option.bind_some]
    dsimp only
    rw [if_pos (hg _ (List.getElem_mem hlt)), if_pos rfl, if_neg (by omega), if_pos (lt_int j _ (by omega)), hrd]
    simp only [beq_self_eq_true, Bool.not_true, Bool.or_self]
    rw [if_neg (by decide), wrap_next j c.length hlt (by omega)]
    exact ih k (j + 1) (by omega) (by omega)
theorem bad_loop (c : List Int) (hc : ∀ x ∈ c, 0 ≤ x ∧ x < 4294967296) (hl : c.length ≤ 4096) (m : Nat) (hm : m < c.length) (hg : ∀ (j : Nat) (h : j < c.length), j < m → (decF c[j]).2 = 0) (hb : ¬ (decF c[m]).2 = 0) : ∀ (d k j : Nat), j + d = m → d < k →
    ontimelaw05_AsmDecodes.l0 k c [] (m : Int) 3 (j : Int) = some true := by
  intro d
  induction d with
  | zero =>
    intro k j hj hk
    obtain ⟨k, rfl⟩ : ∃ m, k = m + 1 := ⟨k - 1, by omega⟩
    have e : j = m := by omega
    subst e
    have hx := hc _ (List.getElem_mem hm)
    rw [ontimelaw05_AsmDecodes.l0, if_pos (lt_int j _ hm), if_pos (nn j), rdI_at c j hm, dec_at _ hx.1 hx.2, Option.bind_some]
    dsimp only
    rw [if_neg hb, if_pos rfl, if_pos rfl]
    rfl
  | succ d ih =>
    intro k j hj hk
    obtain ⟨k, rfl⟩ : ∃ m, k = m + 1 := ⟨k - 1, by omega⟩
    have hlt : j < c.length := by omega
    have hx := hc _ (List.getElem_mem hlt)
    rw [ontimelaw05_AsmDecodes.l0, if_pos (lt_int j _ hlt), if_pos (nn j), rdI_at c j hlt, dec_at _ hx.1 hx.2, Option.bind_some]
    dsimp only
    rw [if_pos (hg j hlt (by omega)), if_neg (by decide), wrap_next j c.length hlt (by omega)]
    exact ih k (j + 1) (by omega) (by omega)
theorem first_bad (c : List Int) : (∀ x ∈ c, (decF x).2 = 0) ∨ ∃ (m : Nat) (hm : m < c.length), (∀ (j : Nat) (h : j < c.length), j < m → (decF c[j]).2 = 0) ∧ ¬ (decF c[m]).2 = 0 := by
  induction c with
  | nil => exact .inl fun x h => by cases h
  | cons a c ih =>
    by_cases ha : (decF a).2 = 0
    · rcases ih with h | ⟨m, hm, h1, h2⟩
      · exact .inl fun x hx => by
          rcases List.mem_cons.1 hx with rfl | hx
          · exact ha
          · exact h x hx
      · refine .inr ⟨m + 1, by simpa using hm, fun j hj hjm => ?_, by simpa using h2⟩
        cases j with
        | zero => exact ha
        | succ j =>
          simp only [List.getElem_cons_succ]
          exact h1 j (by simpa using hj) (by omega)
    · exact .inr ⟨0, by simp, fun j _ h => by omega, ha⟩
theorem AsmDecodes_pure (c : List Int) (hc : ∀ x ∈ c, 0 ≤ x ∧ x ≤ 4294967295) : ∃ k, ontimelaw05_AsmDecodes.f k c = some true := by
  obtain ⟨K, hK⟩ : ∃ K : Nat, 10000 ≤ K := ⟨10000, Nat.le_refl _⟩
  refine ⟨K, ?_⟩
  have hc' : ∀ x ∈ c, 0 ≤ x ∧ x < 4294967296 := fun x hx => ⟨(hc x hx).1, by have := (hc x hx).2; omega⟩
  unfold ontimelaw05_AsmDecodes.f
  rw [awake_eval, Option.bind_some, if_pos rfl]
  by_cases hl : (c.length : Int) > 40
  · rw [if_pos hl]
  · rw [if_neg hl]
    rcases first_bad c with hg | ⟨m, hm, h1, h2⟩
    · rw [dis_good c hc' (by omega) hg K (by omega), Option.bind_some]
      exact good_loop c hc' (by omega) hg 5000 (by omega) c.length K 0 (by omega) (by omega)
    · rw [dis_bad c hc' (by omega) m hm h1 h2 K (by omega), Option.bind_some]
      exact bad_loop c hc' (by omega) m hm h1 h2 m K 0 (by omega) (by omega)
end Go.Proofs.YtmgafakahbanaaaDoor.Pa
