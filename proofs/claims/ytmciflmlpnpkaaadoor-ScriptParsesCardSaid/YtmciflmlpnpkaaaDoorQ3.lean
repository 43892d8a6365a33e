import Derived.Test.YtmciflmlpnpkaaaDoorQ2
import Derived.Test.YtmciflmlpnpkaaaDoorPbx1
namespace Go.Proofs.YtmciflmlpnpkaaaDoor.Pa
open Go.RowKit Go.Proofs.YtmciflmlpnpkaaaDoorW.PrintWords Go.Proofs.YtmciflmlpnpkaaaDoorW.PrintLast Go.Proofs.YtmciflmlpnpkaaaDoorW.PrintMore
set_option linter.unusedVariables false
set_option linter.unusedSimpArgs false

theorem raise_to {α : Type} (f : Nat → Option α) (hm : ∀ k, LeO (f k) (f (k + 1))) {k : Nat} {r : α} (h : f k = some r) : ∀ k', k ≤ k' → f k' = some r := by
  intro k' hk
  induction k' with
  | zero => obtain rfl : k = 0 := by omega
            exact h
  | succ k' ih =>
    by_cases e : k = k' + 1
    · subst e; exact h
    · exact hm k' r (ih (by omega))
theorem wrap_nat (n : Nat) (h : n ≤ 1000000000) : wrap64 (n : Int) = (n : Int) := by unfold wrap64; omega
theorem wrap_at (a j : Nat) (h : a + j + 1 ≤ 1000000000) : wrap64 ((a : Int) + wrap64 ((j : Int) + 1)) = ((a + (j + 1) : Nat) : Int) := by
  have e1 : wrap64 ((j : Int) + 1) = ((j + 1 : Nat) : Int) := wrap_nat (j + 1) (by omega)
  rw [e1]
  exact wrap_nat (a + (j + 1)) (by omega)
theorem wrap_at2 (a j : Nat) (h : a + j + 1 ≤ 1000000000) : wrap64 ((a : Int) + wrap64 (1 + (j : Int))) = ((a + (1 + j) : Nat) : Int) := by
  have e1 : wrap64 (1 + (j : Int)) = ((1 + j : Nat) : Int) := wrap_nat (1 + j) (by omega)
  rw [e1]
  exact wrap_nat (a + (1 + j)) (by omega)
theorem wrap_one (n : Nat) (h : (n : Int) < 9223372036854775807) : wrap64 ((n : Int) + 1) = ((n + 1 : Nat) : Int) := by unfold wrap64; omega
theorem size_len (x : ByteArray) : x.data.toList.length = x.size := by simp
theorem cut_10 (l : List UInt8) : Lib.cut l [10] = match cut10 l with
    | none => (l, [], false)
    | some (a, r) => (a, r, true) := by
  unfold Lib.cut
  rcases index_one 10 l with ⟨h1, h2⟩ | ⟨n, h1, h2, h3, h4⟩
  · rw [h1, if_neg (by omega), cut10_not l h2]
  · have e : l = l.take n ++ 10 :: l.drop (n + 1) := by rw [← h4]; exact (List.take_append_drop n l).symm
    have hc : cut10 l = some (l.take n, l.drop (n + 1)) := by
      conv => lhs; rw [e]
      exact cut10_app _ _ h3
    rw [h1, if_pos (by omega), hc]
    rfl
theorem indexByte_10 : ∀ (l : List UInt8), (Lib.indexByte l 10 = -1 ∧ cut10 l = none) ∨ ∃ a r, Lib.indexByte l 10 = (a.length : Int) ∧ cut10 l = some (a, r)
  | [] => .inl ⟨rfl, rfl⟩
  | b :: l => by
    by_cases h : b = 10
    · subst h
      exact .inr ⟨[], l, by simp [Lib.indexByte], by simp [cut10]⟩
    · have hi : Lib.indexByte (b :: l) 10 = if Lib.indexByte l 10 == -1 then -1 else Lib.indexByte l 10 + 1 := by
        rw [Lib.indexByte, if_neg (by simpa using h)]
      rcases indexByte_10 l with ⟨h1, h2⟩ | ⟨a, r, h1, h3⟩
      · left
        exact ⟨by rw [hi, h1]; rfl, by rw [cut10, if_neg h, h2]; rfl⟩
      · right
        refine ⟨b :: a, r, ?_, ?_⟩
        · rw [hi, h1, if_neg (by simp)]; rfl
        · rw [cut10, if_neg h, h3]; rfl
theorem extract_str (x : ByteArray) (a b : Nat) : x.extract a b = str ((x.data.toList.drop a).take (b - a)) := by
  apply ByteArray.ext
  apply Array.toList_inj.1
  rw [Lib.extract_data]
  rfl
theorem extract_all (x : ByteArray) (a : Nat) : x.extract a x.size = str (x.data.toList.drop a) := by
  rw [extract_str, List.take_of_length_le (by simp)]
theorem extract_pre (x : ByteArray) (a : Nat) : x.extract 0 a = str (x.data.toList.take a) := by
  rw [extract_str, List.drop_zero, Nat.sub_zero]
def takeT (x : ByteArray) (at_ m : Nat) : ByteArray × ByteArray × Bool := match takeL m (x.data.toList.drop at_) with
  | none => (⟨#[]⟩, ⟨#[]⟩, false)
  | some (t, r) => (str (x.data.toList.take at_ ++ t), str r, true)
theorem take_arith (S at_ j i m k q : Nat) (n : Int) (hS : S ≤ 1000000) (hn : n ≤ 9223372036854775807) (h : S - at_ = j + (q + 1)) (h2 : (i : Int) + ((m + 1 : Nat) : Int) = n) (h3 : S - at_ + 2 ≤ k + 1) : at_ + (j + 1) ≤ S ∧ ((i + 1 : Nat) : Int) + (m : Int) = n ∧ S - (at_ + (j + 1)) + 2 ≤ k ∧ at_ + j + 1 ≤ 1000000000 ∧ (i : Int) < 9223372036854775807 := by omega
theorem take_start (S at_ i m k : Nat) (n : Int) (hS : S ≤ 1000000) (h : at_ ≤ S) (h2 : (i : Int) + (m : Int) = n) : 0 ≤ (at_ : Int) ∧ (at_ : Int) ≤ (S : Int) ∧ (m = 0 → ¬ (i : Int) < n) ∧ (m ≠ 0 → (i : Int) < n) := by omega
theorem takeT_succ (x : ByteArray) (at_ m : Nat) (a r : List UInt8) (h : cut10 (x.data.toList.drop at_) = some (a, r)) : takeT x (at_ + (a.length + 1)) m = takeT x at_ (m + 1) := by
  unfold takeT
  generalize x.data.toList = l at h ⊢
  have hd := (cut10_some h).1
  have hr : l.drop (at_ + (a.length + 1)) = r := by
    rw [← List.drop_drop, hd, List.drop_append]
    simp
  have ht : l.take (at_ + (a.length + 1)) = l.take at_ ++ (a ++ [10]) := by
    rw [List.take_add, hd, List.take_append]
    congr 1
    rw [List.take_of_length_le (by omega), show a.length + 1 - a.length = 1 by omega]
    rfl
  rw [hr, ht, takeL, h]
  simp only
  cases takeL m r with
  | none => rfl
  | some p => simp
theorem take_loop (x : ByteArray) (hx : x.size ≤ 1000000) (n : Int) (hn : n ≤ 9223372036854775807) : ∀ (k at_ i m : Nat), at_ ≤ x.size → (i : Int) + m = n → x.size - at_ + 2 ≤ k →
    script_take.l0 k x at_ n i = some (takeT x at_ m)
  | 0, at_, i, m, h1, h2, h3 => absurd h3 (by omega)
  | k + 1, at_, i, m, h1, h2, h3 => by
    obtain ⟨c1, c2, c3, c4⟩ := take_start x.size at_ i m k n hx h1 h2
    rw [script_take.l0]
    cases m with
    | zero =>
      rw [if_neg (c3 rfl), if_pos c1, if_pos c2, extract_all, extract_pre, Int.toNat_natCast]
      show _ = some (str (x.data.toList.take at_ ++ []), str (x.data.toList.drop at_), true)
      rw [List.append_nil]
    | succ m =>
      rw [if_pos (c4 (Nat.succ_ne_zero m)), if_pos c1, if_pos c2, Int.toNat_natCast, extract_all]
      unfold strings_IndexByte.f
      rw [Option.bind_some, str_data, show (10 : Int).toNat.toUInt8 = 10 from rfl]
      rcases indexByte_10 (x.data.toList.drop at_) with ⟨h4, h5⟩ | ⟨a, r, h4, h6⟩
      · rw [h4, if_pos (by decide)]
        unfold takeT
        rw [takeL, h5]
      · have hl : x.size - at_ = a.length + (r.length + 1) := by
          have := congrArg List.length (cut10_some h6).1
          rw [List.length_drop, size_len, List.length_append, List.length_cons] at this
          exact this
        obtain ⟨b1, b2, b3, b4, b5⟩ := take_arith x.size at_ a.length i m k r.length n hx hn hl h2 h3
        rw [h4, if_neg (Int.not_lt.2 (Int.natCast_nonneg _)), wrap_at at_ a.length b4, wrap_one i b5, take_loop x hx n hn k (at_ + (a.length + 1)) (i + 1) m b1 b2 b3, takeT_succ x at_ m a r h6]
theorem take_eval (x : ByteArray) (hx : x.size ≤ 1000000) (m : Nat) (hm : (m : Int) ≤ 9223372036854775807) (k : Nat) (hk : x.size + 2 ≤ k) : script_take.f k x m = some (match takeL m x.data.toList with
    | none => (⟨#[]⟩, ⟨#[]⟩, false)
    | some (t, r) => (str t, str r, true)) := by
  unfold script_take.f
  have := take_loop x hx m hm k 0 0 m (by omega) (by omega) (by omega)
  rw [show ((0 : Nat) : Int) = 0 from rfl] at this
  rw [this]
  rfl

/-! ### Parse -/
theorem mx_nat (n : Int) : mx n 0 = (n.toNat : Int) := by unfold mx; split <;> omega
/-- One round. -/
theorem parse_step (k : Nat) (l : List UInt8) (out : List S31) (at_ : Nat) (hl : l.length ≤ 1000000) (hne : l ≠ []) (hout : out.length < 1000) (hat : at_ ≤ 2000000) (hk : l.length + 3 ≤ k) :
    script_Parse.l0 (k + 1) (str l) out at_ = match oneL l with
      | .err e => some ([], (at_ : Int), e)
      | .ok c n r => script_Parse.l0 k (str r) (out ++ [c]) ((at_ + (1 + n) : Nat) : Int) := by
  rw [script_Parse.l0]
  have h1 : ¬ (str l).toList = [] := by rw [ByteArray.toList_eq]; exact hne
  rw [if_neg h1, if_neg (by omega)]
  have hcut : strings_Cut.f (str l) ⟨#[10]⟩ = some (str (Lib.cut l [10]).1, str (Lib.cut l [10]).2.1, (Lib.cut l [10]).2.2) := by
    unfold strings_Cut.f
    rw [if_pos (by rw [str_size]; omega)]
    rfl
  rw [hcut, Option.bind_some, cut_10]
  unfold oneL
  cases hc : cut10 l with
  | none => rfl
  | some p =>
    obtain ⟨a, r⟩ := p
    have hll := congrArg List.length (cut10_some hc).1
    rw [List.length_append, List.length_cons] at hll
    show (if true = true then _ else _) = _
    rw [if_pos rfl]
    have hh : script_head.f (str a) = some ((headR (str a)).kind, (headR (str a)).name, (headR (str a)).nums, ⟨#[]⟩, (headR (str a)).lines, (headR (str a)).ok) := by
      unfold script_head.f
      rw [if_pos (by rw [str_size]; omega)]
    rw [hh, Option.bind_some]
    simp only
    unfold oneH
    by_cases ho : (headR (str a)).ok = true
    · rw [if_pos ho, if_pos ho, mx_nat]
      have hlt : ((headR (str a)).lines.toNat : Int) ≤ 9223372036854775807 := headR_lines _
      rw [take_eval (str r) (by rw [str_size]; omega) _ hlt k (by rw [str_size]; omega), Option.bind_some, str_data]
      cases ht : takeL (headR (str a)).lines.toNat r with
      | none => rfl
      | some q =>
        obtain ⟨t, r'⟩ := q
        obtain ⟨e1, e2, _⟩ := takeL_some ht
        have hcl : t.count 10 ≤ t.length := List.count_le_length
        have e1l := congrArg List.length e1
        rw [List.length_append] at e1l
        simp only
        rw [if_pos trivial, str_size]
        by_cases hbig : 65536 < t.length
        · rw [if_pos (by omega), if_pos hbig]
        · have e5 : wrap64 ((at_ : Int) + wrap64 (1 + ((headR (str a)).lines.toNat : Int))) = ((at_ + (1 + (headR (str a)).lines.toNat) : Nat) : Int) := wrap_at2 at_ _ (by omega)
          rw [if_neg (by omega), if_neg hbig, if_pos (by omega), e5]
    · rw [if_neg ho, if_neg ho]
/-- Whole commands. -/
theorem parse_steps {l : List UInt8} {cs : List S31} {n : Nat} {r : List UInt8} (h : Steps l cs n r) : ∀ (k : Nat) (out : List S31) (at_ : Nat), l.length ≤ 1000000 → out.length + cs.length ≤ 1000 → at_ + n ≤ 2000000 → l.length + 3 ≤ k →
    script_Parse.l0 (k + cs.length) (str l) out at_ = script_Parse.l0 k (str r) (out ++ cs) ((at_ + n : Nat) : Int) := by
  induction h with
  | nil l =>
    intro k out at_ _ _ _ _
    simp
  | @cons l c n r cs m r' h1 _ ih =>
    intro k out at_ hl hout hat hk
    obtain ⟨p, e1, _, _, s1, n1⟩ := oneL_local h1
    have e2 := congrArg List.length e1
    rw [List.length_append] at e2
    rw [List.length_cons] at hout
    rw [List.length_cons, ← Nat.add_assoc, parse_step _ l out at_ hl (by rintro rfl; simp at e2; omega) (by omega) (by omega) (by omega), h1]
    simp only
    rw [ih k (out ++ [c]) (at_ + (1 + n)) (by omega) (by simp; omega) (by omega) (by omega)]
    congr 1
    · simp
    · omega
/-- What Parse returns of a text. -/
theorem parse_ok (l : List UInt8) (cs : List S31) (n : Nat) (h : Steps l cs n []) (hl : l.length ≤ 1000000) (hcs : cs.length ≤ 1000) (k : Nat) (hk : l.length + 4 + cs.length ≤ k) : script_Parse.f k (str l) = some (cs, 0, 0) := by
  obtain ⟨p, e1, _, _, _, n1⟩ := steps_local h
  rw [List.append_nil] at e1
  subst e1
  unfold script_Parse.f
  obtain ⟨k', rfl⟩ : ∃ k', k = k' + 1 + cs.length := ⟨k - cs.length - 1, by omega⟩
  have := parse_steps h (k' + 1) [] 1 hl (by simpa using hcs) (by omega) (by omega)
  rw [show ((1 : Nat) : Int) = 1 from rfl] at this
  rw [this, script_Parse.l0, if_pos (by rw [ByteArray.toList_eq]; rfl)]
  rfl
theorem parse_err (l : List UInt8) (cs : List S31) (n : Nat) (r : List UInt8) (e : Int) (h : Steps l cs n r) (hr : r ≠ []) (he : oneL r = .err e) (hl : l.length ≤ 1000000) (hcs : cs.length < 1000) (k : Nat) (hk : l.length + 4 + cs.length ≤ k) : script_Parse.f k (str l) = some ([], ((1 + n : Nat) : Int), e) := by
  obtain ⟨p, e1, _, _, _, n1⟩ := steps_local h
  have e2 := congrArg List.length e1
  rw [List.length_append] at e2
  unfold script_Parse.f
  obtain ⟨k', rfl⟩ : ∃ k', k = k' + 1 + cs.length := ⟨k - cs.length - 1, by omega⟩
  have := parse_steps h (k' + 1) [] 1 hl (by simp; omega) (by omega) (by omega)
  rw [show ((1 : Nat) : Int) = 1 from rfl] at this
  rw [this, parse_step k' r _ (1 + n) (by omega) hr (by simpa using hcs) (by omega) (by omega), he]
theorem parse_full (l : List UInt8) (cs : List S31) (n : Nat) (r : List UInt8) (h : Steps l cs n r) (hr : r ≠ []) (hl : l.length ≤ 1000000) (hcs : cs.length = 1000) (k : Nat) (hk : l.length + 4 + cs.length ≤ k) : script_Parse.f k (str l) = some ([], ((1 + n : Nat) : Int), 5) := by
  obtain ⟨p, e1, _, _, _, n1⟩ := steps_local h
  have e2 := congrArg List.length e1
  rw [List.length_append] at e2
  unfold script_Parse.f
  obtain ⟨k', rfl⟩ : ∃ k', k = k' + 1 + cs.length := ⟨k - cs.length - 1, by omega⟩
  have := parse_steps h (k' + 1) [] 1 hl (by simp; omega) (by omega) (by omega)
  rw [show ((1 : Nat) : Int) = 1 from rfl] at this
  have h1 : ¬ (str r).toList = [] := by rw [ByteArray.toList_eq]; exact hr
  rw [this, script_Parse.l0, if_neg h1, if_pos (by simp; omega)]
end Go.Proofs.YtmciflmlpnpkaaaDoor.Pa

namespace Go.Proofs.YtmciflmlpnpkaaaDoor.Pa
open Go.RowKit Go.Proofs.YtmciflmlpnpkaaaDoorW.PrintWords Go.Proofs.YtmciflmlpnpkaaaDoorW.PrintLast Go.Proofs.YtmciflmlpnpkaaaDoorW.PrintMore
set_option linter.unusedVariables false
set_option linter.unusedSimpArgs false
set_option maxRecDepth 100000
def aw0 : List UInt8 := [115, 111, 117, 114, 99, 101, 32, 49, 10, 115, 104, 97, 114, 101, 100, 32, 115, 91, 50, 93, 59, 10, 114, 117, 110, 32, 52, 48, 10, 115, 104, 111, 119, 32, 116, 10]
def aw1 : List UInt8 := [114, 117, 110, 32, 52, 48, 10, 115, 104, 111, 119, 32, 116, 10]
def aw2 : List UInt8 := [115, 104, 111, 119, 32, 116, 10]
theorem aw0_one : oneL aw0 = .ok ⟨1, ⟨#[]⟩, [], ⟨#[115, 104, 97, 114, 101, 100, 32, 115, 91, 50, 93, 59, 10]⟩⟩ 1 aw1 := by kernel_rfl
theorem aw1_one : oneL aw1 = .ok ⟨8, ⟨#[]⟩, [40], ⟨#[]⟩⟩ 0 aw2 := by kernel_rfl
theorem aw2_one : oneL aw2 = .ok ⟨11, ⟨#[116]⟩, [], ⟨#[]⟩⟩ 0 [] := by kernel_rfl
theorem aw_steps : Steps aw0 [⟨1, ⟨#[]⟩, [], ⟨#[115, 104, 97, 114, 101, 100, 32, 115, 91, 50, 93, 59, 10]⟩⟩, ⟨8, ⟨#[]⟩, [40], ⟨#[]⟩⟩, ⟨11, ⟨#[116]⟩, [], ⟨#[]⟩⟩] 4 [] := .cons aw0_one (.cons aw1_one (.cons aw2_one (.nil _)))
theorem eq_loop (a b : List Int) (hl : a.length = b.length) (hn : a.length ≤ 1000000) : ∀ (k d j : Nat), j + d = a.length → d + 1 ≤ k → slices_Equal_int_int.l0 k a b (a.length : Int) (j : Int) = some (decide (a.drop j = b.drop j))
  | 0, d, j, h1, h2 => absurd h2 (by omega)
  | k + 1, d, j, h1, h2 => by
    rw [slices_Equal_int_int.l0]
    by_cases hlt : j < a.length
    · have hb : j < b.length := by omega
      have e1 : rd a (j : Int) = a[j] := by simp [rd, List.getD_eq_getElem?_getD, hlt]
      have e2 : rd b (j : Int) = b[j] := by simp [rd, List.getD_eq_getElem?_getD, hb]
      rw [if_pos (by omega), if_pos (by omega), if_pos (by omega), if_pos (by omega)]
      rw [e1, e2, List.drop_eq_getElem_cons hlt, List.drop_eq_getElem_cons hb, wrap_one j (by omega), eq_loop a b hl hn k (d - 1) (j + 1) (by omega) (by omega)]
      by_cases h : a[j] = b[j]
      · rw [if_pos h, h]
        simp only [List.cons.injEq, true_and]
      · rw [if_neg h, decide_eq_false]
        intro e
        injection e with e _
        exact h e
    · rw [if_neg (by omega), List.drop_of_length_le (by omega), List.drop_of_length_le (by omega)]
      simp
theorem eq_eval (a b : List Int) (hn : a.length ≤ 1000000) (k : Nat) (hk : a.length + 1 ≤ k) : slices_Equal_int_int.f k a b = some (decide (a = b)) := by
  unfold slices_Equal_int_int.f
  by_cases hl : a.length = b.length
  · rw [if_pos (by omega)]
    have := eq_loop a b hl hn k a.length 0 (by omega) hk
    simpa using this
  · rw [if_neg (by omega), decide_eq_false (fun e => hl (by rw [e]))]
theorem awake_pos (k : Nat) (hk : 100 ≤ k) : ontimelaw51_awake.f k = some true := by
  have h := parse_ok aw0 _ _ aw_steps (by decide) (by decide) k (by show 36 + 4 + 3 ≤ k; omega)
  unfold ontimelaw51_awake.f
  show (script_Parse.f k (str aw0)).bind _ = _
  rw [h, Option.bind_some]
  have he : slices_Equal_int_int.f k [40] [40] = some true := eq_eval _ _ (by decide) k (by show 2 ≤ k; omega)
  have e0 : rd_T31 [(⟨1, ⟨#[]⟩, [], ⟨#[115, 104, 97, 114, 101, 100, 32, 115, 91, 50, 93, 59, 10]⟩⟩ : S31), ⟨8, ⟨#[]⟩, [40], ⟨#[]⟩⟩, ⟨11, ⟨#[116]⟩, [], ⟨#[]⟩⟩] 1 = ⟨8, ⟨#[]⟩, [40], ⟨#[]⟩⟩ := rfl
  simp only []
  rw [if_pos trivial, if_pos trivial, if_pos (by rfl), if_pos (by decide), if_pos (by rw [ByteArray.toList_eq]; rfl), if_pos (by decide), e0, if_pos rfl, he, Option.bind_some, if_pos rfl, if_pos (by decide)]
  congr 1
  rw [ByteArray.toList_eq]
  rfl
end Go.Proofs.YtmciflmlpnpkaaaDoor.Pa

