import Derived.Test.YtmciflmlpnpkaaaDoorQ4a
import Derived.Test.YtmciflmlpnpkaaaDoorPbx2
import Derived.Test.YtmciflmlpnpkaaaDoorN2
namespace Go.Proofs.YtmciflmlpnpkaaaDoor.Pa
open Go.RowKit Go.Proofs.YtmciflmlpnpkaaaDoorW.PrintWords Go.Proofs.YtmciflmlpnpkaaaDoorW.PrintLast Go.Proofs.YtmciflmlpnpkaaaDoorW.PrintMore
set_option linter.unusedVariables false
set_option linter.unusedSimpArgs false

/-! ### numbers -/
theorem numB_itoa {x : List UInt8} (h : numB x = true) : ∃ v : Int, -9223372036854775808 ≤ v ∧ v ≤ 9223372036854775807 ∧ Lib.itoa v = x ∧ numV x = v := by
  unfold numB at h
  unfold numV
  cases hh : Lib.atoiAll x
  all_goals rw [hh] at h
  all_goals first
    | exact ⟨_, (Lib.atoiAll_bounds hh).1, (Lib.atoiAll_bounds hh).2, of_decide_eq_true h, rfl⟩
    | cases h
theorem numB_of (v : Int) (h0 : -9223372036854775808 ≤ v) (h1 : v ≤ 9223372036854775807) : numB (Lib.itoa v) = true ∧ numV (Lib.itoa v) = v := by
  unfold numB numV
  rw [Num.atoi_itoa v h0 h1]
  exact ⟨decide_eq_true rfl, rfl⟩
theorem numB_false {x : List UInt8} (h : ∀ v : Int, -9223372036854775808 ≤ v → v ≤ 9223372036854775807 → Lib.itoa v ≠ x) : numB x = false := by
  cases hb : numB x with
  | false => rfl
  | true =>
    obtain ⟨v, h0, h1, h2, _⟩ := numB_itoa hb
    exact absurd h2 (h v h0 h1)
theorem itoa_not (n : Int) (b : UInt8) (h1 : b ≠ 45) (h2 : b.toNat < 48 ∨ 57 < b.toNat) : b ∉ Lib.itoa n := fun h => Num.itoa_mem n b h h1 h2

/-! ### the parts of a line -/
theorem pieces_of (s : ByteArray) : piecesB s = (partsL 32 s.data.toList).map str := by
  rw [← pieces_parts s, List.map_map]
  have : (str ∘ fun x : ByteArray => x.data.toList) = id := by
    funext x
    rfl
  rw [this, List.map_id]
theorem partsL_len (c : UInt8) : ∀ l : List UInt8, (partsL c l).length = l.count c + 1
  | [] => rfl
  | b :: l => by
    have ih := partsL_len c l
    rw [partsL]
    by_cases h : b = c
    · subst h
      rw [if_pos rfl, List.length_cons, ih, List.count_cons_self]
    · rw [if_neg h, List.count_cons_of_ne h, ← ih]
      cases hp : partsL c l with
      | nil => exact absurd hp (partsL_ne c l)
      | cons x xs => rfl
theorem kind_run : kindI [114, 117, 110] = 7 := by decide
def runL : List UInt8 := [114, 117, 110, 32]
theorem run_head (x : List UInt8) : headR (str (runL ++ x)) = finR ⟨[114, 117, 110], false, false, 1, 1⟩ 8 ⟨#[]⟩ ((partsL 32 x).map str) := by
  have e : partsL 32 (runL ++ x) = [114, 117, 110] :: partsL 32 x := partsL_cut 32 [114, 117, 110] x (by decide)
  unfold headR
  rw [pieces_of, str_data, e]
  show (if kindI [114, 117, 110] < 0 then noneR else nameR (shapesL.getD (kindI [114, 117, 110]).toNat shp0) (1 + kindI [114, 117, 110]) ((partsL 32 x).map str)) = _
  rw [kind_run]
  rfl
theorem run_line (x : List UInt8) (h10 : (10 : UInt8) ∉ x) : oneL (runL ++ x ++ [10]) = oneH (headR (str (runL ++ x))) [] := by
  unfold oneL
  have h : (10 : UInt8) ∉ runL ++ x := by
    rw [List.mem_append]
    rintro (h | h)
    · exact absurd h (by decide)
    · exact h10 h
  rw [cut10_app _ [] h]
theorem run_good (x : List UInt8) (h10 : (10 : UInt8) ∉ x) (h32 : (32 : UInt8) ∉ x) (hb : numB x = true) : oneL (runL ++ x ++ [10]) = .ok ⟨8, ⟨#[]⟩, [numV x], ⟨#[]⟩⟩ 0 [] := by
  rw [run_line x h10, run_head, partsL_none 32 x h32]
  show oneH (finR ⟨[114, 117, 110], false, false, 1, 1⟩ 8 ⟨#[]⟩ [str x]) [] = _
  unfold finR
  rw [if_neg (by simp), if_neg (by simp), numsR_yes _ _ _ _ _ (by rw [str_data]; exact hb), numsR_nil]
  rfl
theorem run_bad (x : List UInt8) (h10 : (10 : UInt8) ∉ x) (h : (32 : UInt8) ∉ x → numB x = false) : oneL (runL ++ x ++ [10]) = .err 3 := by
  rw [run_line x h10, run_head]
  by_cases h32 : (32 : UInt8) ∈ x
  · have hl := partsL_len 32 x
    have hc : 0 < x.count 32 := List.count_pos_iff.2 h32
    unfold finR
    rw [if_neg (by simp), if_pos (by right; rw [List.length_map, hl]; simp only []; omega)]
    rfl
  · rw [partsL_none 32 x h32]
    show oneH (finR ⟨[114, 117, 110], false, false, 1, 1⟩ 8 ⟨#[]⟩ [str x]) [] = _
    unfold finR
    rw [if_neg (by simp), if_neg (by simp), numsR_no _ _ _ _ _ (by rw [str_data]; exact h h32)]
    rfl

/-! ### the spellings that are refused -/
structure Bad (y : ByteArray) : Prop where
  size : y.size ≤ 1000
  line : (10 : UInt8) ∉ y.data.toList
  num : (32 : UInt8) ∉ y.data.toList → numB y.data.toList = false
theorem bad_parse (y : ByteArray) (h : Bad y) (k : Nat) (hk : 1010 ≤ k) : script_Parse.f k (((⟨#[114, 117, 110, 32]⟩ : ByteArray) ++ y) ++ (⟨#[10]⟩ : ByteArray)) = some ([], 1, 3) := by
  have e : ((⟨#[114, 117, 110, 32]⟩ : ByteArray) ++ y) ++ (⟨#[10]⟩ : ByteArray) = str (runL ++ y.data.toList ++ [10]) := by
    rw [← str_append, ← str_append, str_of]
    rfl
  have hl : (runL ++ y.data.toList ++ [10]).length = y.size + 5 := by
    have := size_len y
    simp only [List.length_append, this]
    show 4 + y.size + 1 = _
    omega
  rw [e, parse_err _ [] 0 _ 3 (.nil _) (by simp [runL]) (run_bad _ h.line h.num) (by have := h.size; omega) (by simp) k (by have := h.size; simp only [List.length_nil]; omega)]
  rfl
theorem nums_loop (ys : List ByteArray) (hy : ∀ y ∈ ys, Bad y) (hn : ys.length ≤ 1000) : ∀ (k d j : Nat), j + d = ys.length → d + 1011 ≤ k → ontimelaw51_ScriptNumbers.l0 k ys (ys.length : Int) (j : Int) = some true
  | 0, d, j, h1, h2 => absurd h2 (by omega)
  | k + 1, d, j, h1, h2 => by
    rw [ontimelaw51_ScriptNumbers.l0]
    by_cases hlt : j < ys.length
    · have e : rdOf ByteArray.empty ys (j : Int) = ys[j] := by simp [rdOf, List.getD_eq_getElem?_getD, hlt]
      have hb := hy ys[j] (List.getElem_mem hlt)
      have hs := hb.size
      rw [if_pos (by omega), if_pos (by omega), if_pos (by omega), e, if_pos (by omega), if_pos (by rw [ByteArray.size_append]; show 4 + ys[j].size + 1 ≤ _; omega), bad_parse _ hb k (by omega), Option.bind_some, if_pos rfl, if_pos rfl, wrap_one j (by omega), nums_loop ys hy hn k (d - 1) (j + 1) (by omega) (by omega)]
    · rw [if_neg (by omega)]
theorem trim_mem (l : List UInt8) (b : UInt8) (h : b ∈ Lib.trimPrefix l [45]) : b ∈ l := by
  unfold Lib.trimPrefix at h
  split at h
  · exact List.mem_of_mem_drop h
  · exact h
theorem trim_len (l : List UInt8) : (Lib.trimPrefix l [45]).length ≤ l.length := by
  unfold Lib.trimPrefix
  split
  · rw [List.length_drop]; omega
  · omega
theorem repeat_mem (b : UInt8) : ∀ (n : Nat) (c : UInt8), c ∈ Lib.repeatL [b] n → c = b
  | 0, c, h => by simp [Lib.repeatL] at h
  | n + 1, c, h => by
    rw [Lib.repeatL] at h
    rcases List.mem_append.1 h with h | h
    · simpa using h
    · exact repeat_mem b n c h
theorem bad_str (l : List UInt8) (h1 : l.length ≤ 1000) (h2 : (10 : UInt8) ∉ l) (h3 : (32 : UInt8) ∉ l → numB l = false) : Bad (str l) := ⟨h1, h2, h3⟩
theorem bad_nines (m : Nat) (h0 : 20 ≤ m) (h1 : m ≤ 60) : Bad (str (Lib.repeatL [57] m)) := by
  have hl := Lib.repeatL_length [57] m
  have he : Lib.repeatL [57] m = List.replicate m 57 := by
    have := Lib.repeatL_replicate 57 1 m
    rw [Nat.mul_one] at this
    exact this
  refine bad_str _ (by rw [hl]; simp; omega) (fun h => absurd (repeat_mem 57 m _ h) (by decide)) (fun _ => numB_false fun v a b e => ?_)
  rw [he] at e
  exact Num.itoa_long v a b m h0 e
theorem bad_dash (m : Nat) (h1 : m ≤ 60) : Bad (str (([45] ++ Lib.repeatL [45] m) ++ [120])) := by
  have hl := Lib.repeatL_length [45] m
  refine bad_str _ (by simp [hl]; omega) (fun h => ?_) (fun _ => numB_false fun v a b e => ?_)
  · rcases List.mem_append.1 h with h | h
    · rcases List.mem_append.1 h with h | h
      · exact absurd h (by decide)
      · exact absurd (repeat_mem 45 m _ h) (by decide)
    · exact absurd h (by decide)
  · exact itoa_not v 120 (by decide) (by decide) (by rw [e]; simp)
theorem bad_nil : Bad (str []) := bad_str _ (by simp) (by simp) (fun _ => numB_false fun v _ _ e => Num.itoa_ne v e)
section
variable (n : Int) (hlen : (Lib.itoa n).length ≤ 21)
include hlen
theorem bad_zero : Bad (str ([48] ++ Lib.itoa n)) := by
  refine bad_str _ (by simp; omega) (fun h => ?_) (fun _ => numB_false fun v a b e => ?_)
  · rcases List.mem_append.1 h with h | h
    · exact absurd h (by decide)
    · exact itoa_not n 10 (by decide) (by decide) h
  · exact Num.itoa_ne n (Num.itoa_zero v _ e)
theorem bad_plus : Bad (str ([43] ++ Lib.itoa n)) := by
  refine bad_str _ (by simp; omega) (fun h => ?_) (fun _ => numB_false fun v a b e => ?_)
  · rcases List.mem_append.1 h with h | h
    · exact absurd h (by decide)
    · exact itoa_not n 10 (by decide) (by decide) h
  · exact itoa_not v 43 (by decide) (by decide) (by rw [e]; simp)
theorem bad_minus : Bad (str ([45, 48] ++ Lib.trimPrefix (Lib.itoa n) [45])) := by
  have := trim_len (Lib.itoa n)
  refine bad_str _ (by simp; omega) (fun h => ?_) (fun _ => numB_false fun v a b e => ?_)
  · rcases List.mem_append.1 h with h | h
    · exact absurd h (by decide)
    · exact itoa_not n 10 (by decide) (by decide) (trim_mem _ _ h)
  · exact Num.itoa_minus_zero v _ e
theorem bad_behind : Bad (str (Lib.itoa n ++ [32])) := by
  refine bad_str _ (by simp; omega) (fun h => ?_) (fun h => absurd (by simp) h)
  rcases List.mem_append.1 h with h | h
  · exact itoa_not n 10 (by decide) (by decide) h
  · exact absurd h (by decide)
theorem bad_ahead : Bad (str ([32] ++ Lib.itoa n)) := by
  refine bad_str _ (by simp; omega) (fun h => ?_) (fun h => absurd (by simp) h)
  rcases List.mem_append.1 h with h | h
  · exact absurd h (by decide)
  · exact itoa_not n 10 (by decide) (by decide) h
theorem bad_dot : Bad (str (Lib.itoa n ++ [46])) := by
  refine bad_str _ (by simp; omega) (fun h => ?_) (fun _ => numB_false fun v a b e => ?_)
  · rcases List.mem_append.1 h with h | h
    · exact itoa_not n 10 (by decide) (by decide) h
    · exact absurd h (by decide)
  · exact itoa_not v 46 (by decide) (by decide) (by rw [e]; simp)
end
theorem wrap_byte (a : Int) (h0 : 0 ≤ a) (h1 : a < 256) : wrap64 a = a := by unfold wrap64; omega
theorem tmod_range (a : Int) (h0 : 0 ≤ a) (h1 : a < 256) : (∃ m : Nat, Int.tmod a 3 = (m : Int) ∧ m ≤ 2) ∧ (∃ m : Nat, wrap64 (20 + Int.tmod a 30) = (m : Int) ∧ 20 ≤ m ∧ m ≤ 60) := by
  rw [Int.tmod_eq_emod_of_nonneg h0, Int.tmod_eq_emod_of_nonneg h0]
  constructor
  · exact ⟨(a % 3).toNat, by omega, by omega⟩
  · refine ⟨(20 + a % 30).toNat, ?_, by omega, by omega⟩
    unfold wrap64
    omega
theorem numbers_tail (n lead : Int) (hlen : (Lib.itoa n).length ≤ 21) (h2 : 0 ≤ lead) (h3 : lead < 256) (k : Nat) (hk : 3000 ≤ k) : ontimelaw51_ScriptNumbers.j0 k lead (str (Lib.itoa n)) false = some true := by
  obtain ⟨⟨m3, e3, b3⟩, ⟨m30, e30, b30, c30⟩⟩ := tmod_range lead h2 h3
  obtain ⟨k, rfl⟩ : ∃ k', k = k' + 1 := ⟨k - 1, by omega⟩
  have htl := trim_len (Lib.itoa n)
  have hr3 := Lib.repeatL_length [45] m3
  have f1 : strings_TrimPrefix.f (str (Lib.itoa n)) ⟨#[45]⟩ = some (str (Lib.trimPrefix (Lib.itoa n) [45])) := rfl
  have f2 : strings_Repeat.f ⟨#[45]⟩ (m3 : Int) = some (str (Lib.repeatL [45] m3)) := by
    unfold strings_Repeat.f
    rw [if_pos ⟨by omega, by omega, by show 1 ≤ 1000; omega⟩, Int.toNat_natCast]
  have f3 : strings_Repeat.f ⟨#[57]⟩ (m30 : Int) = some (str (Lib.repeatL [57] m30)) := by
    unfold strings_Repeat.f
    rw [if_pos ⟨by omega, by omega, by show 1 ≤ 1000; omega⟩, Int.toNat_natCast]
  rw [ontimelaw51_ScriptNumbers.j0, if_neg (by simp), if_pos (by rw [str_size]; omega), f1, Option.bind_some, if_pos (by rw [str_size]; omega), if_pos (by rw [str_size]; omega), wrap_byte lead h2 h3, e3, f2, Option.bind_some,
    if_pos (by rw [str_size, hr3]; simp; omega), if_pos (by rw [ByteArray.size_append, str_size, hr3]; show 1 + m3 * 1 + 1 ≤ _; omega), e30, f3, Option.bind_some, Option.bind_some]
  have key := nums_loop [str ([48] ++ Lib.itoa n), str ([43] ++ Lib.itoa n), str ([45, 48] ++ Lib.trimPrefix (Lib.itoa n) [45]), str (Lib.itoa n ++ [32]), str ([32] ++ Lib.itoa n), str (Lib.itoa n ++ [46]), str (([45] ++ Lib.repeatL [45] m3) ++ [120]), str (Lib.repeatL [57] m30), str []] (by
    intro y hy
    simp only [List.mem_cons, List.not_mem_nil, or_false] at hy
    rcases hy with rfl | rfl | rfl | rfl | rfl | rfl | rfl | rfl | rfl
    · exact bad_zero n hlen
    · exact bad_plus n hlen
    · exact bad_minus n hlen
    · exact bad_behind n hlen
    · exact bad_ahead n hlen
    · exact bad_dot n hlen
    · exact bad_dash m3 (by omega)
    · exact bad_nines m30 b30 c30
    · exact bad_nil) (by simp) k 9 0 rfl (by omega)
  simp only [← str_append] at key
  exact key
theorem ScriptNumbers_pure (n lead : Int) (h0 : -9223372036854775808 ≤ n) (h1 : n ≤ 9223372036854775807) (h2 : 0 ≤ lead) (h3 : lead < 256) : ∃ k, ontimelaw51_ScriptNumbers.f k n lead = some true := by
  refine ⟨5000, ?_⟩
  have hlen := Lib.itoa_length_le n h0 h1
  have hnum : ontimeref51_Number.f 5000 n = some (str (Lib.itoa n)) := raise_to (fun k => ontimeref51_Number.f k n) (ontimeref51_Number.mono n) (number_eval n h0 h1) 5000 (by omega)
  have hgood := run_good (Lib.itoa n) (itoa_not n 10 (by decide) (by decide)) (itoa_not n 32 (by decide) (by decide)) (numB_of n h0 h1).1
  rw [(numB_of n h0 h1).2] at hgood
  have e : ((⟨#[114, 117, 110, 32]⟩ : ByteArray) ++ str (Lib.itoa n)) ++ (⟨#[10]⟩ : ByteArray) = str (runL ++ Lib.itoa n ++ [10]) := by
    rw [← str_append, ← str_append]
    rfl
  have hp := parse_ok (runL ++ Lib.itoa n ++ [10]) _ _ (.cons hgood (.nil _)) (by simp [runL]; omega) (by simp) 5000 (by simp [runL]; omega)
  unfold ontimelaw51_ScriptNumbers.f
  rw [awake_pos 5000 (by omega), Option.bind_some, if_pos rfl, hnum, Option.bind_some, if_pos (by rw [str_size]; omega), if_pos (by rw [ByteArray.size_append, str_size]; show 4 + _ + 1 ≤ _; omega), e, hp, Option.bind_some]
  have e0 : rd_T31 [(⟨8, ⟨#[]⟩, [n], ⟨#[]⟩⟩ : S31)] 0 = ⟨8, ⟨#[]⟩, [n], ⟨#[]⟩⟩ := rfl
  rw [if_pos rfl, if_pos (by rfl), if_pos (by simp)]
  show (slices_Equal_int_int.f 5000 (rd_T31 [(⟨8, ⟨#[]⟩, [n], ⟨#[]⟩⟩ : S31)] 0).f2 [n]).bind _ = _
  rw [e0, eq_eval [n] [n] (by simp) 5000 (by simp), Option.bind_some, decide_eq_true rfl]
  exact numbers_tail n lead hlen h2 h3 5000 (by omega)
end Go.Proofs.YtmciflmlpnpkaaaDoor.Pa
