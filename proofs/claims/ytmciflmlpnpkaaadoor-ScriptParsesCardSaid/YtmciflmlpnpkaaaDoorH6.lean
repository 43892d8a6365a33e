import Derived.Test.YtmciflmlpnpkaaaDoorH5
import Derived.Lib.Split
import Derived.Lib.CountLaws
namespace Go.Proofs.YtmciflmlpnpkaaaDoor.Pa
open Go.RowKit Go.Proofs.YtmciflmlpnpkaaaDoorW.PrintWords Go.Proofs.YtmciflmlpnpkaaaDoorW.PrintLast Go.Proofs.YtmciflmlpnpkaaaDoorW.PrintMore
set_option linter.unusedVariables false
set_option linter.unusedSimpArgs false

/-! ### one byte sought in a text -/
theorem index_one (c : UInt8) : ∀ l : List UInt8, (Lib.index l [c] = -1 ∧ c ∉ l) ∨ ∃ n : Nat, Lib.index l [c] = (n : Int) ∧ n < l.length ∧ c ∉ l.take n ∧ l.drop n = c :: l.drop (n + 1)
  | [] => by left; simp [Lib.index]
  | b :: l => by
    by_cases h : b = c
    · subst h
      right
      refine ⟨0, ?_, by simp, by simp, by simp⟩
      rw [Lib.index]; simp [List.isPrefixOf]
    · have hp : ([c] : List UInt8).isPrefixOf (b :: l) = false := by simp [List.isPrefixOf, Ne.symm h]
      have hix : Lib.index (b :: l) [c] = if Lib.index l [c] == -1 then -1 else Lib.index l [c] + 1 := by rw [Lib.index, hp]; simp
      rcases index_one c l with ⟨h1, h2⟩ | ⟨n, h1, h2, h3, h4⟩
      · left
        exact ⟨by rw [hix, h1]; rfl, by simp [h2, Ne.symm h]⟩
      · right
        refine ⟨n + 1, ?_, by simp; omega, ?_, ?_⟩
        · rw [hix, h1, if_neg (by simp)]; rfl
        · rw [List.take_succ_cons]; simp [h3, Ne.symm h]
        · rw [List.drop_succ_cons, h4, List.drop_succ_cons]

/-! ### the parts of a line -/
def partsL (c : UInt8) : List UInt8 → List (List UInt8)
  | [] => [[]]
  | b :: l => if b = c then [] :: partsL c l else match partsL c l with | x :: xs => (b :: x) :: xs | [] => [[b]]
theorem partsL_ne (c : UInt8) (l : List UInt8) : partsL c l ≠ [] := by
  cases l with
  | nil => simp [partsL]
  | cons b l =>
    unfold partsL
    split
    · simp
    · split <;> simp
theorem partsL_none (c : UInt8) : ∀ l : List UInt8, c ∉ l → partsL c l = [l]
  | [], _ => rfl
  | b :: l, h => by
    have h1 : ¬ b = c := fun e => h (by simp [e])
    rw [partsL, if_neg h1, partsL_none c l (fun hh => h (List.mem_cons_of_mem _ hh))]
theorem partsL_cut (c : UInt8) : ∀ (a l : List UInt8), c ∉ a → partsL c (a ++ c :: l) = a :: partsL c l
  | [], l, _ => by simp [partsL]
  | b :: a, l, h => by
    have h1 : ¬ b = c := fun e => h (by simp [e])
    rw [List.cons_append, partsL, if_neg h1, partsL_cut c a l (fun hh => h (List.mem_cons_of_mem _ hh))]
theorem split_parts (c : UInt8) : ∀ (k : Nat) (l : List UInt8), Lib.count l [c] = k → Lib.splitK [c] 0 k l = partsL c l
  | 0, l, hk => by
    have : c ∉ l := by
      rw [Lib.count_one] at hk
      exact List.count_eq_zero.1 hk
    rw [Lib.splitK, partsL_none c l this]
  | k + 1, l, hk => by
    rw [Lib.splitK]
    rcases index_one c l with ⟨h1, h2⟩ | ⟨n, h1, h2, h3, h4⟩
    · exfalso
      rw [Lib.count_one, List.count_eq_zero.2 h2] at hk
      omega
    · have e : l = l.take n ++ c :: l.drop (n + 1) := by rw [← h4]; exact (List.take_append_drop n l).symm
      have hc : Lib.count (l.drop (n + 1)) [c] = k := by
        rw [Lib.count_one] at hk ⊢
        rw [e, List.count_append, List.count_cons_self, List.count_eq_zero.2 h3] at hk
        omega
      rw [h1, if_neg (by simp)]
      simp only [Int.toNat_natCast, Nat.add_zero, List.length_singleton]
      rw [split_parts c k _ hc, ← partsL_cut c _ _ h3, ← e]
def piecesB (s : ByteArray) : List ByteArray := Lib.splitB ⟨#[32]⟩ 0 (Lib.countB s ⟨#[32]⟩) s
theorem pieces_parts (s : ByteArray) : (piecesB s).map (·.data.toList) = partsL 32 s.data.toList := by
  unfold piecesB
  rw [Lib.splitB_data]
  exact split_parts 32 _ _ rfl
theorem splitB_small (sep : ByteArray) : ∀ (k : Nat) (s : ByteArray), ∀ x ∈ Lib.splitB sep 0 k s, x.size ≤ s.size
  | 0, s, x, h => by
    simp only [Lib.splitB, List.mem_singleton] at h
    subst h
    exact Nat.le_refl _
  | k + 1, s, x, h => by
    unfold Lib.splitB at h
    split at h
    · simp only [List.mem_singleton] at h
      subst h
      exact Nat.le_refl _
    · rcases List.mem_cons.1 h with rfl | h
      · rw [ByteArray.size_extract]; omega
      · have := splitB_small sep k _ x h
        rw [ByteArray.size_extract] at this
        omega
theorem piece_small (s : ByteArray) (hs : s.size ≤ 1000000) : ∀ x ∈ piecesB s, x.size ≤ 1000000 := fun x hx => Nat.le_trans (splitB_small _ _ s x hx) hs
theorem split_calls (s : ByteArray) (w : World) (hs : s.size ≤ 1000000) (hE : EnvW w) :
    Calls Tryd.prog 46 #[.string s, .string ⟨#[32]⟩] w fun e w' => e = .returned (.slice (some ⟨w.heap.size, 0, none⟩) (piecesB s).length (piecesB s).length) ∧ w' = w.alloc (.cells ((piecesB s).map Value.string).toArray 9) := by
  obtain ⟨m, hm⟩ := hE.maxLen
  have hl : (piecesB s).length = Lib.countB s ⟨#[32]⟩ + 1 := Lib.splitB_all _ (by decide) 0 _ s rfl
  rw [hl]
  exact Tryd.strings_Split s ⟨#[32]⟩ m w (by omega) hm (by decide)
theorem pieces_len (s : ByteArray) (hs : s.size ≤ 1000000) : 1 ≤ (piecesB s).length ∧ (piecesB s).length ≤ 1000001 := by
  have h1 : (piecesB s).length = Lib.countB s ⟨#[32]⟩ + 1 := Lib.splitB_all _ (by decide) 0 _ s rfl
  have h2 := Lib.countB_le ⟨#[32]⟩ (by decide) s.size s (Nat.le_refl _)
  omega

/-! ### the first line of a command -/
structure HeadR where
  kind : Int
  name : ByteArray
  nums : List Int
  lines : Int
  ok : Bool
def noneR : HeadR := ⟨0, ⟨#[]⟩, [], 0, false⟩
def numsO : List ByteArray → Option (List Int)
  | [] => some []
  | x :: l => if numB x.data.toList = true then (numsO l).map (numV x.data.toList :: ·) else none
def numsR (k : Int) (nm : ByteArray) (acc : List Int) (l : List ByteArray) : HeadR := match numsO l with
  | some ns => ⟨k, nm, acc ++ ns, -1, true⟩
  | none => noneR
theorem numsR_nil (k : Int) (nm : ByteArray) (acc : List Int) : numsR k nm acc [] = ⟨k, nm, acc, -1, true⟩ := by simp [numsR, numsO]
theorem numsR_yes (k : Int) (nm : ByteArray) (acc : List Int) (x : ByteArray) (l : List ByteArray) (h : numB x.data.toList = true) : numsR k nm acc (x :: l) = numsR k nm (acc ++ [numV x.data.toList]) l := by
  simp only [numsR, numsO, h, if_true]
  cases numsO l <;> simp
theorem numsR_no (k : Int) (nm : ByteArray) (acc : List Int) (x : ByteArray) (l : List ByteArray) (h : numB x.data.toList = false) : numsR k nm acc (x :: l) = noneR := by
  simp [numsR, numsO, h]
def textR (k : Int) (nm : ByteArray) (l : List ByteArray) : HeadR := match l with
  | [x] => ⟨k, nm, [], numV x.data.toList, numB x.data.toList && decide (0 ≤ numV x.data.toList)⟩
  | _ => noneR
def finR (s : Shp) (k : Int) (nm : ByteArray) (l : List ByteArray) : HeadR :=
  if s.text = true then textR k nm l
  else if (l.length : Int) < s.least ∨ s.most < (l.length : Int) then noneR
  else numsR k nm [] l
def nameR (s : Shp) (k : Int) (l : List ByteArray) : HeadR :=
  if s.name = true then (match l with | [] => noneR | n :: l => if nameB n.data.toList = true then finR s k n l else noneR)
  else finR s k ⟨#[]⟩ l
def shp0 : Shp := ⟨[], false, false, 0, 0⟩
def headWs (l : List ByteArray) : HeadR := match l with
  | [] => noneR
  | x :: l => if kindI x.data.toList < 0 then noneR else nameR (shapesL.getD (kindI x.data.toList).toNat shp0) (1 + kindI x.data.toList) l
def headR (s : ByteArray) : HeadR := headWs (piecesB s)
theorem numV_le (l : List UInt8) : numV l ≤ 9223372036854775807 := by
  unfold numV
  cases hh : Lib.atoiAll l
  all_goals first
    | exact (Lib.atoiAll_bounds hh).2
    | (unfold Lib.atoiSat; simp only []; split <;> omega)
    | (simp only []; omega)
def SmallR (h : HeadR) : Prop := (h.lines.toNat : Int) ≤ 9223372036854775807
theorem noneR_small : SmallR noneR := by unfold SmallR noneR; simp
theorem finR_small (s : Shp) (k : Int) (nm : ByteArray) (l : List ByteArray) : SmallR (finR s k nm l) := by
  unfold finR
  split
  · unfold textR
    split
    · rename_i x
      have := numV_le x.data.toList
      unfold SmallR
      simp only []
      omega
    · exact noneR_small
  · split
    · exact noneR_small
    · unfold numsR
      split
      · unfold SmallR; simp
      · exact noneR_small
theorem headR_lines (s : ByteArray) : ((headR s).lines.toNat : Int) ≤ 9223372036854775807 := by
  show SmallR (headR s)
  unfold headR headWs
  split
  · exact noneR_small
  · split
    · exact noneR_small
    · unfold nameR
      split
      · split
        · exact noneR_small
        · split
          · exact finR_small _ _ _ _
          · exact noneR_small
      · exact finR_small _ _ _ _
end Go.Proofs.YtmciflmlpnpkaaaDoor.Pa
