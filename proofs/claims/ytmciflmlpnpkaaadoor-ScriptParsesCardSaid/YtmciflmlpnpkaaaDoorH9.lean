import Derived.Test.YtmciflmlpnpkaaaDoorH8l
namespace Go.Proofs.YtmciflmlpnpkaaaDoor.Pa
open Go.RowKit Go.Proofs.YtmciflmlpnpkaaaDoorW.PrintWords Go.Proofs.YtmciflmlpnpkaaaDoorW.PrintLast Go.Proofs.YtmciflmlpnpkaaaDoorW.PrintMore
set_option linter.unusedVariables false
set_option linter.unusedSimpArgs false

theorem kindGo_range (x : List UInt8) : ∀ (l : List Shp) (k : Nat), kindGo x l k = -1 ∨ ∃ (i : Nat) (sh : Shp), kindGo x l k = ((k + i : Nat) : Int) ∧ l[i]? = some sh ∧ sh.word = x
  | [], k => .inl rfl
  | s :: l, k => by
    rw [kindGo]
    by_cases h : s.word = x
    · rw [if_pos h]
      exact .inr ⟨0, s, rfl, rfl, h⟩
    · rw [if_neg h]
      rcases kindGo_range x l (k + 1) with h1 | ⟨i, sh, h1, h2, h3⟩
      · exact .inl h1
      · exact .inr ⟨i + 1, sh, by rw [h1]; omega, by rw [List.getElem?_cons_succ]; exact h2, h3⟩
theorem kindI_range (x : List UInt8) : kindI x = -1 ∨ ∃ (j : Nat) (sh : Shp), kindI x = (j : Int) ∧ shapesL[j]? = some sh ∧ sh.word = x := by
  rcases kindGo_range x shapesL 0 with h | ⟨i, sh, h1, h2, h3⟩
  · exact .inl h
  · refine .inr ⟨i, sh, ?_, h2, h3⟩
    unfold kindI
    rw [h1, Nat.zero_add]
theorem shape_name (j : Nat) (sh : Shp) (h : shapesL[j]? = some sh) (hn : sh.name = true) : sh.text = false := by
  have key : ∀ s ∈ shapesL, s.name = true → s.text = false := by decide
  exact key sh (List.mem_of_getElem? h) hn
def HPost (w : World) (RR : HeadR) (e : Ending) (w' : World) : Prop := ∃ v2_, e = .returned (.tuple #[.agg #[.int .u8 RR.kind, .string RR.name, v2_, .string ⟨#[]⟩], .int .i64 RR.lines, .bool RR.ok]) ∧ Kd.R (Kd.int .i64) 3 w' w.heap.size (fun _ => True) v2_ RR.nums ∧ Below w.heap.size w w'
theorem hpost_none (w : World) (e : Ending) (w' : World) (h : e = .returned (.tuple #[.agg #[.int .u8 0, .string ⟨#[]⟩, .slice none 0 0, .string ⟨#[]⟩], .int .i64 0, .bool false]) ∧ Below w.heap.size w w') : HPost w noneR e w' :=
  ⟨.slice none 0 0, h.1, Kd.R_nil _ _ _ _ _, h.2⟩
theorem head_fin (s : ByteArray) (w : World) (hs : s.size ≤ 1000000) (hE : EnvW w) (x0 : ByteArray) (l : List ByteArray) (hp : piecesB s = x0 :: l) (hsz : ∀ x ∈ l, x.size ≤ 1000000) (j : Nat) (sh : Shp) (hsh : shapesL[j]? = some sh) (HK : kindI x0.data.toList = (j : Int)) (hnm : sh.name = false) :
    Calls Tryd.prog 23 #[.string s] w (HPost w (finR sh (1 + (j : Int)) ⟨#[]⟩ l)) := by
  have hN : (x0 :: l).length = l.length + 1 := rfl
  have hm : l.length + 1 - 1 = l.length := rfl
  unfold finR
  by_cases htx : sh.text = true
  · rw [if_pos htx]
    unfold textR
    match l, hp, hsz, hN with
    | [], hp, hsz, hN => exact (head_n1 s w hs hE _ x0 hp rfl _ hN j sh hsh HK hnm htx rfl).mono (hpost_none w)
    | [x], hp, hsz, hN =>
      have hx := hsz x List.mem_cons_self
      cases hb : numB x.data.toList with
      | true =>
        refine (head_n2t s w hs hE _ x0 hp rfl _ hN j sh hsh HK hnm htx rfl x rfl (numV x.data.toList) (numB x.data.toList) (fun W h => number_calls x W hx h) hb).mono ?_
        rintro e w' ⟨rfl, hbl⟩
        exact ⟨.slice none 0 0, by simp [hb], Kd.R_nil _ _ _ _ _, hbl⟩
      | false =>
        refine (head_n2f s w hs hE _ x0 hp rfl _ hN j sh hsh HK hnm htx rfl x rfl (numV x.data.toList) (numB x.data.toList) (fun W h => number_calls x W hx h) hb).mono ?_
        rintro e w' ⟨rfl, hbl⟩
        exact ⟨.slice none 0 0, by simp [hb], Kd.R_nil _ _ _ _ _, hbl⟩
    | x :: y :: l, hp, hsz, hN =>
      refine (head_n1 s w hs hE _ x0 hp rfl _ hN j sh hsh HK hnm htx ?_).mono (hpost_none w)
      rw [beq_eq_false_iff_ne]
      simp
      omega
  · have htx : sh.text = false := by simpa using htx
    rw [if_neg (by rw [htx]; simp)]
    by_cases h1 : (l.length : Int) < sh.least
    · rw [if_pos (.inl h1)]
      exact (head_n3a s w hs hE _ x0 hp rfl _ hN j sh hsh HK hnm htx (decide_eq_true h1)).mono (hpost_none w)
    · by_cases h2 : sh.most < (l.length : Int)
      · rw [if_pos (.inr h2)]
        exact (head_n3b s w hs hE _ x0 hp rfl _ hN j sh hsh HK hnm htx (decide_eq_false h1) (decide_eq_true h2)).mono (hpost_none w)
      · rw [if_neg (by rintro (h | h); exact h1 h; exact h2 h)]
        by_cases h0 : l.length = 0
        · have e : l = [] := List.eq_nil_of_length_eq_zero h0
          subst e
          exact head_n4A s w hs hE _ x0 hp rfl _ hN j sh hsh HK hnm htx [] rfl (fun k x h => by simp at h) hsz _ rfl (decide_eq_false h1) (decide_eq_false h2) rfl
        · exact head_n4B s w hs hE _ x0 hp rfl _ hN j sh hsh HK hnm htx l rfl (fun k x h => by rw [Nat.add_comm, List.getElem?_cons_succ]; exact h) hsz _ rfl (decide_eq_false h1) (decide_eq_false h2) (by omega)
theorem head_calls (s : ByteArray) (w : World) (hs : s.size ≤ 1000000) (hE : EnvW w) : Calls Tryd.prog 23 #[.string s] w (HPost w (headR s)) := by
  have hlen := (pieces_len s hs).1
  have hsz := piece_small s hs
  unfold headR
  cases hp : piecesB s with
  | nil => rw [hp] at hlen; simp at hlen
  | cons x0 l =>
    rw [hp] at hsz
    unfold headWs
    show Calls Tryd.prog 23 #[.string s] w (HPost w (if kindI x0.data.toList < 0 then noneR else nameR (shapesL.getD (kindI x0.data.toList).toNat shp0) (1 + kindI x0.data.toList) l))
    rcases kindI_range x0.data.toList with hk | ⟨j, sh, HK, hsh, _⟩
    · rw [if_pos (by rw [hk]; omega)]
      exact (head_none s w hs hE _ x0 hp rfl _ rfl _ rfl (by rw [hk]; omega)).mono (hpost_none w)
    · rw [if_neg (by rw [HK]; omega), HK, Int.toNat_natCast, List.getD_eq_getElem?_getD, hsh, Option.getD_some]
      unfold nameR
      by_cases hnm : sh.name = true
      · have htx := shape_name j sh hsh hnm
        rw [if_pos hnm]
        cases l with
        | nil => exact (head_t1 s w hs hE _ x0 hp rfl _ rfl j sh hsh HK hnm rfl).mono (hpost_none w)
        | cons n l =>
          have hN : (x0 :: n :: l).length = l.length + 2 := rfl
          have hns := hsz n (List.mem_cons_of_mem _ List.mem_cons_self)
          show Calls Tryd.prog 23 #[.string s] w (HPost w (if nameB n.data.toList = true then finR sh (1 + (j : Int)) n l else noneR))
          cases hb : nameB n.data.toList with
          | false =>
            rw [if_neg (by simp)]
            exact (head_t2 s w hs hE _ x0 hp rfl _ hN j sh hsh HK hnm n rfl (fun W h => by have := name_calls n W hns h; rw [hb] at this; exact this)).mono (hpost_none w)
          | true =>
            rw [if_pos rfl]
            have hnam : ∀ W, EnvW W → Calls Tryd.prog 49 #[.string n] W fun e w' => e = .returned (.bool true) ∧ Below W.heap.size W w' := fun W h => by have := name_calls n W hns h; rw [hb] at this; exact this
            unfold finR
            rw [if_neg (by rw [htx]; simp)]
            by_cases h1 : (l.length : Int) < sh.least
            · rw [if_pos (.inl h1)]
              by_cases h0 : l.length = 0
              · exact (head_t3aA s w hs hE _ x0 hp rfl _ hN j sh hsh HK hnm htx n rfl hnam (decide_eq_true (by omega)) (by omega)).mono (hpost_none w)
              · exact (head_t3aB s w hs hE _ x0 hp rfl _ hN j sh hsh HK hnm htx n rfl hnam (decide_eq_true h1) (by omega)).mono (hpost_none w)
            · by_cases h2 : sh.most < (l.length : Int)
              · rw [if_pos (.inr h2)]
                by_cases h0 : l.length = 0
                · exact (head_t3bA s w hs hE _ x0 hp rfl _ hN j sh hsh HK hnm htx n rfl hnam (decide_eq_false (by omega)) (decide_eq_true (by omega)) (by omega)).mono (hpost_none w)
                · exact (head_t3bB s w hs hE _ x0 hp rfl _ hN j sh hsh HK hnm htx n rfl hnam (decide_eq_false h1) (decide_eq_true h2) (by omega)).mono (hpost_none w)
              · rw [if_neg (by rintro (h | h); exact h1 h; exact h2 h)]
                have hsz' : ∀ x ∈ l, x.size ≤ 1000000 := fun x hx => hsz x (List.mem_cons_of_mem _ (List.mem_cons_of_mem _ hx))
                by_cases h0 : l.length = 0
                · have e : l = [] := List.eq_nil_of_length_eq_zero h0
                  subst e
                  exact head_t4A s w hs hE _ x0 hp rfl _ hN j sh hsh HK hnm htx n rfl hnam [] rfl (fun k x h => by simp at h) hsz' _ rfl (decide_eq_false h1) (decide_eq_false h2) rfl
                · exact head_t4B s w hs hE _ x0 hp rfl _ hN j sh hsh HK hnm htx n rfl hnam l rfl (fun k x h => by rw [Nat.add_comm, List.getElem?_cons_succ, List.getElem?_cons_succ]; exact h) hsz' _ rfl (decide_eq_false h1) (decide_eq_false h2) (by omega)
      · have hnm : sh.name = false := by simpa using hnm
        rw [if_neg (by rw [hnm]; simp)]
        exact head_fin s w hs hE x0 l hp (fun x hx => hsz x (List.mem_cons_of_mem _ hx)) j sh hsh HK hnm

/-! ### in the printed form -/
def script_head.f (a0 : ByteArray) : Option (Int × ByteArray × List Int × ByteArray × Int × Bool) := if a0.size ≤ 1000000 then some ((headR a0).kind, (headR a0).name, (headR a0).nums, ⟨#[]⟩, (headR a0).lines, (headR a0).ok) else none
theorem script_head.calls (a0 : ByteArray) (r1 : Int) (r2 : ByteArray) (r3 : List Int) (r4 : ByteArray) (r5 : Int) (r6 : Bool) (w : World) (h : script_head.f a0 = some (r1, r2, r3, r4, r5, r6)) (hE : EnvW w) :
    Calls Tryd.prog 23 #[.string a0] w fun e w' => ∃ v2_, e = .returned (.tuple #[.agg #[.int .u8 r1, .string r2, v2_, .string r4], .int .i64 r5, .bool r6]) ∧ Kd.R (Kd.int .i64) 3 w' w.heap.size (fun _ => True) v2_ r3 ∧ Below w.heap.size w w' := by
  unfold script_head.f at h
  split at h
  · rename_i hs
    simp only [Option.some.injEq, Prod.mk.injEq] at h
    obtain ⟨rfl, rfl, rfl, rfl, rfl, rfl⟩ := h
    exact head_calls a0 w hs hE
  · cases h
def strings_Cut.f (a0 a1 : ByteArray) : Option (ByteArray × ByteArray × Bool) := if a0.size ≤ 100000000 then some (str (Lib.cut a0.data.toList a1.data.toList).1, str (Lib.cut a0.data.toList a1.data.toList).2.1, (Lib.cut a0.data.toList a1.data.toList).2.2) else none
theorem strings_Cut.calls (a0 a1 : ByteArray) (r1 r2 : ByteArray) (r3 : Bool) (w : World) (h : strings_Cut.f a0 a1 = some (r1, r2, r3)) (hE : EnvW w) :
    Calls Tryd.prog 15 #[.string a0, .string a1] w fun e w' => e = .returned (.tuple #[.string r1, .string r2, .bool r3]) ∧ Below w.heap.size w w' := by
  unfold strings_Cut.f at h
  split at h
  · rename_i hs
    simp only [Option.some.injEq, Prod.mk.injEq] at h
    obtain ⟨rfl, rfl, rfl⟩ := h
    obtain ⟨m, hm⟩ := hE.maxLen
    refine (Tryd.strings_Cut a0 a1 m w (by omega) hm).mono ?_
    rintro e w' ⟨he, n, rfl⟩
    exact ⟨he, pw_below_drewN (Below.refl _ _) n⟩
  · cases h
def strings_IndexByte.f (a0 : ByteArray) (a1 : Int) : Option Int := some (Lib.indexByte a0.data.toList a1.toNat.toUInt8)
theorem strings_IndexByte.calls (a0 : ByteArray) (a1 : Int) (r : Int) (w : World) (h : strings_IndexByte.f a0 a1 = some r) :
    Calls Tryd.prog 51 #[.string a0, .int .u8 a1] w fun e w' => e = .returned (.int .i64 r) ∧ Below w.heap.size w w' := by
  obtain rfl := Option.some.inj h
  exact (Tryd.strings_IndexByte a0 a1 w).mono fun e w' ⟨he, hw⟩ => ⟨he, hw ▸ Below.refl _ _⟩
def strings_TrimPrefix.f (a0 a1 : ByteArray) : Option ByteArray := some (str (Lib.trimPrefix a0.data.toList a1.data.toList))
theorem strings_TrimPrefix.calls (a0 a1 : ByteArray) (r : ByteArray) (w : World) (h : strings_TrimPrefix.f a0 a1 = some r) :
    Calls Tryd.prog 12 #[.string a0, .string a1] w fun e w' => e = .returned (.string r) ∧ Below w.heap.size w w' := by
  obtain rfl := Option.some.inj h
  exact (Tryd.strings_TrimPrefix a0 a1 w).mono fun e w' ⟨he, hw⟩ => ⟨he, hw ▸ Below.refl _ _⟩
def strings_Repeat.f (a0 : ByteArray) (a1 : Int) : Option ByteArray := if 0 ≤ a1 ∧ a1 ≤ 1000000 ∧ a0.size ≤ 1000 then some (str (Lib.repeatL a0.data.toList a1.toNat)) else none
theorem strings_Repeat.calls (a0 : ByteArray) (a1 : Int) (r : ByteArray) (w : World) (h : strings_Repeat.f a0 a1 = some r) (hE : EnvW w) :
    Calls Tryd.prog 13 #[.string a0, .int .i64 a1] w fun e w' => e = .returned (.string r) ∧ Below w.heap.size w w' := by
  unfold strings_Repeat.f at h
  split at h
  · rename_i hs
    obtain rfl := Option.some.inj h
    obtain ⟨n, rfl⟩ : ∃ n : Nat, a1 = (n : Int) := ⟨a1.toNat, by omega⟩
    have hn : n ≤ 1000000 := by omega
    exact Tryd.strings_Repeat a0 n w (by omega) (Nat.le_trans (Nat.mul_le_mul hs.2.2 hn) (by decide))
  · cases h
end Go.Proofs.YtmciflmlpnpkaaaDoor.Pa
