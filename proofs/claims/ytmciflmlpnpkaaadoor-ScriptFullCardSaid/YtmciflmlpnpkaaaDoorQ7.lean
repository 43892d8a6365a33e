import Derived.Test.YtmciflmlpnpkaaaDoorQ4a
import Derived.Test.YtmciflmlpnpkaaaDoorH11
namespace Go.Proofs.YtmciflmlpnpkaaaDoor.Pa
open Go.RowKit Go.Proofs.YtmciflmlpnpkaaaDoorW.PrintWords Go.Proofs.YtmciflmlpnpkaaaDoorW.PrintLast Go.Proofs.YtmciflmlpnpkaaaDoorW.PrintMore
set_option linter.unusedVariables false
set_option linter.unusedSimpArgs false
set_option maxRecDepth 100000

/-! ### many commands -/
def trc : List UInt8 := [116, 114, 97, 99, 101, 10]
def c9 : S31 := ⟨9, ⟨#[]⟩, [], ⟨#[]⟩⟩
theorem trc_head : headR (str [116, 114, 97, 99, 101]) = ⟨9, ⟨#[]⟩, [], -1, true⟩ := by kernel_rfl
theorem trc_one (r : List UInt8) : oneL (trc ++ r) = .ok c9 0 r := by
  unfold oneL
  rw [show trc ++ r = [116, 114, 97, 99, 101] ++ 10 :: r from rfl, cut10_app _ r (by decide)]
  simp only [trc_head]
  rfl
theorem trc_steps : ∀ (n : Nat) (r : List UInt8), Steps (Lib.repeatL trc n ++ r) (List.replicate n c9) n r
  | 0, r => .nil _
  | n + 1, r => by
    rw [Lib.repeatL, List.append_assoc, List.replicate_succ, show n + 1 = 1 + 0 + n by omega]
    exact .cons (trc_one _) (trc_steps n r)
theorem trc_parse (k : Nat) (hk : 7004 ≤ k) : script_Parse.f k (str (Lib.repeatL trc 1000)) = some (List.replicate 1000 c9, 0, 0) := by
  have h := trc_steps 1000 []
  rw [List.append_nil] at h
  have hl := Lib.repeatL_length trc 1000
  rw [show trc.length = 6 from rfl] at hl
  exact parse_ok _ _ _ h (by omega) (by rw [List.length_replicate]; omega) k (by rw [List.length_replicate]; omega)
theorem trc_full (t : List UInt8) (h1 : t ≠ []) (h2 : t.length ≤ 100) (k : Nat) (hk : 8004 ≤ k) : script_Parse.f k (str (Lib.repeatL trc 1000) ++ str t) = some ([], 1001, 5) := by
  have h := trc_steps 1000 t
  have hl := Lib.repeatL_length trc 1000
  rw [show trc.length = 6 from rfl] at hl
  rw [str_append, parse_full _ _ _ t h h1 (by rw [List.length_append]; omega) (by rw [List.length_replicate]) k (by rw [List.length_append, List.length_replicate]; omega)]
  rfl
theorem c9_valid : validB c9 = true := by kernel_rfl
theorem c9_okL (n : Nat) : okL (List.replicate n c9) = decide ((n : Int) ≤ 1000) := by
  unfold okL
  rw [List.length_replicate]
  have : ((List.replicate n c9).any fun c => !validB c) = false := by
    rw [List.any_eq_false]
    intro c hc
    rw [List.eq_of_mem_replicate hc, c9_valid]
    simp
  rw [this]
  simp
def c6 (l : List Int) : S31 := ⟨6, ⟨#[116]⟩, l, ⟨#[]⟩⟩
theorem name_t : nameB [116] = true := by kernel_rfl
theorem c6_valid (l : List Int) : validB (c6 l) = decide ((l.length : Int) ≤ 1000) := by
  have e : findR 6 = some ⟨[97, 114, 114, 105, 118, 101], true, false, 0, 1000⟩ := rfl
  unfold validB c6
  simp only [e, name_t]
  have h : ¬ ((l.length : Int) < 0) := by omega
  simp only [h, decide_false, Bool.not_false, Bool.and_true, gt_iff_lt, ByteArray.toList_eq]
  by_cases h2 : (l.length : Int) ≤ 1000
  · simp [h2]
  · simp [h2, Int.not_le.1 h2]
theorem c6_okL (l : List Int) : okL [c6 l] = decide ((l.length : Int) ≤ 1000) := by
  unfold okL
  simp [c6_valid]
theorem more_range (a : Int) (h0 : 0 ≤ a) (h1 : a < 256) : ∃ m : Nat, 1 + a % 3 = (m : Int) ∧ 1 ≤ m ∧ m ≤ 3 := ⟨(1 + a % 3).toNat, by omega, by omega, by omega⟩
theorem zero_at {W : World} {ad : Addr} {v0 v1 v2 v3 : Value} (h : W.cell? (ad.add ((0 : Int).toNat * 4)) = some v0 ∧ W.cell? ⟨(ad.add ((0 : Int).toNat * 4)).block, (ad.add ((0 : Int).toNat * 4)).off + 1, none⟩ = some v1 ∧ W.cell? ⟨(ad.add ((0 : Int).toNat * 4)).block, (ad.add ((0 : Int).toNat * 4)).off + 2, none⟩ = some v2 ∧ W.cell? ⟨(ad.add ((0 : Int).toNat * 4)).block, (ad.add ((0 : Int).toNat * 4)).off + 3, none⟩ = some v3) :
    W.cell? ad = some v0 ∧ W.cell? ⟨ad.block, ad.off + 1, none⟩ = some v1 ∧ W.cell? ⟨ad.block, ad.off + 2, none⟩ = some v2 ∧ W.cell? ⟨ad.block, ad.off + 3, none⟩ = some v3 := by
  have e : ad.add ((0 : Int).toNat * 4) = ad := by
    rw [show (0 : Int).toNat * 4 = 0 from rfl, Addr.add_zero']
  rw [e] at h
  exact h
theorem made_facts {W : World} {base N : Nat} {v : Value} {Z : List Int} (ho : Kd.R (Kd.int .i64) 3 W base (fun _ => True) v Z) (hZ : 0 < Z.length) (hat : ∃ b, v.ownBlock = some b ∧ N ≤ b) :
    ∃ g cap cells, v = .slice (some ⟨g, 0, none⟩) Z.length cap ∧ N ≤ g ∧ g < W.heap.size ∧ W.heap[g]? = some (.cells cells 3 (0, 0)) ∧ W.cell? ⟨g, 0, none⟩ = some (.int .i64 (Z.getD 0 0)) := by
  obtain ⟨A, c, rfl⟩ := Kd.R_slice ho
  obtain ⟨b, hb, hN⟩ := hat
  cases A with
  | none => simp [Value.ownBlock] at hb
  | some ad =>
    obtain ⟨g, rfl⟩ := Kd.R_head ho
    have hgb : g = b := by simpa [Value.ownBlock] using hb
    subst hgb
    have hbd := (Kd.R_bound ho).1 g hb
    obtain ⟨_, _, hlt, q, hq, cells, hc⟩ := hbd
    have hq3 : q = 3 := by
      rcases List.mem_cons.1 hq with h | h
      · exact h
      · exact absurd h (by simp [Kd.E, Kd.int, Kd.scalar])
    subst hq3
    obtain ⟨ad, c', e, hcl, hK, hcc⟩ := Kd.C_get (Kd.R_reads' ho).2.2 (0 : Int) 0 (by omega) (by omega)
    cases e
    have hc' : c' = [.int .i64 (Z.getD 0 0)] := hK
    have := hcc 0 (.int .i64 (Z.getD 0 0)) (by rw [hc']; rfl)
    rw [show (0 : Int).toNat * (Kd.int .i64).sz + 0 = 0 from rfl, Addr.add_zero'] at this
    exact ⟨g, c, cells, rfl, hN, hlt, hc, this⟩
theorem made_q {W : World} {g : Nat} {v : Value} {cells : Array Value} (h1 : g < W.heap.size) (hc : W.heap[g]? = some (.cells cells 3 (0, 0))) (hz : W.cell? ⟨g, 0, none⟩ = some v) :
    (∀ X, (W.alloc X).cell? ⟨g, 0, none⟩ = some v) ∧ (∀ X, (W.alloc X).frozen? ⟨g, 0, none⟩ = false) :=
  ⟨fun X => (World.cell?_alloc_lt _ _ _ h1).trans hz, fun X => blk_frozen (blk_alloc hc X) 0⟩
theorem one_C {W : World} {O : Nat} {c : S31} {A : Option Addr} {cap : Nat} (h : W.heap[O]? = some (.cells #[.int .u8 c.f0, .string c.f1, .slice A c.f2.length cap, .string c.f3] 31 (0, 0))) (hc : c.f2.length ≤ cap) (hr : Kd.C (Kd.int .i64) W A c.f2.length c.f2) :
    Kd.C k31 W (some ⟨O, 0, none⟩) [c].length [c] := by
  refine ⟨rfl, by show (1 : Nat) ≤ _; simp [maxLen], fun _ => ⟨⟨O, 0, none⟩, rfl, fun j p hp => ?_⟩⟩
  match j, hp with
  | 0, hp =>
    simp only [List.getElem?_cons_zero, Option.some.injEq] at hp
    subst hp
    refine ⟨_, rfl, k31_mk W c hc hr, fun i u hu => ?_⟩
    have := blk_cell h i
    rw [add_plain]
    rw [show 0 * k31.sz + i = i by omega, this]
    simpa using hu
  | j + 1, hp => simp at hp
theorem made_b {W : World} {g : Nat} (h1 : g < W.heap.size) (cs : Array Value) (v : Value) : ((W.alloc (.cells cs 31)).setCell ⟨g, 0, none⟩ v).heap[W.heap.size]? = some (.cells cs 31 (0, 0)) :=
  blk_far (blk_new W _) (by show W.heap.size ≠ g; omega) v
theorem made_k {W : World} {g len cap : Nat} (h1 : g < W.heap.size) :
    (∀ v, ((W.alloc (.cells #[.int .u8 6, .string ⟨#[116]⟩, .slice (some ⟨g, 0, none⟩) len cap, .string ⟨#[]⟩] 31)).setCell ⟨g, 0, none⟩ v).cell? ⟨W.heap.size, 0, none⟩ = some (.int .u8 6)) ∧
    (∀ v, ((W.alloc (.cells #[.int .u8 6, .string ⟨#[116]⟩, .slice (some ⟨g, 0, none⟩) len cap, .string ⟨#[]⟩] 31)).setCell ⟨g, 0, none⟩ v).cell? ⟨W.heap.size, 1, none⟩ = some (.string ⟨#[116]⟩)) ∧
    (∀ v, ((W.alloc (.cells #[.int .u8 6, .string ⟨#[116]⟩, .slice (some ⟨g, 0, none⟩) len cap, .string ⟨#[]⟩] 31)).setCell ⟨g, 0, none⟩ v).cell? ⟨W.heap.size, 2, none⟩ = some (.slice (some ⟨g, 0, none⟩) len cap)) ∧
    (∀ v, ((W.alloc (.cells #[.int .u8 6, .string ⟨#[116]⟩, .slice (some ⟨g, 0, none⟩) len cap, .string ⟨#[]⟩] 31)).setCell ⟨g, 0, none⟩ v).cell? ⟨W.heap.size, 3, none⟩ = some (.string ⟨#[]⟩)) :=
  ⟨fun v => blk_cell (made_b h1 _ v) 0, fun v => blk_cell (made_b h1 _ v) 1, fun v => blk_cell (made_b h1 _ v) 2, fun v => blk_cell (made_b h1 _ v) 3⟩
/-- What is known once the command stands in a slice of its own, at the block O. -/
structure FInv7 (w : World) (O g len cap : Nat) (Z : List Int) (W : World) : Prop where
  below : Below w.heap.size w W
  row : Kd.R (Kd.int .i64) 3 W w.heap.size (fun k => k ≠ O) (.slice (some ⟨g, 0, none⟩) len cap) Z
  blk : W.heap[O]? = some (.cells #[.int .u8 6, .string ⟨#[116]⟩, .slice (some ⟨g, 0, none⟩) len cap, .string ⟨#[]⟩] 31 (0, 0))
  len : Z.length = len
  old : w.heap.size ≤ O
theorem FInv7.step {w : World} {O g len cap : Nat} {Z : List Int} {W W1 : World} (h : FInv7 w O g len cap Z W) (hb : Below W.heap.size W W1) : FInv7 w O g len cap Z W1 :=
  ⟨below_then h.below h.below.size hb, Kd.R_below h.row hb, blk_below h.blk hb, h.len, h.old⟩
theorem FInv7.row_C {w : World} {O g len cap : Nat} {Z : List Int} {W : World} (h : FInv7 w O g len cap Z W) : Z.length ≤ cap ∧ Kd.C (Kd.int .i64) W (some ⟨g, 0, none⟩) Z.length Z := by
  obtain ⟨h1, h2, h3⟩ := Kd.R_reads' h.row
  exact ⟨by rw [← h1]; exact h2, h3⟩
theorem FInv7.C {w : World} {O g len cap : Nat} {Z : List Int} {W : World} (h : FInv7 w O g len cap Z W) : Kd.C k31 W (some ⟨O, 0, none⟩) [c6 Z].length [c6 Z] := by
  have hb := h.blk
  rw [← h.len] at hb
  exact one_C (c := c6 Z) hb h.row_C.1 h.row_C.2
theorem finv7_start {w w9 : World} {g cap : Nat} {Z : List Int} (n : Int) (hR : Kd.R (Kd.int .i64) 3 w9 w.heap.size (fun _ => True) (.slice (some ⟨g, 0, none⟩) Z.length cap) Z) (hB : Below w.heap.size w w9) (hg : g < w9.heap.size) (hg0 : w.heap.size ≤ g) :
    FInv7 w (w9.heap.size + 1) g Z.length cap (Z.set 0 n) (((w9.alloc (.cells #[.int .u8 6, .string ⟨#[116]⟩, .slice (some ⟨g, 0, none⟩) Z.length cap, .string ⟨#[]⟩] 31)).setCell ⟨g, 0, none⟩ (.int .i64 n)).alloc (.cells #[.int .u8 6, .string ⟨#[116]⟩, .slice (some ⟨g, 0, none⟩) Z.length cap, .string ⟨#[]⟩] 31)) := by
  have h1 := Kd.R_putn (Kd.R_alloc hR (.cells #[.int .u8 6, .string ⟨#[116]⟩, .slice (some ⟨g, 0, none⟩) Z.length cap, .string ⟨#[]⟩] 31)) 0 n
  have h2 := Kd.R_alloc h1 (.cells #[.int .u8 6, .string ⟨#[116]⟩, .slice (some ⟨g, 0, none⟩) Z.length cap, .string ⟨#[]⟩] 31)
  have hsz : ((w9.alloc (.cells #[.int .u8 6, .string ⟨#[116]⟩, .slice (some ⟨g, 0, none⟩) Z.length cap, .string ⟨#[]⟩] 31)).setCell ⟨g, 0, none⟩ (.int .i64 n)).heap.size = w9.heap.size + 1 := by simp [World.setCell]
  refine ⟨below_alloc (below_set (below_alloc hB _) hg0) _, Kd.R_mono (Kd.R_tight rfl h2) (fun k hk => ?_), ?_, List.length_set, by have := hB.size; omega⟩
  · have : some k = some g := hk
    injection this with this
    omega
  · have := blk_new ((w9.alloc (.cells #[.int .u8 6, .string ⟨#[116]⟩, .slice (some ⟨g, 0, none⟩) Z.length cap, .string ⟨#[]⟩] 31)).setCell ⟨g, 0, none⟩ (.int .i64 n)) (.cells #[.int .u8 6, .string ⟨#[116]⟩, .slice (some ⟨g, 0, none⟩) Z.length cap, .string ⟨#[]⟩] 31)
    rw [hsz] at this
    exact this
theorem finv7_last {w W1 : World} {O : Nat} {A : Option Addr} {c : Nat} {x : Value} {Z : List Int} (hR : Kd.R (Kd.int .i64) 3 W1 w.heap.size (fun k => k ≠ O) (.slice A Z.length c) Z) (hB : Below w.heap.size w W1) (ho : w.heap.size ≤ O)
    (hb : W1.heap[O]? = some (.cells #[.int .u8 6, .string ⟨#[116]⟩, x, .string ⟨#[]⟩] 31 (0, 0))) :
    Kd.C k31 (W1.setCell ⟨O, 2, none⟩ (.slice A Z.length c)) (some ⟨O, 0, none⟩) [c6 Z].length [c6 Z] ∧ Below w.heap.size w (W1.setCell ⟨O, 2, none⟩ (.slice A Z.length c)) := by
  have h1 := Kd.R_far (p := ⟨O, 2, none⟩) hR (fun k hk => hk) (.slice A Z.length c)
  obtain ⟨_, h3, h4⟩ := Kd.R_reads' h1
  exact ⟨one_C (c := c6 Z) (blk_put hb 2 _ rfl) h3 h4, below_set hB ho⟩
theorem valid6 (l : List Int) (b : Bool) (h : decide ((l.length : Int) ≤ 1000) = b) : script_Valid.f [c6 l] = some b := by
  unfold script_Valid.f
  rw [if_pos (by rfl), c6_okL, h]
theorem finv7_facts {w : World} {O g len cap : Nat} {Z : List Int} {W : World} (h : FInv7 w O g len cap Z W) : W.cell? ⟨O, 0, none⟩ = some (.int .u8 6) ∧ W.cell? ⟨O, 1, none⟩ = some (.string ⟨#[116]⟩) ∧ W.cell? ⟨O, 2, none⟩ = some (.slice (some ⟨g, 0, none⟩) len cap) ∧ W.cell? ⟨O, 3, none⟩ = some (.string ⟨#[]⟩) := ⟨blk_cell h.blk 0, blk_cell h.blk 1, blk_cell h.blk 2, blk_cell h.blk 3⟩
theorem finv7_grown {w : World} {O g len cap : Nat} {Z : List Int} {W W1 : World} (h : FInv7 w O g len cap Z W) (hg : W.grownBy W1 (Value.slice (some ⟨g, 0, none⟩) len cap).ownBlock) :
    W1.heap[O]? = some (.cells #[.int .u8 6, .string ⟨#[116]⟩, .slice (some ⟨g, 0, none⟩) len cap, .string ⟨#[]⟩] 31 (0, 0)) :=
  (hg.block O (blk_lt h.blk) (fun e => h.row.1 _ e.symm rfl)).trans h.blk
theorem len_set (Z : List Int) (n : Int) (h : Z.length = 1000) : decide (((Z.set 0 n).length : Int) ≤ 1000) = true ∧ decide (((Z.set 0 n ++ [1]).length : Int) ≤ 1000) = false ∧ ((Z.set 0 n).length + 1) * 8 ≤ 140737488355328 := by
  rw [List.length_append, List.length_set, h]
  decide
set_option maxRecDepth 100000 in
set_option maxHeartbeats 4000000 in
theorem ScriptFull_calls (more n : Int) (h0 : 0 ≤ more) (h1 : more < 256) (h2 : -9223372036854775808 ≤ n) (h3 : n ≤ 9223372036854775807) (w : World) (hE : EnvW w) :
    Calls Tryd.prog 4 #[.int .u8 more, .int .i64 n] w fun e w' => e = .returned (.bool true) ∧ Below w.heap.size w w' := by
  obtain ⟨m, hm, m1, m3⟩ := more_range more h0 h1
  have hS1 := Lib.repeatL_length trc 1000
  rw [show trc.length = 6 from rfl] at hS1
  have hT1 := Lib.repeatL_length [63, 10] m
  have hT0 : Lib.repeatL [63, 10] m ≠ [] := fun e => by rw [e] at hT1; simp at hT1; omega
  have r1 : strings_Repeat.f ⟨#[116, 114, 97, 99, 101, 10]⟩ 1000 = some (str (Lib.repeatL trc 1000)) := by
    unfold strings_Repeat.f
    rw [if_pos ⟨by omega, by omega, by show 6 ≤ 1000; omega⟩]
    rfl
  have r2 : strings_Repeat.f ⟨#[63, 10]⟩ (m : Int) = some (str (Lib.repeatL [63, 10] m)) := by
    unfold strings_Repeat.f
    rw [if_pos ⟨by omega, by omega, by show 2 ≤ 1000; omega⟩, Int.toNat_natCast]
  have p1 := trc_parse 9000 (by omega)
  have p2 := trc_full (Lib.repeatL [63, 10] m) hT0 (by rw [hT1]; simp; omega) 9000 (by omega)
  have hsz : (str (Lib.repeatL trc 1000)).size + (str (Lib.repeatL [63, 10] m)).size ≤ 9223372036854775807 := by rw [str_size, str_size, hS1, hT1]; simp; omega
  have HA := Aside0.mk (fun W h => ontimelaw51_awake.calls 100 true W (awake_pos 100 (by omega)) h)
  have HR1 := Aside0.mk (fun W h => strings_Repeat.calls ⟨#[116, 114, 97, 99, 101, 10]⟩ 1000 _ W r1 h)
  have HR2 := Aside0.mk (fun W h => strings_Repeat.calls ⟨#[63, 10]⟩ (m : Int) _ W r2 h)
  have HP1 := Aside0.mk (fun W h => script_Parse.calls 9000 (str (Lib.repeatL trc 1000)) _ 0 0 W p1 h)
  have HP2 := Aside0.mk (fun W h => script_Parse.calls 9000 (str (Lib.repeatL trc 1000) ++ str (Lib.repeatL [63, 10] m)) _ 1001 5 W p2 h)
  have hV1 : script_Valid.f (List.replicate 1000 c9) = some true := by
    unfold script_Valid.f
    rw [if_pos (by rw [List.all_eq_true]; intro c hc; rw [List.eq_of_mem_replicate hc]; rfl), c9_okL]
    rfl
  have hV2 : script_Valid.f (List.replicate 1000 c9 ++ [c9]) = some false := by
    rw [← List.replicate_succ']
    unfold script_Valid.f
    rw [if_pos (by rw [List.all_eq_true]; intro c hc; rw [List.eq_of_mem_replicate hc]; rfl), c9_okL]
    rfl
  have hlen : (List.replicate 1000 c9).length = 1000 := List.length_replicate
  have hrd : rd_T31 (List.replicate 1000 c9) 0 = c9 := rfl
  have hgd : (List.replicate 1000 c9).getD (0 : Int).toNat z31 = c9 := rfl
  generalize str (Lib.repeatL trc 1000) = S at *
  generalize str (Lib.repeatL [63, 10] m) = T at *
  generalize List.replicate 1000 c9 = L at *
  have l1 : (L.length : Int) = 1000 := by omega
  have l2 : ((L.length : Int) != 1000) = false := by rw [l1]; rfl
  have l0 : 0 < L.length := by omega
  have hsz2 : (9223372036854775807 < S.size + T.size) = False := eq_false (by omega)
  have HL1 := Lib.hid hlen
  have HV1 := Aside0.mk hV1
  have HV2 := Aside0.mk hV2
  have HRd := Lib.hid hrd
  have HGd := Lib.hid hgd
  have HL0 := Lib.hid l0
  obtain ⟨L2, hL2⟩ : ∃ L2, L ++ [c9] = L2 := ⟨_, rfl⟩
  rw [hL2] at HV2
  have HL2 := Lib.hid hL2
  clear hL2
  have HE := Aside0.mk hE
  have HB := Aside0.mk (Below.refl w.heap.size w)
  have hu31 := Tryd.underlying31
  clear hS1 hT1 hT0 r1 r2 p1 p2 hV1 hV2 hlen hrd hgd l1 hE m1 m3
  go_enter Tryd.func4, Tryd.ntmps4
  go_wp2_with (first | (go_at_call 8; (with_reducible refine (HA.out _ HE.out).mono ?_); rintro e w1 ⟨rfl, hb⟩; have HB1 := Aside0.mk (below_then HB.out HB.out.size hb); clear hb) | (go_at_call 13; (with_reducible refine (HR1.out _ (HE.out.below HB1.out)).mono ?_); rintro e w2 ⟨rfl, hb⟩; have HB2 := Aside0.mk (below_then HB1.out HB1.out.size hb); clear hb) | (go_at_call 10; (with_reducible refine (HP1.out _ (HE.out.below HB2.out)).mono ?_); rintro e w3 ⟨v0, rfl, ho, hb⟩; have HB3 := Aside0.mk (below_then HB2.out HB2.out.size hb); obtain ⟨A1, cc1, e1⟩ := Kd.S_slice ho; subst e1; have HO3 := Aside0.mk (Kd.S_lower ho HB2.out.size); clear hb ho) | (go_at_call 13; (with_reducible refine (HR2.out _ (HE.out.below HB3.out)).mono ?_); rintro e w4 ⟨rfl, hb⟩; have HB4 := Aside0.mk (below_then HB3.out HB3.out.size hb); have HO4 := Aside0.mk (Kd.S_below HO3.out hb); clear hb) | (go_at_call 10; (with_reducible refine (HP2.out _ (HE.out.below HB4.out)).mono ?_); rintro e w5 ⟨v5, rfl, ho, hb⟩; have HB5 := Aside0.mk (below_then HB4.out HB4.out.size hb); have HO5 := Aside0.mk (Kd.S_below HO4.out hb); clear ho hb) | (go_at_call 14; (with_reducible refine (script_Valid.calls A1 cc1 L true _ (Kd.S_reads' HO5.out).2.2 (Kd.S_reads' HO5.out).2.1 HV1.out (HE.out.below HB5.out)).mono ?_); rintro e w6 ⟨rfl, hb⟩; have HB6 := Aside0.mk (below_then HB5.out HB5.out.size hb); have HO6 := Aside0.mk (Kd.S_below HO5.out hb); clear hb; obtain ⟨ad1, A2, c2, e1, x0, x1, x2, x3, hl2, hg2⟩ := at_T31 (Kd.S_reads' HO6.out).2.2 0 (by omega) (by have := HL1.out; omega); cases e1; rw [HRd.out] at x0 x1 x2 x3 hl2 hg2; obtain ⟨x0, x1, x2, x3⟩ := zero_at ⟨x0, x1, x2, x3⟩; obtain ⟨ce, hce, hM, hcc⟩ := Kd.R_get (Kd.S_R HO6.out) z31 0 (by omega) (by have := HL1.out; omega); rw [HGd.out] at hM; obtain ⟨ve, rfl, ge⟩ := k31_openM hM; have hv2 := hcc 2 _ rfl; rw [add_field _ _ 2 (by omega), show (0 : Int).toNat * k31.sz = 0 from rfl, Addr.add_zero'] at hv2; have ev := Option.some.inj (hv2.symm.trans x2); rw [ev] at ge; have HM := Aside0.mk (k31_mkM _ _ _ c9 ge); clear hM hcc hce hv2 ge ev) | ((with_reducible refine gate_builtin (b := .append) (xs := #[.tmp 60, .tmp 64]) rfl ?_); refine gate_guard (by rfl) ?_; refine Kd.R_append k31 (w0 := w) w.heap.size rfl (.tmp 60) (.tmp 64) 24 31 (.agg #[(.int .u8 0), (.string ⟨#[]⟩), (.slice none 0 0), (.string ⟨#[]⟩)]) 64 rfl Tryd.underlying24 info31 rfl (by decide) (by omega) (.slice (some ad1) L.length cc1) L c9 [.int .u8 c9.f0, .string c9.f1, .slice A2 c9.f2.length c2, .string c9.f3] (fun _ => True) (fun k_ => True ∧ some k_ ≠ (Value.slice (some ad1) L.length cc1).ownBlock) rfl (by first | (go_simp; done) | (go_simp; rfl)) HM.out (fun _ hk => hk) (fun _ _ => trivial) (Kd.S_R HO6.out) HB6.out HB6.out.size (by have := HL1.out; omega) ?_; intro v1 w7 ho hb7 hg7 hat; rw [HL2.out] at ho; obtain ⟨A7, c7, e7⟩ := Kd.R_slice ho; subst e7; have HR7 := Aside0.mk ho; have HB7 := Aside0.mk hb7; clear ho hb7 hg7 hat) | (go_at_call 14; (with_reducible refine (script_Valid.calls A7 c7 L2 false _ (Kd.R_reads' HR7.out).2.2 (Kd.R_reads' HR7.out).2.1 HV2.out (HE.out.below HB7.out)).mono ?_); rintro e w8 ⟨rfl, hb⟩; have HB8 := Aside0.mk (below_then HB7.out HB7.out.size hb); clear hb) | (at_make; refine Kd.R_make (Kd.int .i64) (w0 := w) w.heap.size 3 rfl rfl 29 (.const (.int .i64 1000)) (.const (.int .i64 1000)) rfl 1000 rfl rfl Tryd.underlying29 (.int .i64 0) 8 info3h rfl (by decide) (by omega) 0 (ok := fun _ => True) (okp := fun _ => False) rfl (fun _ h => h.elim) trivial (by omega) (by decide) HB8.out HB8.out.size ?_; intro v9 w9 ho hb9 hg9 hat; obtain ⟨Z, hZ⟩ : ∃ Z, List.replicate (1000 : Int).toNat (0 : Int) = Z := ⟨_, rfl⟩; rw [hZ] at ho; have hZl : Z.length = 1000 := hZ ▸ List.length_replicate; obtain ⟨g, cap9, cells9, e9, hg0, hg1, hgc, hgz⟩ := made_facts ho (by omega) hat; subst e9; have HR9 := Aside0.mk ho; have HB9 := Aside0.mk hb9; have HZ := Lib.hid hZl; have hz0 : 0 < Z.length := (by omega); obtain ⟨q0, qf⟩ := made_q hg1 hgc hgz; have HGb := Lib.hid hg0; have HGc := Lib.hid hgc; have HGl := Lib.hid hg1; obtain ⟨k0, k1, k2, k3⟩ := made_k (len := Z.length) (cap := cap9) hg1; have HF9 := Lib.hid (finv7_start n ho hb9 hg1 (Nat.le_trans HB8.out.size hg0)); obtain ⟨t1, t2, t3⟩ := len_set Z n hZl; have HT1 := Lib.hid (valid6 _ _ t1); have HT2 := Lib.hid (valid6 _ _ t2); have HT3 := Lib.hid t3; clear t1 t2 t3 ho hb9 hg9 hat hZ hZl hgz hg0 hgc hg1) | (go_at_call 14; refine (script_Valid.calls (some ⟨w9.heap.size + 1, 0, none⟩) 1 [c6 (Z.set 0 n)] true _ HF9.out.C (Nat.le_refl _) HT1.out (HE.out.below HF9.out.below)).mono ?_; rintro e w11 ⟨rfl, hb⟩; have HF11 := Aside0.mk (HF9.out.step hb); clear hb k0 k1 k2 k3 q0 qf; obtain ⟨k0, k1, k2, k3⟩ := finv7_facts HF11.out) | ((with_reducible refine gate_builtin (b := .append) (xs := #[.tmp 83, .tmp 84]) rfl ?_); at_builtin; refine Kd.R_append (Kd.int .i64) (w0 := w) w.heap.size rfl (.tmp 83) (.tmp 84) 29 3 (.int .i64 0) 8 rfl Tryd.underlying29 info3h rfl (by decide) (by omega) (.slice (some ⟨g, 0, none⟩) Z.length cap9) (Z.set 0 n) 1 [.int .i64 1] (fun k => k ≠ w9.heap.size + 1) (fun _ => False) rfl (by first | (go_simp; done) | (go_simp; rfl)) rfl (fun _ hk => hk.elim) (fun k hk => Nat.ne_of_gt (Nat.lt_of_lt_of_le (blk_lt HF11.out.blk) hk)) HF11.out.row HF11.out.below HF11.out.below.size HT3.out ?_; intro v13 w13 ho hb13 hg13 hat; have hblk := finv7_grown HF11.out hg13; obtain ⟨Z2, hZ2⟩ : ∃ Z2, Z.set 0 n ++ [1] = Z2 := ⟨_, rfl⟩; rw [hZ2] at ho HT2; obtain ⟨A13, c13, e13⟩ := Kd.R_slice ho; subst e13; have m2 := blk_cell hblk 2; have mf := blk_frozen hblk 2; have HL13 := Lib.hid (finv7_last ho hb13 HF11.out.old hblk); clear ho hb13 hg13 hat hZ2 hblk k0 k1 k2 k3) | (go_at_call 14; refine (script_Valid.calls (some ⟨w9.heap.size + 1, 0, none⟩) 1 [c6 Z2] false _ HL13.out.1 (Nat.le_refl _) HT2.out (HE.out.below HL13.out.2)).mono ?_; rintro e w15 ⟨rfl, hb⟩; have HB15 := Aside0.mk (below_then HL13.out.2 HL13.out.2.size hb); clear hb))
  go_ret
  exact ⟨rfl, HB15.out⟩
end Go.Proofs.YtmciflmlpnpkaaaDoor.Pa
