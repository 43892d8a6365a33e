import Derived.Test.YtmciflmlpnpkaaaDoorH7
namespace Go.Proofs.YtmciflmlpnpkaaaDoor.Pa
open Go.RowKit Go.Proofs.YtmciflmlpnpkaaaDoorW.PrintWords Go.Proofs.YtmciflmlpnpkaaaDoorW.PrintLast Go.Proofs.YtmciflmlpnpkaaaDoorW.PrintMore
set_option linter.unusedVariables false
set_option linter.unusedSimpArgs false

def shC (sh : Shp) : Array Value := #[.string (str sh.word), .bool sh.name, .bool sh.text, .int .i64 sh.least, .int .i64 sh.most]
/-- What head keeps once the kind is found: the shape's block at B, the command's behind it. -/
structure CInv (w : World) (ls : List ByteArray) (a m : Nat) (sh : Shp) (B : Nat) (kd : Int) (nm : ByteArray) (v : Value) (wr : World) : Prop where
  env : EnvW wr
  below : Below w.heap.size w wr
  res : wr.heap[w.heap.size]? = some (.cells #[.int .u8 0, .string ⟨#[]⟩, .slice none 0 0, .string ⟨#[]⟩] 31 (0, 0))
  words : ∀ (j : Nat) x, ls[j]? = some x → wr.cell? ⟨w.heap.size + 1, j, none⟩ = some (.string x)
  box : wr.heap[w.heap.size + 1 + 1]? = some (.cells #[.slice (some ⟨w.heap.size + 1, a, none⟩) m m] 34 (0, 0))
  shp : wr.heap[B]? = some (.cells (shC sh) 83 (0, 0))
  cmd : wr.heap[B + 1]? = some (.cells #[.int .u8 kd, .string nm, v, .string ⟨#[]⟩] 31 (0, 0))
  lo : w.heap.size + 2 < B
  hi : B + 1 < wr.heap.size
section
variable {w : World} {ls : List ByteArray} {o a m : Nat} {sh : Shp} {B : Nat} {kd : Int} {nm : ByteArray} {v : Value} {wr : World}
theorem CInv.step {w1 : World} (h : CInv w ls a m sh B kd nm v wr) (hb : Below wr.heap.size wr w1) : CInv w ls a m sh B kd nm v w1 := by
  obtain ⟨h0, h1, h2, h3, h4, h5, h6, h7, h8⟩ := h
  refine ⟨h0.below hb, below_then h1 h1.size hb, blk_below h2 hb, fun j x hx => (hb.cell (by show w.heap.size + 1 < wr.heap.size; omega)).trans (h3 j x hx), blk_below h4 hb, blk_below h5 hb, blk_below h6 hb, h7, ?_⟩
  have := hb.size
  omega
theorem cinv_start {j n : Nat} {W : World} (hE : EnvW w) (h : HInv w ls 0 n W) :
    CInv w ls a m sh W.heap.size (1 + (j : Int)) ⟨#[]⟩ (.slice none 0 0) (((W.alloc (.cells #[.string (str sh.word), .bool sh.name, .bool sh.text, .int .i64 sh.least, .int .i64 sh.most] 83)).alloc (.cells #[.int .u8 (1 + (j : Int)), .string ⟨#[]⟩, .slice none 0 0, .string ⟨#[]⟩] 31)).setCell ⟨w.heap.size + 1 + 1, 0, none⟩ (.slice (some ⟨w.heap.size + 1, a, none⟩) m m)) := by
  have hb := h.below2 (.cells #[.string (str sh.word), .bool sh.name, .bool sh.text, .int .i64 sh.least, .int .i64 sh.most] 83) (.cells #[.int .u8 (1 + (j : Int)), .string ⟨#[]⟩, .slice none 0 0, .string ⟨#[]⟩] 31) (.slice (some ⟨w.heap.size + 1, a, none⟩) m m)
  have hlt := h.lt
  refine ⟨hE.below hb, hb, h.res2 _ _ _, ?_, ?_, ?_, ?_, hlt, ?_⟩
  · intro i x hx
    have e := h.words i x hx
    have hq : ∀ (U : World) (q : Nat) (y : Value), q ≠ w.heap.size + 1 → (U.setCell ⟨q, 0, none⟩ y).cell? ⟨w.heap.size + 1, i, none⟩ = U.cell? ⟨w.heap.size + 1, i, none⟩ := by
      intro U q y hne
      have := Below.heap_setCell U ⟨q, 0, none⟩ y (w.heap.size + 1) (Ne.symm hne)
      simp [World.cell?, this]
    rw [hq _ _ _ (by omega)]
    exact (World.cell?_alloc_lt _ _ _ (by simp; omega)).trans ((World.cell?_alloc_lt _ _ _ (by show w.heap.size + 1 < W.heap.size; omega)).trans e)
  · exact blk_put (blk_alloc (blk_alloc h.box _) _) 0 _ rfl
  · exact blk_far (blk_alloc (blk_new W _) _) (by show W.heap.size ≠ w.heap.size + 1 + 1; omega) _
  · have e := blk_new (W.alloc (.cells #[.string (str sh.word), .bool sh.name, .bool sh.text, .int .i64 sh.least, .int .i64 sh.most] 83)) (.cells #[.int .u8 (1 + (j : Int)), .string ⟨#[]⟩, .slice none 0 0, .string ⟨#[]⟩] 31)
    rw [show (W.alloc (.cells #[.string (str sh.word), .bool sh.name, .bool sh.text, .int .i64 sh.least, .int .i64 sh.most] 83)).heap.size = W.heap.size + 1 by simp] at e
    exact blk_far e (by show W.heap.size + 1 ≠ w.heap.size + 1 + 1; omega) _
  · simp [World.setCell]
theorem HInv.word2 {n : Nat} {W : World} (h : HInv w ls o n W) (i : Nat) (x : ByteArray) (hx : ls[i]? = some x) (X Y : Obj) (v : Value) : (((W.alloc X).alloc Y).setCell ⟨w.heap.size + 1 + 1, 0, none⟩ v).cell? ⟨w.heap.size + 1, i, none⟩ = some (.string x) := by
  have hlt := h.lt
  have := Below.heap_setCell ((W.alloc X).alloc Y) ⟨w.heap.size + 1 + 1, 0, none⟩ v (w.heap.size + 1) (by show w.heap.size + 1 ≠ w.heap.size + 1 + 1; omega)
  have e2 : (((W.alloc X).alloc Y).setCell ⟨w.heap.size + 1 + 1, 0, none⟩ v).cell? ⟨w.heap.size + 1, i, none⟩ = ((W.alloc X).alloc Y).cell? ⟨w.heap.size + 1, i, none⟩ := by
    simp only [World.cell?, this]
  refine e2.trans ((World.cell?_alloc_lt _ _ _ (by simp; omega)).trans ((World.cell?_alloc_lt _ _ _ (by show w.heap.size + 1 < W.heap.size; omega)).trans (h.words i x hx)))
theorem CInv.fin (h : CInv w ls a m sh B kd nm v wr) (a0 b c d : Value) : ((((wr.setCell ⟨w.heap.size, 0, none⟩ a0).setCell ⟨w.heap.size, 1, none⟩ b).setCell ⟨w.heap.size, 2, none⟩ c).setCell ⟨w.heap.size, 3, none⟩ d).heap[w.heap.size]? = some (.cells #[a0, b, c, d] 31 (0, 0)) := four_blk h.res a0 b c d
theorem CInv.boxc (h : CInv w ls a m sh B kd nm v wr) : wr.cell? ⟨w.heap.size + 1 + 1, 0, none⟩ = some (.slice (some ⟨w.heap.size + 1, a, none⟩) m m) ∧ wr.frozen? ⟨w.heap.size + 1 + 1, 0, none⟩ = false := ⟨blk_cell h.box 0, blk_frozen h.box 0⟩
theorem CInv.shpc (h : CInv w ls a m sh B kd nm v wr) : wr.cell? ⟨B, 1, none⟩ = some (.bool sh.name) ∧ wr.cell? ⟨B, 2, none⟩ = some (.bool sh.text) ∧ wr.cell? ⟨B, 3, none⟩ = some (.int .i64 sh.least) ∧ wr.cell? ⟨B, 4, none⟩ = some (.int .i64 sh.most) := ⟨blk_cell h.shp 1, blk_cell h.shp 2, blk_cell h.shp 3, blk_cell h.shp 4⟩
theorem CInv.cmdc (h : CInv w ls a m sh B kd nm v wr) : wr.cell? ⟨B + 1, 0, none⟩ = some (.int .u8 kd) ∧ wr.cell? ⟨B + 1, 1, none⟩ = some (.string nm) ∧ wr.cell? ⟨B + 1, 2, none⟩ = some v ∧ wr.cell? ⟨B + 1, 3, none⟩ = some (.string ⟨#[]⟩) ∧ (∀ i, wr.frozen? ⟨B + 1, i, none⟩ = false) := ⟨blk_cell h.cmd 0, blk_cell h.cmd 1, blk_cell h.cmd 2, blk_cell h.cmd 3, fun i => blk_frozen h.cmd i⟩
theorem CInv.resc (h : CInv w ls a m sh B kd nm v wr) : wr.cell? ⟨w.heap.size, 0, none⟩ = some (.int .u8 0) ∧ wr.cell? ⟨w.heap.size, 1, none⟩ = some (.string ⟨#[]⟩) ∧ wr.cell? ⟨w.heap.size, 2, none⟩ = some (.slice none 0 0) ∧ wr.cell? ⟨w.heap.size, 3, none⟩ = some (.string ⟨#[]⟩) ∧ (∀ i, wr.frozen? ⟨w.heap.size, i, none⟩ = false) := ⟨blk_cell h.res 0, blk_cell h.res 1, blk_cell h.res 2, blk_cell h.res 3, fun i => blk_frozen h.res i⟩
theorem CInv.put (h : CInv w ls a m sh B kd nm v wr) (hE : EnvW w) (v1 : Value) : CInv w ls a m sh B kd nm v1 (wr.setCell ⟨B + 1, 2, none⟩ v1) := by
  obtain ⟨h0, h1, h2, h3, h4, h5, h6, h7, h8⟩ := h
  have hb : Below w.heap.size w (wr.setCell ⟨B + 1, 2, none⟩ v1) := below_set h1 (by show w.heap.size ≤ B + 1; omega)
  refine ⟨hE.below hb, hb, blk_far h2 (by show w.heap.size ≠ B + 1; omega) _, fun j x hx => ?_, blk_far h4 (by show w.heap.size + 1 + 1 ≠ B + 1; omega) _, blk_far h5 (by show B ≠ B + 1; omega) _, blk_put h6 2 _ rfl, h7, by simpa [World.setCell] using h8⟩
  have := Below.heap_setCell wr ⟨B + 1, 2, none⟩ v1 (w.heap.size + 1) (by show w.heap.size + 1 ≠ B + 1; omega)
  simpa [World.cell?, this] using h3 j x hx
theorem CInv.named (h : CInv w ls a m sh B kd nm v wr) (hE : EnvW w) (x : ByteArray) (a2 m2 : Nat) : CInv w ls a2 m2 sh B kd x v ((wr.setCell ⟨B + 1, 1, none⟩ (.string x)).setCell ⟨w.heap.size + 1 + 1, 0, none⟩ (.slice (some ⟨w.heap.size + 1, a2, none⟩) m2 m2)) := by
  obtain ⟨h0, h1, h2, h3, h4, h5, h6, h7, h8⟩ := h
  have hb : ∀ y, Below w.heap.size w ((wr.setCell ⟨B + 1, 1, none⟩ (.string x)).setCell ⟨w.heap.size + 1 + 1, 0, none⟩ y) := fun y => below_set (below_set h1 (by show w.heap.size ≤ B + 1; omega)) (by show w.heap.size ≤ w.heap.size + 1 + 1; omega)
  refine ⟨hE.below (hb _), hb _, blk_far (blk_far h2 (by show w.heap.size ≠ B + 1; omega) _) (by show w.heap.size ≠ w.heap.size + 1 + 1; omega) _, fun j y hy => ?_, blk_put (blk_far h4 (by show w.heap.size + 1 + 1 ≠ B + 1; omega) _) 0 _ rfl, blk_far (blk_far h5 (by show B ≠ B + 1; omega) _) (by show B ≠ w.heap.size + 1 + 1; omega) _, blk_far (blk_put h6 1 _ rfl) (by show B + 1 ≠ w.heap.size + 1 + 1; omega) _, h7, by simpa [World.setCell] using h8⟩
  have e1 := Below.heap_setCell wr ⟨B + 1, 1, none⟩ (.string x) (w.heap.size + 1) (by show w.heap.size + 1 ≠ B + 1; omega)
  have e2 := Below.heap_setCell (wr.setCell ⟨B + 1, 1, none⟩ (.string x)) ⟨w.heap.size + 1 + 1, 0, none⟩ (.slice (some ⟨w.heap.size + 1, a2, none⟩) m2 m2) (w.heap.size + 1) (by show w.heap.size + 1 ≠ w.heap.size + 1 + 1; omega)
  have := h3 j y hy
  simp only [World.cell?, e2, e1] at this ⊢
  exact this
theorem CInv.grow {v' : Value} {w1 : World} (h : CInv w ls a m sh B kd nm v wr) (hE : EnvW w) (hok : ∀ k, v'.ownBlock = some k → B + 1 < k) (hb : Below w.heap.size w w1) (hg : wr.grownBy w1 v'.ownBlock) : CInv w ls a m sh B kd nm v w1 := by
  obtain ⟨h0, h1, h2, h3, h4, h5, h6, h7, h8⟩ := h
  have hblk : ∀ i, i ≤ B + 1 → w1.heap[i]? = wr.heap[i]? := fun i hi => hg.block i (by omega) (fun e => by have := hok i e.symm; omega)
  refine ⟨hE.below hb, hb, (hblk _ (by omega)).trans h2, fun j x hx => ?_, (hblk _ (by omega)).trans h4, (hblk _ (by omega)).trans h5, (hblk _ (by omega)).trans h6, h7, blk_lt ((hblk _ (by omega)).trans h6)⟩
  have := h3 j x hx
  simpa [World.cell?, hblk (w.heap.size + 1) (by omega)] using this
end
set_option maxRecDepth 100000 in
set_option maxHeartbeats 4000000 in
theorem head_n1 (s : ByteArray) (w : World) (hs : s.size ≤ 1000000) (hE : EnvW w) (ls : List ByteArray) (x0 : ByteArray) (hp : piecesB s = ls) (hx0 : ls[0]? = some x0) (N : Nat) (hN : ls.length = N) (j : Nat) (sh : Shp) (hsh : shapesL[j]? = some sh) (HK : kindI x0.data.toList = (j : Int)) (hnm : sh.name = false) (htx : sh.text = true) (hc : (((N - 1 : Nat) : Int) == 1) = false) :
    Calls Tryd.prog 23 #[.string s] w fun e w' => e = .returned (.tuple #[.agg #[.int .u8 0, .string ⟨#[]⟩, .slice none 0 0, .string ⟨#[]⟩], .int .i64 0, .bool false]) ∧ Below w.heap.size w w' := by
  have hsplit := fun w h => split_calls s w hs h
  have hn : 0 < N := by
    have := (List.getElem?_eq_some_iff.1 hx0).1
    omega
  have hix := fun W (h : HInv w ls 0 N W) => index_ready h x0 hx0 hn
  have hlen := (pieces_len s hs).2
  rw [hp] at hsplit hlen
  rw [hN] at hsplit hlen
  clear hN
  have HSp := Aside0.mk hsplit
  have HE := Aside0.mk hE
  rw [HK] at hix
  have HIx := Aside0.mk hix
  have HX0 := Lib.hid hx0
  have hu31 := Tryd.underlying31
  have hu83 := Tryd.underlying83
  clear hsplit hE hp hix hx0
  have hj11 : j < 11 := by
    have := (List.getElem?_eq_some_iff.1 hsh).1
    exact this
  have hkn : decide ((j : Int) < 0) = false := decide_eq_false (by omega)
  have hi0 : 0 ≤ (j : Int) := by omega
  have hi1 : (j : Int) < 11 := by omega
  have HSh := Lib.hid hsh
  clear hsh
  go_enter Tryd.func23, Tryd.ntmps23
  have hc2 : (((N - 1 : Nat) : Int) != 1) = true := by rw [bne, hc]; rfl
  go_wp2_with (first | (go_at_call 46; refine (HSp.out _ (HE.out.below (below_alloc (Below.refl _ _) _))).mono ?_; rintro e w1 ⟨rfl, rfl⟩) | (go_at_call 47; refine (HIx.out _ (hinv_start w ls _ HE.out)).mono ?_; rintro e w2 ⟨rfl, hb2⟩; have HI2 := Aside0.mk ((hinv_start w ls _ HE.out).step hb2); clear hb2; obtain ⟨b0, bf⟩ := HI2.out.box2; obtain ⟨q0, q1, q2, q3, qf⟩ := HI2.out.res2c; have c0 : w2.cell? ⟨0, j * 5, none⟩ = some (.string (str sh.word)) := HI2.out.env.shp j sh HSh.out 0 _ rfl; have c1 : w2.cell? ⟨0, j * 5 + 1, none⟩ = some (.bool sh.name) := HI2.out.env.shp j sh HSh.out 1 _ rfl; have c2 : w2.cell? ⟨0, j * 5 + 2, none⟩ = some (.bool sh.text) := HI2.out.env.shp j sh HSh.out 2 _ rfl; have c3 : w2.cell? ⟨0, j * 5 + 3, none⟩ = some (.int .i64 sh.least) := HI2.out.env.shp j sh HSh.out 3 _ rfl; have c4 : w2.cell? ⟨0, j * 5 + 4, none⟩ = some (.int .i64 sh.most) := HI2.out.env.shp j sh HSh.out 4 _ rfl;))
  all_goals
    refine bodyPost_ret (results_list (rs := [.cell 2 31, .tmp 3, .tmp 4]) rfl (by simp) (.cell w.heap.size 31 #[.int .u8 0, .string ⟨#[]⟩, .slice none 0 0, .string ⟨#[]⟩] (0, 0) _ rfl (four_blk (HI2.out.res2 _ _ _) _ _ _ _) Tryd.underlying31 rfl (by kernel_rfl) (.tmp (.tmp .nil)))) rfl ?_
    exact ⟨rfl, four_below (HI2.out.below2 _ _ _) _ _ _ _⟩
set_option maxRecDepth 100000 in
set_option maxHeartbeats 4000000 in
theorem head_n3a (s : ByteArray) (w : World) (hs : s.size ≤ 1000000) (hE : EnvW w) (ls : List ByteArray) (x0 : ByteArray) (hp : piecesB s = ls) (hx0 : ls[0]? = some x0) (N : Nat) (hN : ls.length = N) (j : Nat) (sh : Shp) (hsh : shapesL[j]? = some sh) (HK : kindI x0.data.toList = (j : Int)) (hnm : sh.name = false) (htx : sh.text = false) (hc : decide (((N - 1 : Nat) : Int) < sh.least) = true) :
    Calls Tryd.prog 23 #[.string s] w fun e w' => e = .returned (.tuple #[.agg #[.int .u8 0, .string ⟨#[]⟩, .slice none 0 0, .string ⟨#[]⟩], .int .i64 0, .bool false]) ∧ Below w.heap.size w w' := by
  have hsplit := fun w h => split_calls s w hs h
  have hn : 0 < N := by
    have := (List.getElem?_eq_some_iff.1 hx0).1
    omega
  have hix := fun W (h : HInv w ls 0 N W) => index_ready h x0 hx0 hn
  have hlen := (pieces_len s hs).2
  rw [hp] at hsplit hlen
  rw [hN] at hsplit hlen
  clear hN
  have HSp := Aside0.mk hsplit
  have HE := Aside0.mk hE
  rw [HK] at hix
  have HIx := Aside0.mk hix
  have HX0 := Lib.hid hx0
  have hu31 := Tryd.underlying31
  have hu83 := Tryd.underlying83
  clear hsplit hE hp hix hx0
  have hj11 : j < 11 := by
    have := (List.getElem?_eq_some_iff.1 hsh).1
    exact this
  have hkn : decide ((j : Int) < 0) = false := decide_eq_false (by omega)
  have hi0 : 0 ≤ (j : Int) := by omega
  have hi1 : (j : Int) < 11 := by omega
  have HSh := Lib.hid hsh
  clear hsh
  go_enter Tryd.func23, Tryd.ntmps23
  go_wp2_with (first | (go_at_call 46; refine (HSp.out _ (HE.out.below (below_alloc (Below.refl _ _) _))).mono ?_; rintro e w1 ⟨rfl, rfl⟩) | (go_at_call 47; refine (HIx.out _ (hinv_start w ls _ HE.out)).mono ?_; rintro e w2 ⟨rfl, hb2⟩; have HI2 := Aside0.mk ((hinv_start w ls _ HE.out).step hb2); clear hb2; obtain ⟨b0, bf⟩ := HI2.out.box2; obtain ⟨q0, q1, q2, q3, qf⟩ := HI2.out.res2c; have c0 : w2.cell? ⟨0, j * 5, none⟩ = some (.string (str sh.word)) := HI2.out.env.shp j sh HSh.out 0 _ rfl; have c1 : w2.cell? ⟨0, j * 5 + 1, none⟩ = some (.bool sh.name) := HI2.out.env.shp j sh HSh.out 1 _ rfl; have c2 : w2.cell? ⟨0, j * 5 + 2, none⟩ = some (.bool sh.text) := HI2.out.env.shp j sh HSh.out 2 _ rfl; have c3 : w2.cell? ⟨0, j * 5 + 3, none⟩ = some (.int .i64 sh.least) := HI2.out.env.shp j sh HSh.out 3 _ rfl; have c4 : w2.cell? ⟨0, j * 5 + 4, none⟩ = some (.int .i64 sh.most) := HI2.out.env.shp j sh HSh.out 4 _ rfl;))
  all_goals
    refine bodyPost_ret (results_list (rs := [.cell 2 31, .tmp 3, .tmp 4]) rfl (by simp) (.cell w.heap.size 31 #[.int .u8 0, .string ⟨#[]⟩, .slice none 0 0, .string ⟨#[]⟩] (0, 0) _ rfl (four_blk (HI2.out.res2 _ _ _) _ _ _ _) Tryd.underlying31 rfl (by kernel_rfl) (.tmp (.tmp .nil)))) rfl ?_
    exact ⟨rfl, four_below (HI2.out.below2 _ _ _) _ _ _ _⟩
set_option maxRecDepth 100000 in
set_option maxHeartbeats 4000000 in
theorem head_n3b (s : ByteArray) (w : World) (hs : s.size ≤ 1000000) (hE : EnvW w) (ls : List ByteArray) (x0 : ByteArray) (hp : piecesB s = ls) (hx0 : ls[0]? = some x0) (N : Nat) (hN : ls.length = N) (j : Nat) (sh : Shp) (hsh : shapesL[j]? = some sh) (HK : kindI x0.data.toList = (j : Int)) (hnm : sh.name = false) (htx : sh.text = false) (hc : decide (((N - 1 : Nat) : Int) < sh.least) = false) (hc2 : decide (sh.most < ((N - 1 : Nat) : Int)) = true) :
    Calls Tryd.prog 23 #[.string s] w fun e w' => e = .returned (.tuple #[.agg #[.int .u8 0, .string ⟨#[]⟩, .slice none 0 0, .string ⟨#[]⟩], .int .i64 0, .bool false]) ∧ Below w.heap.size w w' := by
  have hsplit := fun w h => split_calls s w hs h
  have hn : 0 < N := by
    have := (List.getElem?_eq_some_iff.1 hx0).1
    omega
  have hix := fun W (h : HInv w ls 0 N W) => index_ready h x0 hx0 hn
  have hlen := (pieces_len s hs).2
  rw [hp] at hsplit hlen
  rw [hN] at hsplit hlen
  clear hN
  have HSp := Aside0.mk hsplit
  have HE := Aside0.mk hE
  rw [HK] at hix
  have HIx := Aside0.mk hix
  have HX0 := Lib.hid hx0
  have hu31 := Tryd.underlying31
  have hu83 := Tryd.underlying83
  clear hsplit hE hp hix hx0
  have hj11 : j < 11 := by
    have := (List.getElem?_eq_some_iff.1 hsh).1
    exact this
  have hkn : decide ((j : Int) < 0) = false := decide_eq_false (by omega)
  have hi0 : 0 ≤ (j : Int) := by omega
  have hi1 : (j : Int) < 11 := by omega
  have HSh := Lib.hid hsh
  clear hsh
  go_enter Tryd.func23, Tryd.ntmps23
  go_wp2_with (first | (go_at_call 46; refine (HSp.out _ (HE.out.below (below_alloc (Below.refl _ _) _))).mono ?_; rintro e w1 ⟨rfl, rfl⟩) | (go_at_call 47; refine (HIx.out _ (hinv_start w ls _ HE.out)).mono ?_; rintro e w2 ⟨rfl, hb2⟩; have HI2 := Aside0.mk ((hinv_start w ls _ HE.out).step hb2); clear hb2; obtain ⟨b0, bf⟩ := HI2.out.box2; obtain ⟨q0, q1, q2, q3, qf⟩ := HI2.out.res2c; have c0 : w2.cell? ⟨0, j * 5, none⟩ = some (.string (str sh.word)) := HI2.out.env.shp j sh HSh.out 0 _ rfl; have c1 : w2.cell? ⟨0, j * 5 + 1, none⟩ = some (.bool sh.name) := HI2.out.env.shp j sh HSh.out 1 _ rfl; have c2 : w2.cell? ⟨0, j * 5 + 2, none⟩ = some (.bool sh.text) := HI2.out.env.shp j sh HSh.out 2 _ rfl; have c3 : w2.cell? ⟨0, j * 5 + 3, none⟩ = some (.int .i64 sh.least) := HI2.out.env.shp j sh HSh.out 3 _ rfl; have c4 : w2.cell? ⟨0, j * 5 + 4, none⟩ = some (.int .i64 sh.most) := HI2.out.env.shp j sh HSh.out 4 _ rfl;))
  all_goals
    refine bodyPost_ret (results_list (rs := [.cell 2 31, .tmp 3, .tmp 4]) rfl (by simp) (.cell w.heap.size 31 #[.int .u8 0, .string ⟨#[]⟩, .slice none 0 0, .string ⟨#[]⟩] (0, 0) _ rfl (four_blk (HI2.out.res2 _ _ _) _ _ _ _) Tryd.underlying31 rfl (by kernel_rfl) (.tmp (.tmp .nil)))) rfl ?_
    exact ⟨rfl, four_below (HI2.out.below2 _ _ _) _ _ _ _⟩
set_option maxRecDepth 100000 in
set_option maxHeartbeats 4000000 in
theorem head_n2t (s : ByteArray) (w : World) (hs : s.size ≤ 1000000) (hE : EnvW w) (ls : List ByteArray) (x0 : ByteArray) (hp : piecesB s = ls) (hx0 : ls[0]? = some x0) (N : Nat) (hN : ls.length = N) (j : Nat) (sh : Shp) (hsh : shapesL[j]? = some sh) (HK : kindI x0.data.toList = (j : Int)) (hnm : sh.name = false) (htx : sh.text = true) (hc : (((N - 1 : Nat) : Int) == 1) = true) (x1 : ByteArray) (hx1 : ls[1]? = some x1) (vn : Int) (vb : Bool) (hnum : ∀ W, EnvW W → Calls Tryd.prog 50 #[.string x1] W fun e w' => e = .returned (.tuple #[.int .i64 vn, .bool vb]) ∧ Below W.heap.size W w') (hvb : vb = true) :
    Calls Tryd.prog 23 #[.string s] w fun e w' => e = .returned (.tuple #[.agg #[.int .u8 (1 + (j : Int)), .string ⟨#[]⟩, .slice none 0 0, .string ⟨#[]⟩], .int .i64 vn, .bool (decide (0 ≤ vn))]) ∧ Below w.heap.size w w' := by
  have hne1 : ¬ N = 1 := fun e => by have := (List.getElem?_eq_some_iff.1 hx1).1; omega
  have hsplit := fun w h => split_calls s w hs h
  have hn : 0 < N := by
    have := (List.getElem?_eq_some_iff.1 hx0).1
    omega
  have hix := fun W (h : HInv w ls 0 N W) => index_ready h x0 hx0 hn
  have hlen := (pieces_len s hs).2
  rw [hp] at hsplit hlen
  rw [hN] at hsplit hlen
  clear hN
  have HSp := Aside0.mk hsplit
  have HE := Aside0.mk hE
  rw [HK] at hix
  have HIx := Aside0.mk hix
  have HX0 := Lib.hid hx0
  have hu31 := Tryd.underlying31
  have hu83 := Tryd.underlying83
  clear hsplit hE hp hix hx0
  have hj11 : j < 11 := by
    have := (List.getElem?_eq_some_iff.1 hsh).1
    exact this
  have hkn : decide ((j : Int) < 0) = false := decide_eq_false (by omega)
  have hi0 : 0 ≤ (j : Int) := by omega
  have hi1 : (j : Int) < 11 := by omega
  have HSh := Lib.hid hsh
  clear hsh
  have HX1 := Lib.hid hx1
  clear hx1
  have HNum := Aside0.mk hnum
  clear hnum
  subst hvb
  have hc2 : (((N - 1 : Nat) : Int) != 1) = false := by rw [bne, hc]; rfl
  go_enter Tryd.func23, Tryd.ntmps23
  go_wp2_with (first | (go_at_call 46; refine (HSp.out _ (HE.out.below (below_alloc (Below.refl _ _) _))).mono ?_; rintro e w1 ⟨rfl, rfl⟩) | (go_at_call 47; refine (HIx.out _ (hinv_start w ls _ HE.out)).mono ?_; rintro e w2 ⟨rfl, hb2⟩; have HI2 := Aside0.mk ((hinv_start w ls _ HE.out).step hb2); clear hb2; obtain ⟨b0, bf⟩ := HI2.out.box2; obtain ⟨q0, q1, q2, q3, qf⟩ := HI2.out.res2c; have c0 : w2.cell? ⟨0, j * 5, none⟩ = some (.string (str sh.word)) := HI2.out.env.shp j sh HSh.out 0 _ rfl; have c1 : w2.cell? ⟨0, j * 5 + 1, none⟩ = some (.bool sh.name) := HI2.out.env.shp j sh HSh.out 1 _ rfl; have c2 : w2.cell? ⟨0, j * 5 + 2, none⟩ = some (.bool sh.text) := HI2.out.env.shp j sh HSh.out 2 _ rfl; have c3 : w2.cell? ⟨0, j * 5 + 3, none⟩ = some (.int .i64 sh.least) := HI2.out.env.shp j sh HSh.out 3 _ rfl; have c4 : w2.cell? ⟨0, j * 5 + 4, none⟩ = some (.int .i64 sh.most) := HI2.out.env.shp j sh HSh.out 4 _ rfl;have p1 : ∀ X Y v, (((w2.alloc X).alloc Y).setCell ⟨w.heap.size + 1 + 1, 0, none⟩ v).cell? ⟨w.heap.size + 1, 1, none⟩ = some (.string x1) := fun X Y v => HI2.out.word2 1 x1 HX1.out X Y v;) | (go_at_call 50; refine (HNum.out _ (HE.out.below (HI2.out.below2 _ _ _))).mono ?_; rintro e w3 ⟨rfl, hb3⟩; have HC3 := Aside0.mk ((cinv_start (sh := sh) (j := j) HE.out HI2.out).step (by rw [hnm, htx]; exact hb3)); clear hb3;obtain ⟨d0, d1⟩ := HC3.out.boxc; obtain ⟨e1, e2, e3, e4⟩ := HC3.out.shpc; obtain ⟨f0, f1, f2, f3, ff⟩ := HC3.out.cmdc; obtain ⟨g0, g1, g2, g3, gf⟩ := HC3.out.resc; have k1 := HC3.out.words 1 x1 HX1.out;))
  all_goals
    refine bodyPost_ret (results_list (rs := [.cell 2 31, .tmp 3, .tmp 4]) rfl (by simp) (.cell w.heap.size 31 #[.int .u8 (1 + (j : Int)), .string ⟨#[]⟩, .slice none 0 0, .string ⟨#[]⟩] (0, 0) _ rfl (HC3.out.fin _ _ _ _) Tryd.underlying31 rfl (by kernel_rfl) (.tmp (.tmp .nil)))) rfl ?_
    exact ⟨rfl, four_below HC3.out.below _ _ _ _⟩
set_option maxRecDepth 100000 in
set_option maxHeartbeats 4000000 in
theorem head_n2f (s : ByteArray) (w : World) (hs : s.size ≤ 1000000) (hE : EnvW w) (ls : List ByteArray) (x0 : ByteArray) (hp : piecesB s = ls) (hx0 : ls[0]? = some x0) (N : Nat) (hN : ls.length = N) (j : Nat) (sh : Shp) (hsh : shapesL[j]? = some sh) (HK : kindI x0.data.toList = (j : Int)) (hnm : sh.name = false) (htx : sh.text = true) (hc : (((N - 1 : Nat) : Int) == 1) = true) (x1 : ByteArray) (hx1 : ls[1]? = some x1) (vn : Int) (vb : Bool) (hnum : ∀ W, EnvW W → Calls Tryd.prog 50 #[.string x1] W fun e w' => e = .returned (.tuple #[.int .i64 vn, .bool vb]) ∧ Below W.heap.size W w') (hvb : vb = false) :
    Calls Tryd.prog 23 #[.string s] w fun e w' => e = .returned (.tuple #[.agg #[.int .u8 (1 + (j : Int)), .string ⟨#[]⟩, .slice none 0 0, .string ⟨#[]⟩], .int .i64 vn, .bool false]) ∧ Below w.heap.size w w' := by
  have hne1 : ¬ N = 1 := fun e => by have := (List.getElem?_eq_some_iff.1 hx1).1; omega
  have hsplit := fun w h => split_calls s w hs h
  have hn : 0 < N := by
    have := (List.getElem?_eq_some_iff.1 hx0).1
    omega
  have hix := fun W (h : HInv w ls 0 N W) => index_ready h x0 hx0 hn
  have hlen := (pieces_len s hs).2
  rw [hp] at hsplit hlen
  rw [hN] at hsplit hlen
  clear hN
  have HSp := Aside0.mk hsplit
  have HE := Aside0.mk hE
  rw [HK] at hix
  have HIx := Aside0.mk hix
  have HX0 := Lib.hid hx0
  have hu31 := Tryd.underlying31
  have hu83 := Tryd.underlying83
  clear hsplit hE hp hix hx0
  have hj11 : j < 11 := by
    have := (List.getElem?_eq_some_iff.1 hsh).1
    exact this
  have hkn : decide ((j : Int) < 0) = false := decide_eq_false (by omega)
  have hi0 : 0 ≤ (j : Int) := by omega
  have hi1 : (j : Int) < 11 := by omega
  have HSh := Lib.hid hsh
  clear hsh
  have HX1 := Lib.hid hx1
  clear hx1
  have HNum := Aside0.mk hnum
  clear hnum
  subst hvb
  have hc2 : (((N - 1 : Nat) : Int) != 1) = false := by rw [bne, hc]; rfl
  go_enter Tryd.func23, Tryd.ntmps23
  go_wp2_with (first | (go_at_call 46; refine (HSp.out _ (HE.out.below (below_alloc (Below.refl _ _) _))).mono ?_; rintro e w1 ⟨rfl, rfl⟩) | (go_at_call 47; refine (HIx.out _ (hinv_start w ls _ HE.out)).mono ?_; rintro e w2 ⟨rfl, hb2⟩; have HI2 := Aside0.mk ((hinv_start w ls _ HE.out).step hb2); clear hb2; obtain ⟨b0, bf⟩ := HI2.out.box2; obtain ⟨q0, q1, q2, q3, qf⟩ := HI2.out.res2c; have c0 : w2.cell? ⟨0, j * 5, none⟩ = some (.string (str sh.word)) := HI2.out.env.shp j sh HSh.out 0 _ rfl; have c1 : w2.cell? ⟨0, j * 5 + 1, none⟩ = some (.bool sh.name) := HI2.out.env.shp j sh HSh.out 1 _ rfl; have c2 : w2.cell? ⟨0, j * 5 + 2, none⟩ = some (.bool sh.text) := HI2.out.env.shp j sh HSh.out 2 _ rfl; have c3 : w2.cell? ⟨0, j * 5 + 3, none⟩ = some (.int .i64 sh.least) := HI2.out.env.shp j sh HSh.out 3 _ rfl; have c4 : w2.cell? ⟨0, j * 5 + 4, none⟩ = some (.int .i64 sh.most) := HI2.out.env.shp j sh HSh.out 4 _ rfl;have p1 : ∀ X Y v, (((w2.alloc X).alloc Y).setCell ⟨w.heap.size + 1 + 1, 0, none⟩ v).cell? ⟨w.heap.size + 1, 1, none⟩ = some (.string x1) := fun X Y v => HI2.out.word2 1 x1 HX1.out X Y v;) | (go_at_call 50; refine (HNum.out _ (HE.out.below (HI2.out.below2 _ _ _))).mono ?_; rintro e w3 ⟨rfl, hb3⟩; have HC3 := Aside0.mk ((cinv_start (sh := sh) (j := j) HE.out HI2.out).step (by rw [hnm, htx]; exact hb3)); clear hb3;obtain ⟨d0, d1⟩ := HC3.out.boxc; obtain ⟨e1, e2, e3, e4⟩ := HC3.out.shpc; obtain ⟨f0, f1, f2, f3, ff⟩ := HC3.out.cmdc; obtain ⟨g0, g1, g2, g3, gf⟩ := HC3.out.resc; have k1 := HC3.out.words 1 x1 HX1.out;))
  all_goals
    refine bodyPost_ret (results_list (rs := [.cell 2 31, .tmp 3, .tmp 4]) rfl (by simp) (.cell w.heap.size 31 #[.int .u8 (1 + (j : Int)), .string ⟨#[]⟩, .slice none 0 0, .string ⟨#[]⟩] (0, 0) _ rfl (HC3.out.fin _ _ _ _) Tryd.underlying31 rfl (by kernel_rfl) (.tmp (.tmp .nil)))) rfl ?_
    exact ⟨rfl, four_below HC3.out.below _ _ _ _⟩
set_option maxRecDepth 100000 in
set_option maxHeartbeats 4000000 in
theorem head_t2 (s : ByteArray) (w : World) (hs : s.size ≤ 1000000) (hE : EnvW w) (ls : List ByteArray) (x0 : ByteArray) (hp : piecesB s = ls) (hx0 : ls[0]? = some x0) (N : Nat) (hN : ls.length = N) (j : Nat) (sh : Shp) (hsh : shapesL[j]? = some sh) (HK : kindI x0.data.toList = (j : Int)) (hnm : sh.name = true) (x1 : ByteArray) (hx1 : ls[1]? = some x1) (hnam : ∀ W, EnvW W → Calls Tryd.prog 49 #[.string x1] W fun e w' => e = .returned (.bool false) ∧ Below W.heap.size W w') :
    Calls Tryd.prog 23 #[.string s] w fun e w' => e = .returned (.tuple #[.agg #[.int .u8 0, .string ⟨#[]⟩, .slice none 0 0, .string ⟨#[]⟩], .int .i64 0, .bool false]) ∧ Below w.heap.size w w' := by
  have hne1 : ¬ N = 1 := fun e => by have := (List.getElem?_eq_some_iff.1 hx1).1; omega
  have hsplit := fun w h => split_calls s w hs h
  have hn : 0 < N := by
    have := (List.getElem?_eq_some_iff.1 hx0).1
    omega
  have hix := fun W (h : HInv w ls 0 N W) => index_ready h x0 hx0 hn
  have hlen := (pieces_len s hs).2
  rw [hp] at hsplit hlen
  rw [hN] at hsplit hlen
  clear hN
  have HSp := Aside0.mk hsplit
  have HE := Aside0.mk hE
  rw [HK] at hix
  have HIx := Aside0.mk hix
  have HX0 := Lib.hid hx0
  have hu31 := Tryd.underlying31
  have hu83 := Tryd.underlying83
  clear hsplit hE hp hix hx0
  have hj11 : j < 11 := by
    have := (List.getElem?_eq_some_iff.1 hsh).1
    exact this
  have hkn : decide ((j : Int) < 0) = false := decide_eq_false (by omega)
  have hi0 : 0 ≤ (j : Int) := by omega
  have hi1 : (j : Int) < 11 := by omega
  have HSh := Lib.hid hsh
  clear hsh
  have HX1 := Lib.hid hx1
  clear hx1
  have HNm := Aside0.mk hnam
  clear hnam
  have hl2 : (((N - 1 : Nat) : Int) == 0) = false := beq_eq_false_iff_ne.mpr (by omega)
  go_enter Tryd.func23, Tryd.ntmps23
  go_wp2_with (first | (go_at_call 46; refine (HSp.out _ (HE.out.below (below_alloc (Below.refl _ _) _))).mono ?_; rintro e w1 ⟨rfl, rfl⟩) | (go_at_call 47; refine (HIx.out _ (hinv_start w ls _ HE.out)).mono ?_; rintro e w2 ⟨rfl, hb2⟩; have HI2 := Aside0.mk ((hinv_start w ls _ HE.out).step hb2); clear hb2; obtain ⟨b0, bf⟩ := HI2.out.box2; obtain ⟨q0, q1, q2, q3, qf⟩ := HI2.out.res2c; have c0 : w2.cell? ⟨0, j * 5, none⟩ = some (.string (str sh.word)) := HI2.out.env.shp j sh HSh.out 0 _ rfl; have c1 : w2.cell? ⟨0, j * 5 + 1, none⟩ = some (.bool sh.name) := HI2.out.env.shp j sh HSh.out 1 _ rfl; have c2 : w2.cell? ⟨0, j * 5 + 2, none⟩ = some (.bool sh.text) := HI2.out.env.shp j sh HSh.out 2 _ rfl; have c3 : w2.cell? ⟨0, j * 5 + 3, none⟩ = some (.int .i64 sh.least) := HI2.out.env.shp j sh HSh.out 3 _ rfl; have c4 : w2.cell? ⟨0, j * 5 + 4, none⟩ = some (.int .i64 sh.most) := HI2.out.env.shp j sh HSh.out 4 _ rfl;have p1 : ∀ X Y v, (((w2.alloc X).alloc Y).setCell ⟨w.heap.size + 1 + 1, 0, none⟩ v).cell? ⟨w.heap.size + 1, 1, none⟩ = some (.string x1) := fun X Y v => HI2.out.word2 1 x1 HX1.out X Y v;) | (go_at_call 49; refine (HNm.out _ (HE.out.below (HI2.out.below2 _ _ _))).mono ?_; rintro e w3 ⟨rfl, hb3⟩; have HC3 := Aside0.mk ((cinv_start (sh := sh) (j := j) HE.out HI2.out).step (by rw [hnm]; exact hb3)); clear hb3;obtain ⟨d0, d1⟩ := HC3.out.boxc; obtain ⟨e1, e2, e3, e4⟩ := HC3.out.shpc; obtain ⟨f0, f1, f2, f3, ff⟩ := HC3.out.cmdc; obtain ⟨g0, g1, g2, g3, gf⟩ := HC3.out.resc; have k1 := HC3.out.words 1 x1 HX1.out;))
  all_goals
    refine bodyPost_ret (results_list (rs := [.cell 2 31, .tmp 3, .tmp 4]) rfl (by simp) (.cell w.heap.size 31 #[.int .u8 0, .string ⟨#[]⟩, .slice none 0 0, .string ⟨#[]⟩] (0, 0) _ rfl (HC3.out.fin _ _ _ _) Tryd.underlying31 rfl (by kernel_rfl) (.tmp (.tmp .nil)))) rfl ?_
    exact ⟨rfl, four_below HC3.out.below _ _ _ _⟩
end Go.Proofs.YtmciflmlpnpkaaaDoor.Pa
