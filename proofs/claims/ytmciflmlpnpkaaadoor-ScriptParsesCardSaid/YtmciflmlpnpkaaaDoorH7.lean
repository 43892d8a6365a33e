import Derived.Test.YtmciflmlpnpkaaaDoorH6
namespace Go.Proofs.YtmciflmlpnpkaaaDoor.Pa
open Go.RowKit Go.Proofs.YtmciflmlpnpkaaaDoorW.PrintWords Go.Proofs.YtmciflmlpnpkaaaDoorW.PrintLast Go.Proofs.YtmciflmlpnpkaaaDoorW.PrintMore
set_option linter.unusedVariables false
set_option linter.unusedSimpArgs false

/-- What head keeps: the result's block, the words' array, the box of the rest of the words. -/
structure HInv (w : World) (ls : List ByteArray) (o n : Nat) (wr : World) : Prop where
  env : EnvW wr
  below : Below w.heap.size w wr
  res : wr.heap[w.heap.size]? = some (.cells #[.int .u8 0, .string ⟨#[]⟩, .slice none 0 0, .string ⟨#[]⟩] 31 (0, 0))
  words : ∀ (j : Nat) x, ls[j]? = some x → wr.cell? ⟨w.heap.size + 1, j, none⟩ = some (.string x)
  box : wr.heap[w.heap.size + 2]? = some (.cells #[.slice (some ⟨w.heap.size + 1, o, none⟩) n n] 34 (0, 0))
  lt : w.heap.size + 2 < wr.heap.size
theorem HInv.step {w : World} {ls : List ByteArray} {o n : Nat} {wr w1 : World} (h : HInv w ls o n wr) (hb : Below wr.heap.size wr w1) : HInv w ls o n w1 := by
  obtain ⟨h0, h1, h2, h3, h4, h5⟩ := h
  refine ⟨h0.below hb, below_then h1 h1.size hb, blk_below h2 hb, fun j x hx => (hb.cell (by show w.heap.size + 1 < wr.heap.size; omega)).trans (h3 j x hx), blk_below h4 hb, ?_⟩
  have := hb.size
  omega
theorem hinv_start (w : World) (ls : List ByteArray) (N : Nat) (hE : EnvW w) :
    HInv w ls 0 N (((w.alloc (.cells #[.int .u8 0, .string ⟨#[]⟩, .slice none 0 0, .string ⟨#[]⟩] 31)).alloc (.cells (ls.map Value.string).toArray 9)).alloc (.cells #[.slice (some ⟨w.heap.size + 1, 0, none⟩) N N] 34)) := by
  have hb1 : Below w.heap.size w (w.alloc (.cells #[.int .u8 0, .string ⟨#[]⟩, .slice none 0 0, .string ⟨#[]⟩] 31)) := below_alloc (Below.refl _ _) _
  have hb2 : ∀ X, Below w.heap.size w ((w.alloc (.cells #[.int .u8 0, .string ⟨#[]⟩, .slice none 0 0, .string ⟨#[]⟩] 31)).alloc X) := fun X => below_alloc hb1 _
  have hb3 : ∀ X Y, Below w.heap.size w (((w.alloc (.cells #[.int .u8 0, .string ⟨#[]⟩, .slice none 0 0, .string ⟨#[]⟩] 31)).alloc X).alloc Y) := fun X Y => below_alloc (hb2 X) _
  have s1 : ∀ R, (w.alloc R).heap.size = w.heap.size + 1 := fun R => by simp
  have s2 : ∀ R X, ((w.alloc R).alloc X).heap.size = w.heap.size + 2 := fun R X => by simp
  refine ⟨hE.below (hb3 _ _), hb3 _ _, ?_, ?_, ?_, by simp⟩
  · exact blk_alloc (blk_alloc (blk_new w _) _) _
  · intro j x hx
    have h1 := World.cell?_alloc_mark (w.alloc (.cells #[.int .u8 0, .string ⟨#[]⟩, .slice none 0 0, .string ⟨#[]⟩] 31)) (ls.map Value.string).toArray 9 (0, 0) j
    rw [s1] at h1
    refine (World.cell?_alloc_lt _ _ _ (by rw [s2]; show w.heap.size + 1 < w.heap.size + 2; omega)).trans (h1.trans ?_)
    simp [hx]
  · have := blk_new ((w.alloc (.cells #[.int .u8 0, .string ⟨#[]⟩, .slice none 0 0, .string ⟨#[]⟩] 31)).alloc (.cells (ls.map Value.string).toArray 9)) (.cells #[.slice (some ⟨w.heap.size + 1, 0, none⟩) N N] 34)
    rw [s2] at this
    exact this
theorem four_blk {W : World} {R : Nat} {x0 x1 x2 x3 : Value} (h : W.heap[R]? = some (.cells #[x0, x1, x2, x3] 31 (0, 0))) (a b c d : Value) :
    ((((W.setCell ⟨R, 0, none⟩ a).setCell ⟨R, 1, none⟩ b).setCell ⟨R, 2, none⟩ c).setCell ⟨R, 3, none⟩ d).heap[R]? = some (.cells #[a, b, c, d] 31 (0, 0)) :=
  blk_put (blk_put (blk_put (blk_put h 0 _ rfl) 1 _ rfl) 2 _ rfl) 3 _ rfl
theorem four_below {w W : World} (h : Below w.heap.size w W) (a b c d : Value) :
    Below w.heap.size w ((((W.setCell ⟨w.heap.size, 0, none⟩ a).setCell ⟨w.heap.size, 1, none⟩ b).setCell ⟨w.heap.size, 2, none⟩ c).setCell ⟨w.heap.size, 3, none⟩ d) :=
  below_set (below_set (below_set (below_set h (Nat.le_refl _)) (Nat.le_refl _)) (Nat.le_refl _)) (Nat.le_refl _)
theorem HInv.box2 {w : World} {ls : List ByteArray} {o n : Nat} {W : World} (h : HInv w ls o n W) : (∀ X Y, ((W.alloc X).alloc Y).cell? ⟨w.heap.size + 1 + 1, 0, none⟩ = some (.slice (some ⟨w.heap.size + 1, o, none⟩) n n)) ∧ (∀ X Y, ((W.alloc X).alloc Y).frozen? ⟨w.heap.size + 1 + 1, 0, none⟩ = false) :=
  ⟨fun X Y => blk_cell (blk_alloc (blk_alloc h.box X) Y) 0, fun X Y => blk_frozen (blk_alloc (blk_alloc h.box X) Y) 0⟩
theorem HInv.res2 {w : World} {ls : List ByteArray} {o n : Nat} {W : World} (h : HInv w ls o n W) (X Y : Obj) (v : Value) : (((W.alloc X).alloc Y).setCell ⟨w.heap.size + 1 + 1, 0, none⟩ v).heap[w.heap.size]? = some (.cells #[.int .u8 0, .string ⟨#[]⟩, .slice none 0 0, .string ⟨#[]⟩] 31 (0, 0)) :=
  blk_far (blk_alloc (blk_alloc h.res X) Y) (by show w.heap.size ≠ w.heap.size + 1 + 1; omega) _
theorem HInv.below2 {w : World} {ls : List ByteArray} {o n : Nat} {W : World} (h : HInv w ls o n W) (X Y : Obj) (v : Value) : Below w.heap.size w (((W.alloc X).alloc Y).setCell ⟨w.heap.size + 1 + 1, 0, none⟩ v) :=
  below_set (below_alloc (below_alloc h.below X) Y) (by show w.heap.size ≤ w.heap.size + 1 + 1; omega)
theorem HInv.res2c {w : World} {ls : List ByteArray} {o n : Nat} {W : World} (h : HInv w ls o n W) :
    (∀ X Y v, (((W.alloc X).alloc Y).setCell ⟨w.heap.size + 1 + 1, 0, none⟩ v).cell? ⟨w.heap.size, 0, none⟩ = some (.int .u8 0)) ∧
    (∀ X Y v, (((W.alloc X).alloc Y).setCell ⟨w.heap.size + 1 + 1, 0, none⟩ v).cell? ⟨w.heap.size, 1, none⟩ = some (.string ⟨#[]⟩)) ∧
    (∀ X Y v, (((W.alloc X).alloc Y).setCell ⟨w.heap.size + 1 + 1, 0, none⟩ v).cell? ⟨w.heap.size, 2, none⟩ = some (.slice none 0 0)) ∧
    (∀ X Y v, (((W.alloc X).alloc Y).setCell ⟨w.heap.size + 1 + 1, 0, none⟩ v).cell? ⟨w.heap.size, 3, none⟩ = some (.string ⟨#[]⟩)) ∧
    (∀ X Y v i, (((W.alloc X).alloc Y).setCell ⟨w.heap.size + 1 + 1, 0, none⟩ v).frozen? ⟨w.heap.size, i, none⟩ = false) :=
  ⟨fun X Y v => blk_cell (h.res2 X Y v) 0, fun X Y v => blk_cell (h.res2 X Y v) 1, fun X Y v => blk_cell (h.res2 X Y v) 2, fun X Y v => blk_cell (h.res2 X Y v) 3, fun X Y v i => blk_frozen (h.res2 X Y v) i⟩
theorem index_ready {w : World} {ls : List ByteArray} {N : Nat} {W : World} (h : HInv w ls 0 N W) (x0 : ByteArray) (hx0 : ls[0]? = some x0) (hn : 0 < N) :
    Calls Tryd.prog 47 #[.slice (some ⟨0, 0, none⟩) 11 11, .func (.func 48) #[] #[.pointer (some ⟨w.heap.size + 1 + 1, 0, none⟩)]] W fun e w' => e = .returned (.int .i64 (kindI x0.data.toList)) ∧ Below W.heap.size W w' :=
  index_calls (w.heap.size + 1 + 1) N N (w.heap.size + 1) x0 W h.env (blk_cell h.box 0) (h.words 0 x0 hx0) hn h.lt (by have := h.lt; omega)
set_option maxRecDepth 100000 in
set_option maxHeartbeats 4000000 in
theorem head_none (s : ByteArray) (w : World) (hs : s.size ≤ 1000000) (hE : EnvW w) (ls : List ByteArray) (x0 : ByteArray) (hp : piecesB s = ls) (hx0 : ls[0]? = some x0) (N : Nat) (hN : ls.length = N) (kk : Int) (HK : kindI x0.data.toList = kk) (hk : kk < 0) :
    Calls Tryd.prog 23 #[.string s] w fun e w' => e = .returned (.tuple #[.agg #[.int .u8 0, .string ⟨#[]⟩, .slice none 0 0, .string ⟨#[]⟩], .int .i64 0, .bool false]) ∧ Below w.heap.size w w' := by
  have hsplit := fun w h => split_calls s w hs h
  have hn : 0 < N := by
    have := (List.getElem?_eq_some_iff.1 hx0).1
    omega
  have hix := fun W (h : HInv w ls 0 N W) => index_ready h x0 hx0 hn
  have hlen := (pieces_len s hs).2
  rw [hp] at hsplit hlen
  rw [hN] at hsplit hlen
  clear hN
  have HSp := Aside0.mk hsplit
  have HE := Aside0.mk hE
  rw [HK] at hix
  have HIx := Aside0.mk hix
  have HX0 := Lib.hid hx0
  have hu31 := Tryd.underlying31
  have hu83 := Tryd.underlying83
  clear hsplit hE hp hix hx0
  go_enter Tryd.func23, Tryd.ntmps23
  have hk1 : decide (kk < 0) = true := decide_eq_true hk
  clear hk
  go_wp2_with (first | (go_at_call 46; refine (HSp.out _ (HE.out.below (below_alloc (Below.refl _ _) _))).mono ?_; rintro e w1 ⟨rfl, rfl⟩) | (go_at_call 47; refine (HIx.out _ (hinv_start w ls _ HE.out)).mono ?_; rintro e w2 ⟨rfl, hb2⟩; have HI2 := Aside0.mk ((hinv_start w ls _ HE.out).step hb2); clear hb2; obtain ⟨b0, bf⟩ := HI2.out.box2; have r0 := blk_cell HI2.out.res 0; have r1 := blk_cell HI2.out.res 1; have r2 := blk_cell HI2.out.res 2; have r3 := blk_cell HI2.out.res 3; have rf := (fun i => blk_frozen HI2.out.res i)))
  refine bodyPost_ret (results_list (rs := [.cell 2 31, .tmp 3, .tmp 4]) rfl (by simp) (.cell w.heap.size 31 #[.int .u8 0, .string ⟨#[]⟩, .slice none 0 0, .string ⟨#[]⟩] (0, 0) _ rfl (four_blk HI2.out.res _ _ _ _) Tryd.underlying31 rfl (by kernel_rfl) (.tmp (.tmp .nil)))) rfl ?_
  exact ⟨rfl, four_below HI2.out.below _ _ _ _⟩
set_option maxRecDepth 100000 in
set_option maxHeartbeats 4000000 in
theorem head_t1 (s : ByteArray) (w : World) (hs : s.size ≤ 1000000) (hE : EnvW w) (ls : List ByteArray) (x0 : ByteArray) (hp : piecesB s = ls) (hx0 : ls[0]? = some x0) (N : Nat) (hN : ls.length = N) (j : Nat) (sh : Shp) (hsh : shapesL[j]? = some sh) (HK : kindI x0.data.toList = (j : Int)) (hnm : sh.name = true) (h1 : N = 1) :
    Calls Tryd.prog 23 #[.string s] w fun e w' => e = .returned (.tuple #[.agg #[.int .u8 0, .string ⟨#[]⟩, .slice none 0 0, .string ⟨#[]⟩], .int .i64 0, .bool false]) ∧ Below w.heap.size w w' := by
  have hsplit := fun w h => split_calls s w hs h
  have hn : 0 < N := by
    have := (List.getElem?_eq_some_iff.1 hx0).1
    omega
  have hix := fun W (h : HInv w ls 0 N W) => index_ready h x0 hx0 hn
  have hlen := (pieces_len s hs).2
  rw [hp] at hsplit hlen
  rw [hN] at hsplit hlen
  clear hN
  have HSp := Aside0.mk hsplit
  have HE := Aside0.mk hE
  rw [HK] at hix
  have HIx := Aside0.mk hix
  have HX0 := Lib.hid hx0
  have hu31 := Tryd.underlying31
  have hu83 := Tryd.underlying83
  clear hsplit hE hp hix hx0
  have hj11 : j < 11 := by
    have := (List.getElem?_eq_some_iff.1 hsh).1
    exact this
  have hkn : decide ((j : Int) < 0) = false := decide_eq_false (by omega)
  have hi0 : 0 ≤ (j : Int) := by omega
  have hi1 : (j : Int) < 11 := by omega
  have HSh := Lib.hid hsh
  clear hsh
  subst h1
  go_enter Tryd.func23, Tryd.ntmps23
  go_wp2_with (first | (go_at_call 46; refine (HSp.out _ (HE.out.below (below_alloc (Below.refl _ _) _))).mono ?_; rintro e w1 ⟨rfl, rfl⟩) | (go_at_call 47; refine (HIx.out _ (hinv_start w ls _ HE.out)).mono ?_; rintro e w2 ⟨rfl, hb2⟩; have HI2 := Aside0.mk ((hinv_start w ls _ HE.out).step hb2); clear hb2; obtain ⟨b0, bf⟩ := HI2.out.box2; obtain ⟨q0, q1, q2, q3, qf⟩ := HI2.out.res2c; have c0 : w2.cell? ⟨0, j * 5, none⟩ = some (.string (str sh.word)) := HI2.out.env.shp j sh HSh.out 0 _ rfl; have c1 : w2.cell? ⟨0, j * 5 + 1, none⟩ = some (.bool sh.name) := HI2.out.env.shp j sh HSh.out 1 _ rfl; have c2 : w2.cell? ⟨0, j * 5 + 2, none⟩ = some (.bool sh.text) := HI2.out.env.shp j sh HSh.out 2 _ rfl; have c3 : w2.cell? ⟨0, j * 5 + 3, none⟩ = some (.int .i64 sh.least) := HI2.out.env.shp j sh HSh.out 3 _ rfl; have c4 : w2.cell? ⟨0, j * 5 + 4, none⟩ = some (.int .i64 sh.most) := HI2.out.env.shp j sh HSh.out 4 _ rfl;))
  refine bodyPost_ret (results_list (rs := [.cell 2 31, .tmp 3, .tmp 4]) rfl (by simp) (.cell w.heap.size 31 #[.int .u8 0, .string ⟨#[]⟩, .slice none 0 0, .string ⟨#[]⟩] (0, 0) _ rfl (four_blk (HI2.out.res2 _ _ _) _ _ _ _) Tryd.underlying31 rfl (by kernel_rfl) (.tmp (.tmp .nil)))) rfl ?_
  exact ⟨rfl, four_below (HI2.out.below2 _ _ _) _ _ _ _⟩
end Go.Proofs.YtmciflmlpnpkaaaDoor.Pa
