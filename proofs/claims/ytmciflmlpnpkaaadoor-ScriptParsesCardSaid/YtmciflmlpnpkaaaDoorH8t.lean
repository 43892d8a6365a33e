import Derived.Test.YtmciflmlpnpkaaaDoorH8
namespace Go.Proofs.YtmciflmlpnpkaaaDoor.Pa
open Go.RowKit Go.Proofs.YtmciflmlpnpkaaaDoorW.PrintWords Go.Proofs.YtmciflmlpnpkaaaDoorW.PrintLast Go.Proofs.YtmciflmlpnpkaaaDoorW.PrintMore
set_option linter.unusedVariables false
set_option linter.unusedSimpArgs false
theorem set_far {W : World} {p : Addr} {v u : Value} {b i : Nat} (h : W.cell? ⟨b, i, none⟩ = some u) (hne : b ≠ p.block) : (W.setCell p v).cell? ⟨b, i, none⟩ = some u := by
  have := Below.heap_setCell W p v b hne
  simpa [World.cell?, this] using h
set_option maxRecDepth 100000 in
set_option maxHeartbeats 4000000 in
theorem head_t3aA (s : ByteArray) (w : World) (hs : s.size ≤ 1000000) (hE : EnvW w) (ls : List ByteArray) (x0 : ByteArray) (hp : piecesB s = ls) (hx0 : ls[0]? = some x0) (N : Nat) (hN : ls.length = N) (j : Nat) (sh : Shp) (hsh : shapesL[j]? = some sh) (HK : kindI x0.data.toList = (j : Int)) (hnm : sh.name = true) (htx : sh.text = false) (x1 : ByteArray) (hx1 : ls[1]? = some x1) (hnam : ∀ W, EnvW W → Calls Tryd.prog 49 #[.string x1] W fun e w' => e = .returned (.bool true) ∧ Below W.heap.size W w') (hc : decide ((0 : Int) < sh.least) = true) (hN2 : N = 2) :
    Calls Tryd.prog 23 #[.string s] w fun e w' => e = .returned (.tuple #[.agg #[.int .u8 0, .string ⟨#[]⟩, .slice none 0 0, .string ⟨#[]⟩], .int .i64 0, .bool false]) ∧ Below w.heap.size w w' := by
  have hne1 : ¬ N = 1 := fun e => by have := (List.getElem?_eq_some_iff.1 hx1).1; omega
  have hsplit := fun w h => split_calls s w hs h
  have hn : 0 < N := by
    have := (List.getElem?_eq_some_iff.1 hx0).1
    omega
  have hix := fun W (h : HInv w ls 0 N W) => index_ready h x0 hx0 hn
  have hlen := (pieces_len s hs).2
  rw [hp] at hsplit hlen
  rw [hN] at hsplit hlen
  clear hN
  have HSp := Aside0.mk hsplit
  have HE := Aside0.mk hE
  rw [HK] at hix
  have HIx := Aside0.mk hix
  have HX0 := Lib.hid hx0
  have hu31 := Tryd.underlying31
  have hu83 := Tryd.underlying83
  clear hsplit hE hp hix hx0
  have hj11 : j < 11 := by
    have := (List.getElem?_eq_some_iff.1 hsh).1
    exact this
  have hkn : decide ((j : Int) < 0) = false := decide_eq_false (by omega)
  have hi0 : 0 ≤ (j : Int) := by omega
  have hi1 : (j : Int) < 11 := by omega
  have HSh := Lib.hid hsh
  clear hsh
  have HX1 := Lib.hid hx1
  clear hx1
  have HNm := Aside0.mk hnam
  clear hnam
  subst hN2
  have hl2 : (((1 : Nat) : Int) == 0) = false := beq_eq_false_iff_ne.mpr (by omega)
  go_enter Tryd.func23, Tryd.ntmps23
  go_wp2_with (first | (go_at_call 46; refine (HSp.out _ (HE.out.below (below_alloc (Below.refl _ _) _))).mono ?_; rintro e w1 ⟨rfl, rfl⟩) | (go_at_call 47; refine (HIx.out _ (hinv_start w ls _ HE.out)).mono ?_; rintro e w2 ⟨rfl, hb2⟩; have HI2 := Aside0.mk ((hinv_start w ls _ HE.out).step hb2); clear hb2; obtain ⟨b0, bf⟩ := HI2.out.box2; obtain ⟨q0, q1, q2, q3, qf⟩ := HI2.out.res2c; have c0 : w2.cell? ⟨0, j * 5, none⟩ = some (.string (str sh.word)) := HI2.out.env.shp j sh HSh.out 0 _ rfl; have c1 : w2.cell? ⟨0, j * 5 + 1, none⟩ = some (.bool sh.name) := HI2.out.env.shp j sh HSh.out 1 _ rfl; have c2 : w2.cell? ⟨0, j * 5 + 2, none⟩ = some (.bool sh.text) := HI2.out.env.shp j sh HSh.out 2 _ rfl; have c3 : w2.cell? ⟨0, j * 5 + 3, none⟩ = some (.int .i64 sh.least) := HI2.out.env.shp j sh HSh.out 3 _ rfl; have c4 : w2.cell? ⟨0, j * 5 + 4, none⟩ = some (.int .i64 sh.most) := HI2.out.env.shp j sh HSh.out 4 _ rfl;have p1 : ∀ X Y v, (((w2.alloc X).alloc Y).setCell ⟨w.heap.size + 1 + 1, 0, none⟩ v).cell? ⟨w.heap.size + 1, 1, none⟩ = some (.string x1) := fun X Y v => HI2.out.word2 1 x1 HX1.out X Y v;) | (go_at_call 49; refine (HNm.out _ (HE.out.below (HI2.out.below2 _ _ _))).mono ?_; rintro e w3 ⟨rfl, hb3⟩; have HC3 := Aside0.mk ((cinv_start (sh := sh) (j := j) HE.out HI2.out).step (by rw [hnm, htx]; exact hb3)); clear hb3;obtain ⟨d0, d1⟩ := HC3.out.boxc; obtain ⟨e1, e2, e3, e4⟩ := HC3.out.shpc; obtain ⟨f0, f1, f2, f3, ff⟩ := HC3.out.cmdc; obtain ⟨g0, g1, g2, g3, gf⟩ := HC3.out.resc; have k1 := HC3.out.words 1 x1 HX1.out;))
  have hne6 : w.heap.size + 1 + 1 ≠ w2.heap.size + 1 := by have := HC3.out.lo; omega
  have hne7 : w.heap.size + 1 ≠ w2.heap.size + 1 := by have := HC3.out.lo; omega
  refine start_ (n := 8) (S := fun w' => w'.cell? ⟨w.heap.size + 1 + 1, 0, none⟩ = some (.slice (some ⟨w.heap.size + 1, 1, none⟩) 1 1) ∧ w'.cell? ⟨w.heap.size + 1, 1, none⟩ = some (.string x1)) (ds := [7]) #[false, false, false, false, false, false, false, false] (by kernel_rfl) rfl rfl ⟨d0, k1⟩ (fun hHeld => ?_)
  refine take_ (i := 0) (N := some 46) (v := ?_) (a' := ?_) #[true, false, false, false, false, false, false, false] rfl rfl (by kernel_rfl) (fun _ _ _ h => h) (Or.inl ⟨by rfl, ?_⟩) hHeld ?_ ?_
  rotate_left
  · rintro w' ⟨s0, s1⟩
    go_simp
    with_reducible rfl
  rotate_left
  · simp only [Act.put, List.setIfInBounds_toArray, List.set_cons_zero, List.set_cons_succ, i64_w, i32_w]
    rfl
  refine pure_ (i := 1) (N := some 47) (v := ?_) (a' := ?_) #[true, true, false, false, false, false, false, false] rfl rfl (by kernel_rfl) (fun _ _ _ h => h) (Or.inl ⟨by rfl, ?_⟩) ?_ ?_
  rotate_left
  · intro w'
    go_simp
    with_reducible rfl
  rotate_left
  · simp only [Act.put, List.setIfInBounds_toArray, List.set_cons_zero, List.set_cons_succ, i64_w, i32_w]
    rfl
  refine take_ (i := 2) (N := some 48) (v := ?_) (a' := ?_) #[true, true, true, false, false, false, false, false] rfl rfl (by kernel_rfl) (fun _ _ _ h => h) (Or.inl ⟨by rfl, ?_⟩) hHeld ?_ ?_
  rotate_left
  · rintro w' ⟨s0, s1⟩
    go_simp
    with_reducible rfl
  rotate_left
  · simp only [Act.put, List.setIfInBounds_toArray, List.set_cons_zero, List.set_cons_succ, i64_w, i32_w]
    rfl
  refine pure_ (i := 5) (N := some 51) (v := ?_) (a' := ?_) #[true, true, true, false, false, true, false, false] rfl rfl (by kernel_rfl) (fun _ _ _ h => h) (Or.inl ⟨by rfl, ?_⟩) ?_ ?_
  rotate_left
  · intro w'
    go_simp
    with_reducible rfl
  rotate_left
  · simp only [Act.put, List.setIfInBounds_toArray, List.set_cons_zero, List.set_cons_succ, i64_w, i32_w]
    rfl
  refine take_ (i := 3) (N := some 49) (v := ?_) (a' := ?_) #[true, true, true, true, false, true, false, false] rfl rfl (by kernel_rfl) (fun _ _ _ h => h) (Or.inl ⟨by rfl, ?_⟩) hHeld ?_ ?_
  rotate_left
  · rintro w' ⟨s0, s1⟩
    go_simp
    with_reducible rfl
  rotate_left
  · simp only [Act.put, List.setIfInBounds_toArray, List.set_cons_zero, List.set_cons_succ, i64_w, i32_w]
    rfl
  refine pure_ (i := 4) (N := some 50) (v := ?_) (a' := ?_) #[true, true, true, true, true, true, false, false] rfl rfl (by kernel_rfl) (fun _ _ _ h => h) (Or.inl ⟨by rfl, ?_⟩) ?_ ?_
  rotate_left
  · intro w'
    go_simp
    with_reducible rfl
  rotate_left
  · simp only [Act.put, List.setIfInBounds_toArray, List.set_cons_zero, List.set_cons_succ, i64_w, i32_w]
    rfl
  refine one_ (i := 6) (N := none) #[true, true, true, true, true, true, true, false] rfl rfl (by kernel_rfl) (by decide) (fun K hK => ?_)
  refine skip_ (w1 := ?_) (by rfl) rfl ?_ ?_
  rotate_left
  · go_simp
    rfl
  refine hK.out _ _ ⟨set_far hHeld.1 hne6, set_far hHeld.2 hne7⟩ (fun hHeld => ?_)
  clear hK K
  refine last_ (i := 7) (N := none) #[true, true, true, true, true, true, true, true] rfl rfl (by kernel_rfl) (by decide) (fun K hK => ?_)
  refine skip_ (w1 := ?_) (by rfl) rfl ?_ ?_
  rotate_left
  · go_simp
    rfl
  refine hK.out _ _ ?_
  clear hK K
  refine done_ (by kernel_rfl) ?_
  have HC5 := Aside0.mk ((HC3.out.named HE.out x1 1 0).step (below_drew1 (Below.refl _ _)))
  generalize ((w3.setCell ⟨w2.heap.size + 1, 1, none⟩ (.string x1)).setCell ⟨w.heap.size + 1 + 1, 0, none⟩ (.slice (some ⟨w.heap.size + 1, 1, none⟩) 0 0)).drew = w5 at HC5 ⊢
  clear b0 bf q0 q1 q2 q3 qf c0 c1 c2 c3 c4 p1 d0 d1 e1 e2 e3 e4 f0 f1 f2 f3 ff g0 g1 g2 g3 gf k1 hne6 hne7
  obtain ⟨d0, d1⟩ := HC5.out.boxc
  obtain ⟨e1, e2, e3, e4⟩ := HC5.out.shpc
  obtain ⟨f0, f1, f2, f3, ff⟩ := HC5.out.cmdc
  obtain ⟨g0, g1, g2, g3, gf⟩ := HC5.out.resc
  go_wp2
  refine bodyPost_ret (results_list (rs := [.cell 2 31, .tmp 3, .tmp 4]) rfl (by simp) (.cell w.heap.size 31 #[.int .u8 0, .string ⟨#[]⟩, .slice none 0 0, .string ⟨#[]⟩] (0, 0) _ rfl (HC5.out.fin _ _ _ _) Tryd.underlying31 rfl (by kernel_rfl) (.tmp (.tmp .nil)))) rfl ?_
  exact ⟨rfl, four_below HC5.out.below _ _ _ _⟩
set_option maxRecDepth 100000 in
set_option maxHeartbeats 4000000 in
theorem head_t3bA (s : ByteArray) (w : World) (hs : s.size ≤ 1000000) (hE : EnvW w) (ls : List ByteArray) (x0 : ByteArray) (hp : piecesB s = ls) (hx0 : ls[0]? = some x0) (N : Nat) (hN : ls.length = N) (j : Nat) (sh : Shp) (hsh : shapesL[j]? = some sh) (HK : kindI x0.data.toList = (j : Int)) (hnm : sh.name = true) (htx : sh.text = false) (x1 : ByteArray) (hx1 : ls[1]? = some x1) (hnam : ∀ W, EnvW W → Calls Tryd.prog 49 #[.string x1] W fun e w' => e = .returned (.bool true) ∧ Below W.heap.size W w') (hc : decide ((0 : Int) < sh.least) = false) (hc2 : decide (sh.most < (0 : Int)) = true) (hN2 : N = 2) :
    Calls Tryd.prog 23 #[.string s] w fun e w' => e = .returned (.tuple #[.agg #[.int .u8 0, .string ⟨#[]⟩, .slice none 0 0, .string ⟨#[]⟩], .int .i64 0, .bool false]) ∧ Below w.heap.size w w' := by
  have hne1 : ¬ N = 1 := fun e => by have := (List.getElem?_eq_some_iff.1 hx1).1; omega
  have hsplit := fun w h => split_calls s w hs h
  have hn : 0 < N := by
    have := (List.getElem?_eq_some_iff.1 hx0).1
    omega
  have hix := fun W (h : HInv w ls 0 N W) => index_ready h x0 hx0 hn
  have hlen := (pieces_len s hs).2
  rw [hp] at hsplit hlen
  rw [hN] at hsplit hlen
  clear hN
  have HSp := Aside0.mk hsplit
  have HE := Aside0.mk hE
  rw [HK] at hix
  have HIx := Aside0.mk hix
  have HX0 := Lib.hid hx0
  have hu31 := Tryd.underlying31
  have hu83 := Tryd.underlying83
  clear hsplit hE hp hix hx0
  have hj11 : j < 11 := by
    have := (List.getElem?_eq_some_iff.1 hsh).1
    exact this
  have hkn : decide ((j : Int) < 0) = false := decide_eq_false (by omega)
  have hi0 : 0 ≤ (j : Int) := by omega
  have hi1 : (j : Int) < 11 := by omega
  have HSh := Lib.hid hsh
  clear hsh
  have HX1 := Lib.hid hx1
  clear hx1
  have HNm := Aside0.mk hnam
  clear hnam
  subst hN2
  have hl2 : (((1 : Nat) : Int) == 0) = false := beq_eq_false_iff_ne.mpr (by omega)
  go_enter Tryd.func23, Tryd.ntmps23
  go_wp2_with (first | (go_at_call 46; refine (HSp.out _ (HE.out.below (below_alloc (Below.refl _ _) _))).mono ?_; rintro e w1 ⟨rfl, rfl⟩) | (go_at_call 47; refine (HIx.out _ (hinv_start w ls _ HE.out)).mono ?_; rintro e w2 ⟨rfl, hb2⟩; have HI2 := Aside0.mk ((hinv_start w ls _ HE.out).step hb2); clear hb2; obtain ⟨b0, bf⟩ := HI2.out.box2; obtain ⟨q0, q1, q2, q3, qf⟩ := HI2.out.res2c; have c0 : w2.cell? ⟨0, j * 5, none⟩ = some (.string (str sh.word)) := HI2.out.env.shp j sh HSh.out 0 _ rfl; have c1 : w2.cell? ⟨0, j * 5 + 1, none⟩ = some (.bool sh.name) := HI2.out.env.shp j sh HSh.out 1 _ rfl; have c2 : w2.cell? ⟨0, j * 5 + 2, none⟩ = some (.bool sh.text) := HI2.out.env.shp j sh HSh.out 2 _ rfl; have c3 : w2.cell? ⟨0, j * 5 + 3, none⟩ = some (.int .i64 sh.least) := HI2.out.env.shp j sh HSh.out 3 _ rfl; have c4 : w2.cell? ⟨0, j * 5 + 4, none⟩ = some (.int .i64 sh.most) := HI2.out.env.shp j sh HSh.out 4 _ rfl;have p1 : ∀ X Y v, (((w2.alloc X).alloc Y).setCell ⟨w.heap.size + 1 + 1, 0, none⟩ v).cell? ⟨w.heap.size + 1, 1, none⟩ = some (.string x1) := fun X Y v => HI2.out.word2 1 x1 HX1.out X Y v;) | (go_at_call 49; refine (HNm.out _ (HE.out.below (HI2.out.below2 _ _ _))).mono ?_; rintro e w3 ⟨rfl, hb3⟩; have HC3 := Aside0.mk ((cinv_start (sh := sh) (j := j) HE.out HI2.out).step (by rw [hnm, htx]; exact hb3)); clear hb3;obtain ⟨d0, d1⟩ := HC3.out.boxc; obtain ⟨e1, e2, e3, e4⟩ := HC3.out.shpc; obtain ⟨f0, f1, f2, f3, ff⟩ := HC3.out.cmdc; obtain ⟨g0, g1, g2, g3, gf⟩ := HC3.out.resc; have k1 := HC3.out.words 1 x1 HX1.out;))
  have hne6 : w.heap.size + 1 + 1 ≠ w2.heap.size + 1 := by have := HC3.out.lo; omega
  have hne7 : w.heap.size + 1 ≠ w2.heap.size + 1 := by have := HC3.out.lo; omega
  refine start_ (n := 8) (S := fun w' => w'.cell? ⟨w.heap.size + 1 + 1, 0, none⟩ = some (.slice (some ⟨w.heap.size + 1, 1, none⟩) 1 1) ∧ w'.cell? ⟨w.heap.size + 1, 1, none⟩ = some (.string x1)) (ds := [7]) #[false, false, false, false, false, false, false, false] (by kernel_rfl) rfl rfl ⟨d0, k1⟩ (fun hHeld => ?_)
  refine take_ (i := 0) (N := some 46) (v := ?_) (a' := ?_) #[true, false, false, false, false, false, false, false] rfl rfl (by kernel_rfl) (fun _ _ _ h => h) (Or.inl ⟨by rfl, ?_⟩) hHeld ?_ ?_
  rotate_left
  · rintro w' ⟨s0, s1⟩
    go_simp
    with_reducible rfl
  rotate_left
  · simp only [Act.put, List.setIfInBounds_toArray, List.set_cons_zero, List.set_cons_succ, i64_w, i32_w]
    rfl
  refine pure_ (i := 1) (N := some 47) (v := ?_) (a' := ?_) #[true, true, false, false, false, false, false, false] rfl rfl (by kernel_rfl) (fun _ _ _ h => h) (Or.inl ⟨by rfl, ?_⟩) ?_ ?_
  rotate_left
  · intro w'
    go_simp
    with_reducible rfl
  rotate_left
  · simp only [Act.put, List.setIfInBounds_toArray, List.set_cons_zero, List.set_cons_succ, i64_w, i32_w]
    rfl
  refine take_ (i := 2) (N := some 48) (v := ?_) (a' := ?_) #[true, true, true, false, false, false, false, false] rfl rfl (by kernel_rfl) (fun _ _ _ h => h) (Or.inl ⟨by rfl, ?_⟩) hHeld ?_ ?_
  rotate_left
  · rintro w' ⟨s0, s1⟩
    go_simp
    with_reducible rfl
  rotate_left
  · simp only [Act.put, List.setIfInBounds_toArray, List.set_cons_zero, List.set_cons_succ, i64_w, i32_w]
    rfl
  refine pure_ (i := 5) (N := some 51) (v := ?_) (a' := ?_) #[true, true, true, false, false, true, false, false] rfl rfl (by kernel_rfl) (fun _ _ _ h => h) (Or.inl ⟨by rfl, ?_⟩) ?_ ?_
  rotate_left
  · intro w'
    go_simp
    with_reducible rfl
  rotate_left
  · simp only [Act.put, List.setIfInBounds_toArray, List.set_cons_zero, List.set_cons_succ, i64_w, i32_w]
    rfl
  refine take_ (i := 3) (N := some 49) (v := ?_) (a' := ?_) #[true, true, true, true, false, true, false, false] rfl rfl (by kernel_rfl) (fun _ _ _ h => h) (Or.inl ⟨by rfl, ?_⟩) hHeld ?_ ?_
  rotate_left
  · rintro w' ⟨s0, s1⟩
    go_simp
    with_reducible rfl
  rotate_left
  · simp only [Act.put, List.setIfInBounds_toArray, List.set_cons_zero, List.set_cons_succ, i64_w, i32_w]
    rfl
  refine pure_ (i := 4) (N := some 50) (v := ?_) (a' := ?_) #[true, true, true, true, true, true, false, false] rfl rfl (by kernel_rfl) (fun _ _ _ h => h) (Or.inl ⟨by rfl, ?_⟩) ?_ ?_
  rotate_left
  · intro w'
    go_simp
    with_reducible rfl
  rotate_left
  · simp only [Act.put, List.setIfInBounds_toArray, List.set_cons_zero, List.set_cons_succ, i64_w, i32_w]
    rfl
  refine one_ (i := 6) (N := none) #[true, true, true, true, true, true, true, false] rfl rfl (by kernel_rfl) (by decide) (fun K hK => ?_)
  refine skip_ (w1 := ?_) (by rfl) rfl ?_ ?_
  rotate_left
  · go_simp
    rfl
  refine hK.out _ _ ⟨set_far hHeld.1 hne6, set_far hHeld.2 hne7⟩ (fun hHeld => ?_)
  clear hK K
  refine last_ (i := 7) (N := none) #[true, true, true, true, true, true, true, true] rfl rfl (by kernel_rfl) (by decide) (fun K hK => ?_)
  refine skip_ (w1 := ?_) (by rfl) rfl ?_ ?_
  rotate_left
  · go_simp
    rfl
  refine hK.out _ _ ?_
  clear hK K
  refine done_ (by kernel_rfl) ?_
  have HC5 := Aside0.mk ((HC3.out.named HE.out x1 1 0).step (below_drew1 (Below.refl _ _)))
  generalize ((w3.setCell ⟨w2.heap.size + 1, 1, none⟩ (.string x1)).setCell ⟨w.heap.size + 1 + 1, 0, none⟩ (.slice (some ⟨w.heap.size + 1, 1, none⟩) 0 0)).drew = w5 at HC5 ⊢
  clear b0 bf q0 q1 q2 q3 qf c0 c1 c2 c3 c4 p1 d0 d1 e1 e2 e3 e4 f0 f1 f2 f3 ff g0 g1 g2 g3 gf k1 hne6 hne7
  obtain ⟨d0, d1⟩ := HC5.out.boxc
  obtain ⟨e1, e2, e3, e4⟩ := HC5.out.shpc
  obtain ⟨f0, f1, f2, f3, ff⟩ := HC5.out.cmdc
  obtain ⟨g0, g1, g2, g3, gf⟩ := HC5.out.resc
  go_wp2
  refine bodyPost_ret (results_list (rs := [.cell 2 31, .tmp 3, .tmp 4]) rfl (by simp) (.cell w.heap.size 31 #[.int .u8 0, .string ⟨#[]⟩, .slice none 0 0, .string ⟨#[]⟩] (0, 0) _ rfl (HC5.out.fin _ _ _ _) Tryd.underlying31 rfl (by kernel_rfl) (.tmp (.tmp .nil)))) rfl ?_
  exact ⟨rfl, four_below HC5.out.below _ _ _ _⟩
set_option maxRecDepth 100000 in
set_option maxHeartbeats 4000000 in
theorem head_t3aB (s : ByteArray) (w : World) (hs : s.size ≤ 1000000) (hE : EnvW w) (ls : List ByteArray) (x0 : ByteArray) (hp : piecesB s = ls) (hx0 : ls[0]? = some x0) (N : Nat) (hN : ls.length = N) (j : Nat) (sh : Shp) (hsh : shapesL[j]? = some sh) (HK : kindI x0.data.toList = (j : Int)) (hnm : sh.name = true) (htx : sh.text = false) (x1 : ByteArray) (hx1 : ls[1]? = some x1) (hnam : ∀ W, EnvW W → Calls Tryd.prog 49 #[.string x1] W fun e w' => e = .returned (.bool true) ∧ Below W.heap.size W w') (hc : decide (((N - 1 - 1 : Nat) : Int) < sh.least) = true) (hN2 : ¬ N - 1 = 1) :
    Calls Tryd.prog 23 #[.string s] w fun e w' => e = .returned (.tuple #[.agg #[.int .u8 0, .string ⟨#[]⟩, .slice none 0 0, .string ⟨#[]⟩], .int .i64 0, .bool false]) ∧ Below w.heap.size w w' := by
  have hne1 : ¬ N = 1 := fun e => by have := (List.getElem?_eq_some_iff.1 hx1).1; omega
  have hsplit := fun w h => split_calls s w hs h
  have hn : 0 < N := by
    have := (List.getElem?_eq_some_iff.1 hx0).1
    omega
  have hix := fun W (h : HInv w ls 0 N W) => index_ready h x0 hx0 hn
  have hlen := (pieces_len s hs).2
  rw [hp] at hsplit hlen
  rw [hN] at hsplit hlen
  clear hN
  have HSp := Aside0.mk hsplit
  have HE := Aside0.mk hE
  rw [HK] at hix
  have HIx := Aside0.mk hix
  have HX0 := Lib.hid hx0
  have hu31 := Tryd.underlying31
  have hu83 := Tryd.underlying83
  clear hsplit hE hp hix hx0
  have hj11 : j < 11 := by
    have := (List.getElem?_eq_some_iff.1 hsh).1
    exact this
  have hkn : decide ((j : Int) < 0) = false := decide_eq_false (by omega)
  have hi0 : 0 ≤ (j : Int) := by omega
  have hi1 : (j : Int) < 11 := by omega
  have HSh := Lib.hid hsh
  clear hsh
  have HX1 := Lib.hid hx1
  clear hx1
  have HNm := Aside0.mk hnam
  clear hnam
  have hl2 : ((((N - 1) : Nat) : Int) == 0) = false := beq_eq_false_iff_ne.mpr (by omega)
  go_enter Tryd.func23, Tryd.ntmps23
  go_wp2_with (first | (go_at_call 46; refine (HSp.out _ (HE.out.below (below_alloc (Below.refl _ _) _))).mono ?_; rintro e w1 ⟨rfl, rfl⟩) | (go_at_call 47; refine (HIx.out _ (hinv_start w ls _ HE.out)).mono ?_; rintro e w2 ⟨rfl, hb2⟩; have HI2 := Aside0.mk ((hinv_start w ls _ HE.out).step hb2); clear hb2; obtain ⟨b0, bf⟩ := HI2.out.box2; obtain ⟨q0, q1, q2, q3, qf⟩ := HI2.out.res2c; have c0 : w2.cell? ⟨0, j * 5, none⟩ = some (.string (str sh.word)) := HI2.out.env.shp j sh HSh.out 0 _ rfl; have c1 : w2.cell? ⟨0, j * 5 + 1, none⟩ = some (.bool sh.name) := HI2.out.env.shp j sh HSh.out 1 _ rfl; have c2 : w2.cell? ⟨0, j * 5 + 2, none⟩ = some (.bool sh.text) := HI2.out.env.shp j sh HSh.out 2 _ rfl; have c3 : w2.cell? ⟨0, j * 5 + 3, none⟩ = some (.int .i64 sh.least) := HI2.out.env.shp j sh HSh.out 3 _ rfl; have c4 : w2.cell? ⟨0, j * 5 + 4, none⟩ = some (.int .i64 sh.most) := HI2.out.env.shp j sh HSh.out 4 _ rfl;have p1 : ∀ X Y v, (((w2.alloc X).alloc Y).setCell ⟨w.heap.size + 1 + 1, 0, none⟩ v).cell? ⟨w.heap.size + 1, 1, none⟩ = some (.string x1) := fun X Y v => HI2.out.word2 1 x1 HX1.out X Y v;) | (go_at_call 49; refine (HNm.out _ (HE.out.below (HI2.out.below2 _ _ _))).mono ?_; rintro e w3 ⟨rfl, hb3⟩; have HC3 := Aside0.mk ((cinv_start (sh := sh) (j := j) HE.out HI2.out).step (by rw [hnm, htx]; exact hb3)); clear hb3;obtain ⟨d0, d1⟩ := HC3.out.boxc; obtain ⟨e1, e2, e3, e4⟩ := HC3.out.shpc; obtain ⟨f0, f1, f2, f3, ff⟩ := HC3.out.cmdc; obtain ⟨g0, g1, g2, g3, gf⟩ := HC3.out.resc; have k1 := HC3.out.words 1 x1 HX1.out;))
  have hp1 : 0 < N - 1 := by omega
  have hp2 : (1 : Int) ≤ ((N - 1 : Nat) : Int) := by omega
  have hne6 : w.heap.size + 1 + 1 ≠ w2.heap.size + 1 := by have := HC3.out.lo; omega
  have hne7 : w.heap.size + 1 ≠ w2.heap.size + 1 := by have := HC3.out.lo; omega
  refine start_ (n := 8) (S := fun w' => w'.cell? ⟨w.heap.size + 1 + 1, 0, none⟩ = some (.slice (some ⟨w.heap.size + 1, 1, none⟩) (N - 1) (N - 1)) ∧ w'.cell? ⟨w.heap.size + 1, 1, none⟩ = some (.string x1)) (ds := [7]) #[false, false, false, false, false, false, false, false] (by kernel_rfl) rfl rfl ⟨d0, k1⟩ (fun hHeld => ?_)
  refine take_ (i := 0) (N := some 46) (v := ?_) (a' := ?_) #[true, false, false, false, false, false, false, false] rfl rfl (by kernel_rfl) (fun _ _ _ h => h) (Or.inl ⟨by rfl, ?_⟩) hHeld ?_ ?_
  rotate_left
  · rintro w' ⟨s0, s1⟩
    go_simp
    with_reducible rfl
  rotate_left
  · simp only [Act.put, List.setIfInBounds_toArray, List.set_cons_zero, List.set_cons_succ, i64_w, i32_w]
    rfl
  refine pure_ (i := 1) (N := some 47) (v := ?_) (a' := ?_) #[true, true, false, false, false, false, false, false] rfl rfl (by kernel_rfl) (fun _ _ _ h => h) (Or.inl ⟨by rfl, ?_⟩) ?_ ?_
  rotate_left
  · intro w'
    go_simp
    with_reducible rfl
  rotate_left
  · simp only [Act.put, List.setIfInBounds_toArray, List.set_cons_zero, List.set_cons_succ, i64_w, i32_w]
    rfl
  refine take_ (i := 2) (N := some 48) (v := ?_) (a' := ?_) #[true, true, true, false, false, false, false, false] rfl rfl (by kernel_rfl) (fun _ _ _ h => h) (Or.inl ⟨by rfl, ?_⟩) hHeld ?_ ?_
  rotate_left
  · rintro w' ⟨s0, s1⟩
    go_simp
    with_reducible rfl
  rotate_left
  · simp only [Act.put, List.setIfInBounds_toArray, List.set_cons_zero, List.set_cons_succ, i64_w, i32_w]
    rfl
  refine pure_ (i := 5) (N := some 51) (v := ?_) (a' := ?_) #[true, true, true, false, false, true, false, false] rfl rfl (by kernel_rfl) (fun _ _ _ h => h) (Or.inl ⟨by rfl, ?_⟩) ?_ ?_
  rotate_left
  · intro w'
    go_simp
    with_reducible rfl
  rotate_left
  · simp only [Act.put, List.setIfInBounds_toArray, List.set_cons_zero, List.set_cons_succ, i64_w, i32_w]
    rfl
  refine take_ (i := 3) (N := some 49) (v := ?_) (a' := ?_) #[true, true, true, true, false, true, false, false] rfl rfl (by kernel_rfl) (fun _ _ _ h => h) (Or.inl ⟨by rfl, ?_⟩) hHeld ?_ ?_
  rotate_left
  · rintro w' ⟨s0, s1⟩
    go_simp
    with_reducible rfl
  rotate_left
  · simp only [Act.put, List.setIfInBounds_toArray, List.set_cons_zero, List.set_cons_succ, i64_w, i32_w]
    rfl
  refine pure_ (i := 4) (N := some 50) (v := ?_) (a' := ?_) #[true, true, true, true, true, true, false, false] rfl rfl (by kernel_rfl) (fun _ _ _ h => h) (Or.inl ⟨by rfl, ?_⟩) ?_ ?_
  rotate_left
  · intro w'
    go_simp
    with_reducible rfl
  rotate_left
  · simp only [Act.put, List.setIfInBounds_toArray, List.set_cons_zero, List.set_cons_succ, i64_w, i32_w]
    rfl
  refine one_ (i := 6) (N := none) #[true, true, true, true, true, true, true, false] rfl rfl (by kernel_rfl) (by decide) (fun K hK => ?_)
  refine skip_ (w1 := ?_) (by rfl) rfl ?_ ?_
  rotate_left
  · go_simp
    rfl
  refine hK.out _ _ ⟨set_far hHeld.1 hne6, set_far hHeld.2 hne7⟩ (fun hHeld => ?_)
  clear hK K
  refine last_ (i := 7) (N := none) #[true, true, true, true, true, true, true, true] rfl rfl (by kernel_rfl) (by decide) (fun K hK => ?_)
  refine skip_ (w1 := ?_) (by rfl) rfl ?_ ?_
  rotate_left
  · go_simp
    rfl
  refine hK.out _ _ ?_
  clear hK K
  refine done_ (by kernel_rfl) ?_
  have HC5 := Aside0.mk ((HC3.out.named HE.out x1 2 (N - 1 - 1)).step (below_drew1 (Below.refl _ _)))
  generalize ((w3.setCell ⟨w2.heap.size + 1, 1, none⟩ (.string x1)).setCell ⟨w.heap.size + 1 + 1, 0, none⟩ (.slice (some ⟨w.heap.size + 1, 2, none⟩) (N - 1 - 1) (N - 1 - 1))).drew = w5 at HC5 ⊢
  clear b0 bf q0 q1 q2 q3 qf c0 c1 c2 c3 c4 p1 d0 d1 e1 e2 e3 e4 f0 f1 f2 f3 ff g0 g1 g2 g3 gf k1 hne6 hne7
  obtain ⟨d0, d1⟩ := HC5.out.boxc
  obtain ⟨e1, e2, e3, e4⟩ := HC5.out.shpc
  obtain ⟨f0, f1, f2, f3, ff⟩ := HC5.out.cmdc
  obtain ⟨g0, g1, g2, g3, gf⟩ := HC5.out.resc
  go_wp2
  refine bodyPost_ret (results_list (rs := [.cell 2 31, .tmp 3, .tmp 4]) rfl (by simp) (.cell w.heap.size 31 #[.int .u8 0, .string ⟨#[]⟩, .slice none 0 0, .string ⟨#[]⟩] (0, 0) _ rfl (HC5.out.fin _ _ _ _) Tryd.underlying31 rfl (by kernel_rfl) (.tmp (.tmp .nil)))) rfl ?_
  exact ⟨rfl, four_below HC5.out.below _ _ _ _⟩
set_option maxRecDepth 100000 in
set_option maxHeartbeats 4000000 in
theorem head_t3bB (s : ByteArray) (w : World) (hs : s.size ≤ 1000000) (hE : EnvW w) (ls : List ByteArray) (x0 : ByteArray) (hp : piecesB s = ls) (hx0 : ls[0]? = some x0) (N : Nat) (hN : ls.length = N) (j : Nat) (sh : Shp) (hsh : shapesL[j]? = some sh) (HK : kindI x0.data.toList = (j : Int)) (hnm : sh.name = true) (htx : sh.text = false) (x1 : ByteArray) (hx1 : ls[1]? = some x1) (hnam : ∀ W, EnvW W → Calls Tryd.prog 49 #[.string x1] W fun e w' => e = .returned (.bool true) ∧ Below W.heap.size W w') (hc : decide (((N - 1 - 1 : Nat) : Int) < sh.least) = false) (hc2 : decide (sh.most < ((N - 1 - 1 : Nat) : Int)) = true) (hN2 : ¬ N - 1 = 1) :
    Calls Tryd.prog 23 #[.string s] w fun e w' => e = .returned (.tuple #[.agg #[.int .u8 0, .string ⟨#[]⟩, .slice none 0 0, .string ⟨#[]⟩], .int .i64 0, .bool false]) ∧ Below w.heap.size w w' := by
  have hne1 : ¬ N = 1 := fun e => by have := (List.getElem?_eq_some_iff.1 hx1).1; omega
  have hsplit := fun w h => split_calls s w hs h
  have hn : 0 < N := by
    have := (List.getElem?_eq_some_iff.1 hx0).1
    omega
  have hix := fun W (h : HInv w ls 0 N W) => index_ready h x0 hx0 hn
  have hlen := (pieces_len s hs).2
  rw [hp] at hsplit hlen
  rw [hN] at hsplit hlen
  clear hN
  have HSp := Aside0.mk hsplit
  have HE := Aside0.mk hE
  rw [HK] at hix
  have HIx := Aside0.mk hix
  have HX0 := Lib.hid hx0
  have hu31 := Tryd.underlying31
  have hu83 := Tryd.underlying83
  clear hsplit hE hp hix hx0
  have hj11 : j < 11 := by
    have := (List.getElem?_eq_some_iff.1 hsh).1
    exact this
  have hkn : decide ((j : Int) < 0) = false := decide_eq_false (by omega)
  have hi0 : 0 ≤ (j : Int) := by omega
  have hi1 : (j : Int) < 11 := by omega
  have HSh := Lib.hid hsh
  clear hsh
  have HX1 := Lib.hid hx1
  clear hx1
  have HNm := Aside0.mk hnam
  clear hnam
  have hl2 : ((((N - 1) : Nat) : Int) == 0) = false := beq_eq_false_iff_ne.mpr (by omega)
  go_enter Tryd.func23, Tryd.ntmps23
  go_wp2_with (first | (go_at_call 46; refine (HSp.out _ (HE.out.below (below_alloc (Below.refl _ _) _))).mono ?_; rintro e w1 ⟨rfl, rfl⟩) | (go_at_call 47; refine (HIx.out _ (hinv_start w ls _ HE.out)).mono ?_; rintro e w2 ⟨rfl, hb2⟩; have HI2 := Aside0.mk ((hinv_start w ls _ HE.out).step hb2); clear hb2; obtain ⟨b0, bf⟩ := HI2.out.box2; obtain ⟨q0, q1, q2, q3, qf⟩ := HI2.out.res2c; have c0 : w2.cell? ⟨0, j * 5, none⟩ = some (.string (str sh.word)) := HI2.out.env.shp j sh HSh.out 0 _ rfl; have c1 : w2.cell? ⟨0, j * 5 + 1, none⟩ = some (.bool sh.name) := HI2.out.env.shp j sh HSh.out 1 _ rfl; have c2 : w2.cell? ⟨0, j * 5 + 2, none⟩ = some (.bool sh.text) := HI2.out.env.shp j sh HSh.out 2 _ rfl; have c3 : w2.cell? ⟨0, j * 5 + 3, none⟩ = some (.int .i64 sh.least) := HI2.out.env.shp j sh HSh.out 3 _ rfl; have c4 : w2.cell? ⟨0, j * 5 + 4, none⟩ = some (.int .i64 sh.most) := HI2.out.env.shp j sh HSh.out 4 _ rfl;have p1 : ∀ X Y v, (((w2.alloc X).alloc Y).setCell ⟨w.heap.size + 1 + 1, 0, none⟩ v).cell? ⟨w.heap.size + 1, 1, none⟩ = some (.string x1) := fun X Y v => HI2.out.word2 1 x1 HX1.out X Y v;) | (go_at_call 49; refine (HNm.out _ (HE.out.below (HI2.out.below2 _ _ _))).mono ?_; rintro e w3 ⟨rfl, hb3⟩; have HC3 := Aside0.mk ((cinv_start (sh := sh) (j := j) HE.out HI2.out).step (by rw [hnm, htx]; exact hb3)); clear hb3;obtain ⟨d0, d1⟩ := HC3.out.boxc; obtain ⟨e1, e2, e3, e4⟩ := HC3.out.shpc; obtain ⟨f0, f1, f2, f3, ff⟩ := HC3.out.cmdc; obtain ⟨g0, g1, g2, g3, gf⟩ := HC3.out.resc; have k1 := HC3.out.words 1 x1 HX1.out;))
  have hp1 : 0 < N - 1 := by omega
  have hp2 : (1 : Int) ≤ ((N - 1 : Nat) : Int) := by omega
  have hne6 : w.heap.size + 1 + 1 ≠ w2.heap.size + 1 := by have := HC3.out.lo; omega
  have hne7 : w.heap.size + 1 ≠ w2.heap.size + 1 := by have := HC3.out.lo; omega
  refine start_ (n := 8) (S := fun w' => w'.cell? ⟨w.heap.size + 1 + 1, 0, none⟩ = some (.slice (some ⟨w.heap.size + 1, 1, none⟩) (N - 1) (N - 1)) ∧ w'.cell? ⟨w.heap.size + 1, 1, none⟩ = some (.string x1)) (ds := [7]) #[false, false, false, false, false, false, false, false] (by kernel_rfl) rfl rfl ⟨d0, k1⟩ (fun hHeld => ?_)
  refine take_ (i := 0) (N := some 46) (v := ?_) (a' := ?_) #[true, false, false, false, false, false, false, false] rfl rfl (by kernel_rfl) (fun _ _ _ h => h) (Or.inl ⟨by rfl, ?_⟩) hHeld ?_ ?_
  rotate_left
  · rintro w' ⟨s0, s1⟩
    go_simp
    with_reducible rfl
  rotate_left
  · simp only [Act.put, List.setIfInBounds_toArray, List.set_cons_zero, List.set_cons_succ, i64_w, i32_w]
    rfl
  refine pure_ (i := 1) (N := some 47) (v := ?_) (a' := ?_) #[true, true, false, false, false, false, false, false] rfl rfl (by kernel_rfl) (fun _ _ _ h => h) (Or.inl ⟨by rfl, ?_⟩) ?_ ?_
  rotate_left
  · intro w'
    go_simp
    with_reducible rfl
  rotate_left
  · simp only [Act.put, List.setIfInBounds_toArray, List.set_cons_zero, List.set_cons_succ, i64_w, i32_w]
    rfl
  refine take_ (i := 2) (N := some 48) (v := ?_) (a' := ?_) #[true, true, true, false, false, false, false, false] rfl rfl (by kernel_rfl) (fun _ _ _ h => h) (Or.inl ⟨by rfl, ?_⟩) hHeld ?_ ?_
  rotate_left
  · rintro w' ⟨s0, s1⟩
    go_simp
    with_reducible rfl
  rotate_left
  · simp only [Act.put, List.setIfInBounds_toArray, List.set_cons_zero, List.set_cons_succ, i64_w, i32_w]
    rfl
  refine pure_ (i := 5) (N := some 51) (v := ?_) (a' := ?_) #[true, true, true, false, false, true, false, false] rfl rfl (by kernel_rfl) (fun _ _ _ h => h) (Or.inl ⟨by rfl, ?_⟩) ?_ ?_
  rotate_left
  · intro w'
    go_simp
    with_reducible rfl
  rotate_left
  · simp only [Act.put, List.setIfInBounds_toArray, List.set_cons_zero, List.set_cons_succ, i64_w, i32_w]
    rfl
  refine take_ (i := 3) (N := some 49) (v := ?_) (a' := ?_) #[true, true, true, true, false, true, false, false] rfl rfl (by kernel_rfl) (fun _ _ _ h => h) (Or.inl ⟨by rfl, ?_⟩) hHeld ?_ ?_
  rotate_left
  · rintro w' ⟨s0, s1⟩
    go_simp
    with_reducible rfl
  rotate_left
  · simp only [Act.put, List.setIfInBounds_toArray, List.set_cons_zero, List.set_cons_succ, i64_w, i32_w]
    rfl
  refine pure_ (i := 4) (N := some 50) (v := ?_) (a' := ?_) #[true, true, true, true, true, true, false, false] rfl rfl (by kernel_rfl) (fun _ _ _ h => h) (Or.inl ⟨by rfl, ?_⟩) ?_ ?_
  rotate_left
  · intro w'
    go_simp
    with_reducible rfl
  rotate_left
  · simp only [Act.put, List.setIfInBounds_toArray, List.set_cons_zero, List.set_cons_succ, i64_w, i32_w]
    rfl
  refine one_ (i := 6) (N := none) #[true, true, true, true, true, true, true, false] rfl rfl (by kernel_rfl) (by decide) (fun K hK => ?_)
  refine skip_ (w1 := ?_) (by rfl) rfl ?_ ?_
  rotate_left
  · go_simp
    rfl
  refine hK.out _ _ ⟨set_far hHeld.1 hne6, set_far hHeld.2 hne7⟩ (fun hHeld => ?_)
  clear hK K
  refine last_ (i := 7) (N := none) #[true, true, true, true, true, true, true, true] rfl rfl (by kernel_rfl) (by decide) (fun K hK => ?_)
  refine skip_ (w1 := ?_) (by rfl) rfl ?_ ?_
  rotate_left
  · go_simp
    rfl
  refine hK.out _ _ ?_
  clear hK K
  refine done_ (by kernel_rfl) ?_
  have HC5 := Aside0.mk ((HC3.out.named HE.out x1 2 (N - 1 - 1)).step (below_drew1 (Below.refl _ _)))
  generalize ((w3.setCell ⟨w2.heap.size + 1, 1, none⟩ (.string x1)).setCell ⟨w.heap.size + 1 + 1, 0, none⟩ (.slice (some ⟨w.heap.size + 1, 2, none⟩) (N - 1 - 1) (N - 1 - 1))).drew = w5 at HC5 ⊢
  clear b0 bf q0 q1 q2 q3 qf c0 c1 c2 c3 c4 p1 d0 d1 e1 e2 e3 e4 f0 f1 f2 f3 ff g0 g1 g2 g3 gf k1 hne6 hne7
  obtain ⟨d0, d1⟩ := HC5.out.boxc
  obtain ⟨e1, e2, e3, e4⟩ := HC5.out.shpc
  obtain ⟨f0, f1, f2, f3, ff⟩ := HC5.out.cmdc
  obtain ⟨g0, g1, g2, g3, gf⟩ := HC5.out.resc
  go_wp2
  refine bodyPost_ret (results_list (rs := [.cell 2 31, .tmp 3, .tmp 4]) rfl (by simp) (.cell w.heap.size 31 #[.int .u8 0, .string ⟨#[]⟩, .slice none 0 0, .string ⟨#[]⟩] (0, 0) _ rfl (HC5.out.fin _ _ _ _) Tryd.underlying31 rfl (by kernel_rfl) (.tmp (.tmp .nil)))) rfl ?_
  exact ⟨rfl, four_below HC5.out.below _ _ _ _⟩
end Go.Proofs.YtmciflmlpnpkaaaDoor.Pa
