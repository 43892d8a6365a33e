import Derived.Test.YtmciflmlpnpkaaaDoorH8t
namespace Go.Proofs.YtmciflmlpnpkaaaDoor.Pa
open Go.RowKit Go.Proofs.YtmciflmlpnpkaaaDoorW.PrintWords Go.Proofs.YtmciflmlpnpkaaaDoorW.PrintLast Go.Proofs.YtmciflmlpnpkaaaDoorW.PrintMore
set_option linter.unusedVariables false
set_option linter.unusedSimpArgs false
theorem info3h : (Tryd.prog.info? 3).map (fun i => (i.zero, i.size, i.bytes)) = some (some (.int .i64 0), 1, 8) := by kernel_rfl
theorem drop_at (l : List ByteArray) (k : Nat) (h : k < l.length) : ∃ x, l[k]? = some x ∧ l.drop k = x :: l.drop (k + 1) :=
  ⟨l[k], List.getElem?_eq_getElem h, List.drop_eq_getElem_cons h⟩
theorem nextI (k m : Nat) (h : k < m) (hm : m ≤ 1000001) : wrap64 ((k : Int) + 1) = ((k + 1 : Nat) : Int) := by unfold wrap64; omega
theorem nextI' (k m : Nat) (h : k < m) (hm : m ≤ 1000001) : wrap64 ((k : Int) + 1) = (k : Int) + 1 := by unfold wrap64; omega
theorem nextM (k m : Nat) (h : k < m) : m - (intOf (Value.int IntKind.i64 ((k : Int) + 1))).toNat < m - (intOf (Value.int IntKind.i64 (k : Int))).toNat := by
  simp [intOf]
  omega
theorem capI (nums : List Int) (k : Nat) (h : nums.length = k) (hk : k ≤ 1000001) : (nums.length + 1) * 8 ≤ 140737488355328 := by omega
theorem lenI (nums : List Int) (v : Int) (k : Nat) (h : nums.length = k) : (nums ++ [v]).length = k + 1 := by simp [h]
set_option maxRecDepth 100000 in
set_option maxHeartbeats 4000000 in
theorem head_n4B (s : ByteArray) (w : World) (hs : s.size ≤ 1000000) (hE : EnvW w) (ls : List ByteArray) (x0 : ByteArray) (hp : piecesB s = ls) (hx0 : ls[0]? = some x0) (N : Nat) (hN : ls.length = N) (j : Nat) (sh : Shp) (hsh : shapesL[j]? = some sh) (HK : kindI x0.data.toList = (j : Int)) (hnm : sh.name = false) (htx : sh.text = false) (rest : List ByteArray) (hrl : rest.length = N - 1) (hrest : ∀ (k : Nat) x, rest[k]? = some x → ls[1 + k]? = some x) (hrs : ∀ x ∈ rest, x.size ≤ 1000000) (RR : HeadR) (hRR : numsR (1 + (j : Int)) ⟨#[]⟩ [] rest = RR) (hc : decide (((N - 1 : Nat) : Int) < sh.least) = false) (hc2 : decide (sh.most < ((N - 1 : Nat) : Int)) = false) (hN1 : ¬ N = 1) :
    Calls Tryd.prog 23 #[.string s] w fun e w' => ∃ v2_, e = .returned (.tuple #[.agg #[.int .u8 RR.kind, .string RR.name, v2_, .string ⟨#[]⟩], .int .i64 RR.lines, .bool RR.ok]) ∧ Kd.R (Kd.int .i64) 3 w' w.heap.size (fun _ => True) v2_ RR.nums ∧ Below w.heap.size w w' := by
  have hsplit := fun w h => split_calls s w hs h
  have hn : 0 < N := by
    have := (List.getElem?_eq_some_iff.1 hx0).1
    omega
  have hix := fun W (h : HInv w ls 0 N W) => index_ready h x0 hx0 hn
  have hlen := (pieces_len s hs).2
  rw [hp] at hsplit hlen
  rw [hN] at hsplit hlen
  clear hN
  have HSp := Aside0.mk hsplit
  have HE := Aside0.mk hE
  rw [HK] at hix
  have HIx := Aside0.mk hix
  have HX0 := Lib.hid hx0
  have hu31 := Tryd.underlying31
  have hu83 := Tryd.underlying83
  clear hsplit hE hp hix hx0
  have hj11 : j < 11 := by
    have := (List.getElem?_eq_some_iff.1 hsh).1
    exact this
  have hkn : decide ((j : Int) < 0) = false := decide_eq_false (by omega)
  have hi0 : 0 ≤ (j : Int) := by omega
  have hi1 : (j : Int) < 11 := by omega
  have HSh := Lib.hid hsh
  clear hsh
  have HRest := Lib.hid hrest
  have HRs := Lib.hid hrs
  have HRR := Lib.hid hRR
  clear hrest hrs hRR
  go_enter Tryd.func23, Tryd.ntmps23
  go_wp2_with (first | (go_at_call 46; refine (HSp.out _ (HE.out.below (below_alloc (Below.refl _ _) _))).mono ?_; rintro e w1 ⟨rfl, rfl⟩) | (go_at_call 47; refine (HIx.out _ (hinv_start w ls _ HE.out)).mono ?_; rintro e w2 ⟨rfl, hb2⟩; have HI2 := Aside0.mk ((hinv_start w ls _ HE.out).step hb2); clear hb2; obtain ⟨b0, bf⟩ := HI2.out.box2; obtain ⟨q0, q1, q2, q3, qf⟩ := HI2.out.res2c; have c0 : w2.cell? ⟨0, j * 5, none⟩ = some (.string (str sh.word)) := HI2.out.env.shp j sh HSh.out 0 _ rfl; have c1 : w2.cell? ⟨0, j * 5 + 1, none⟩ = some (.bool sh.name) := HI2.out.env.shp j sh HSh.out 1 _ rfl; have c2 : w2.cell? ⟨0, j * 5 + 2, none⟩ = some (.bool sh.text) := HI2.out.env.shp j sh HSh.out 2 _ rfl; have c3 : w2.cell? ⟨0, j * 5 + 3, none⟩ = some (.int .i64 sh.least) := HI2.out.env.shp j sh HSh.out 3 _ rfl; have c4 : w2.cell? ⟨0, j * 5 + 4, none⟩ = some (.int .i64 sh.most) := HI2.out.env.shp j sh HSh.out 4 _ rfl;))
  go_loopw [87] (fun v wr => ∃ (k : Nat) (nums : List Int) (u : Value), k ≤ (N - 1) ∧ v = .int .i64 k ∧ Aside0 (nums.length = k) ∧ Aside0 (numsR (1 + (j : Int)) ⟨#[]⟩ nums (rest.drop k) = RR) ∧ Aside0 (CInv w ls 1 (N - 1) sh w2.heap.size (1 + (j : Int)) ⟨#[]⟩ u wr) ∧ Aside0 (Kd.R (Kd.int .i64) 3 wr w.heap.size (fun q => w2.heap.size + 1 < q) u nums)) (fun v _ => (N - 1) - (intOf v).toNat)
  case atStart => exact ⟨0, [], .slice none 0 0, Nat.zero_le _, rfl, ⟨rfl⟩, ⟨HRR.out⟩, ⟨by have := cinv_start (sh := sh) (j := j) (a := 1) (m := (N - 1)) HE.out HI2.out; rw [hnm, htx] at this; exact this⟩, ⟨Kd.R_nil _ _ _ _ _⟩⟩
  case round =>
    obtain ⟨k, nums, u, hk, rfl, hnl, HQ, HC, HR⟩ := hrel
    obtain ⟨Ao, co, eo⟩ := Kd.R_slice HR.out
    subst eo
    clear b0 bf q0 q1 q2 q3 qf c0 c1 c2 c3 c4 HRR
    by_cases hlt : k < (N - 1)
    · obtain ⟨x, hx, hd⟩ := drop_at rest k (by omega)
      have hcell := HC.out.words _ _ (HRest.out k x hx)
      have hxs := HRs.out x (List.mem_of_getElem? hx)
      have hq := HQ.out
      rw [hd] at hq
      have hnext := nextI' k _ hlt (by omega)
      have HNu := Aside0.mk (fun W (h : EnvW W) => number_calls x W hxs h)
      obtain ⟨f0, f1, f2, f3, ff⟩ := HC.out.cmdc
      by_cases hb : numB x.data.toList = true
      · rw [numsR_yes _ _ _ _ _ hb] at hq
        rw [hb] at HNu
        generalize numV x.data.toList = vn at HNu hq
        have HQ2 := Aside0.mk hq
        clear hq hx hd hb hxs
        go_wp2_with (first | (go_at_call 50; refine (HNu.out _ HC.out.env).mono ?_; rintro e w4 ⟨rfl, hb4⟩; have HC4 := Aside0.mk (HC.out.step hb4); have HR4 := Aside0.mk (Kd.R_below HR.out hb4); clear hb4; obtain ⟨h0, h1, h2, h3, hf⟩ := HC4.out.cmdc) | ((with_reducible refine gate_builtin (b := .append) (xs := #[.tmp 100, .tmp 102]) rfl ?_); at_builtin; refine Kd.R_append (Kd.int .i64) (w0 := w) w.heap.size rfl (.tmp 100) (.tmp 102) 29 3 (.int .i64 0) 8 rfl Tryd.underlying29 info3h rfl (by decide) (by omega) (.slice Ao nums.length co) nums vn [.int .i64 vn] (fun q => w2.heap.size + 1 < q) (fun _ => False) rfl (by first | (go_simp; done) | (go_simp; rfl)) rfl (fun _ hk => hk.elim) (fun q hq => Nat.lt_of_lt_of_le HC4.out.hi hq) HR4.out HC4.out.below HC4.out.below.size (capI nums k hnl.out (by omega)) ?_; intro v1 w6 ho hb6 hg6 hat; obtain ⟨A6, c6, e6⟩ := Kd.R_slice ho; subst e6; have HC6 := Aside0.mk (HC4.out.grow HE.out HR4.out.1 hb6 hg6); (rw [List.length_append, List.length_singleton] at ho); have HR6 := Aside0.mk ho; clear ho hb6 hg6 hat; obtain ⟨i0, i1, i2, i3, jf⟩ := HC6.out.cmdc))
        go_roundw
        case rel => exact ⟨k + 1, nums ++ [vn], .slice A6 (nums.length + 1) c6, hlt, by go_num, ⟨lenI nums vn k hnl.out⟩, HQ2, ⟨HC6.out.put HE.out (.slice A6 (nums.length + 1) c6)⟩, ⟨Kd.R_far HR6.out (fun q hq => Nat.ne_of_gt hq) _⟩⟩
        case measure => exact nextM k _ hlt
      · have hb0 : numB x.data.toList = false := by simpa using hb
        rw [numsR_no _ _ _ _ _ hb0] at hq
        rw [hb0] at HNu
        subst hq
        generalize numV x.data.toList = vn at HNu
        clear hx hd hb hb0 hxs
        go_wp2_with (go_at_call 50; refine (HNu.out _ HC.out.env).mono ?_; rintro e w4 ⟨rfl, hb4⟩; have HC4 := Aside0.mk (HC.out.step hb4); clear hb4; obtain ⟨g0, g1, g2, g3, gf⟩ := HC4.out.resc)
        refine bodyPost_ret (results_list (rs := [.cell 2 31, .tmp 3, .tmp 4]) rfl (by simp) (.cell w.heap.size 31 #[.int .u8 0, .string ⟨#[]⟩, .slice none 0 0, .string ⟨#[]⟩] (0, 0) _ rfl (HC4.out.fin _ _ _ _) Tryd.underlying31 rfl (by kernel_rfl) (.tmp (.tmp .nil)))) rfl ?_
        exact ⟨.slice none 0 0, rfl, Kd.R_nil _ _ _ _ _, four_below HC4.out.below _ _ _ _⟩
    · have e : k = (N - 1) := Nat.le_antisymm hk (Nat.not_lt.1 hlt)
      have hq := HQ.out
      rw [List.drop_of_length_le (by omega), numsR_nil] at hq
      subst hq
      obtain ⟨f0, f1, f2, f3, ff⟩ := HC.out.cmdc
      obtain ⟨g0, g1, g2, g3, gf⟩ := HC.out.resc
      have hge : ¬ ((k : Int) < (((N - 1) : Nat) : Int)) := by omega
      go_wp2
      refine bodyPost_ret (results_list (rs := [.cell 2 31, .tmp 3, .tmp 4]) rfl (by simp) (.cell w.heap.size 31 #[.int .u8 (1 + (j : Int)), .string ⟨#[]⟩, .slice Ao nums.length co, .string ⟨#[]⟩] (0, 0) _ rfl (HC.out.fin _ _ _ _) Tryd.underlying31 rfl (by kernel_rfl) (.tmp (.tmp .nil)))) rfl ?_
      have hne : ∀ q, w2.heap.size + 1 < q → q ≠ w.heap.size := fun q hq => by have := HC.out.lo; omega
      exact ⟨.slice Ao nums.length co, rfl, Kd.R_mono (Kd.R_far (p := ⟨w.heap.size, 3, none⟩) (Kd.R_far (p := ⟨w.heap.size, 2, none⟩) (Kd.R_far (p := ⟨w.heap.size, 1, none⟩) (Kd.R_far (p := ⟨w.heap.size, 0, none⟩) HR.out hne _) hne _) hne _) hne _) (fun _ _ => trivial), four_below HC.out.below _ _ _ _⟩
set_option maxRecDepth 100000 in
set_option maxHeartbeats 4000000 in
theorem head_n4A (s : ByteArray) (w : World) (hs : s.size ≤ 1000000) (hE : EnvW w) (ls : List ByteArray) (x0 : ByteArray) (hp : piecesB s = ls) (hx0 : ls[0]? = some x0) (N : Nat) (hN : ls.length = N) (j : Nat) (sh : Shp) (hsh : shapesL[j]? = some sh) (HK : kindI x0.data.toList = (j : Int)) (hnm : sh.name = false) (htx : sh.text = false) (rest : List ByteArray) (hrl : rest.length = 0) (hrest : ∀ (k : Nat) x, rest[k]? = some x → ls[0 + k]? = some x) (hrs : ∀ x ∈ rest, x.size ≤ 1000000) (RR : HeadR) (hRR : numsR (1 + (j : Int)) ⟨#[]⟩ [] rest = RR) (hc : decide ((0 : Int) < sh.least) = false) (hc2 : decide (sh.most < (0 : Int)) = false) (hN1 : N = 1) :
    Calls Tryd.prog 23 #[.string s] w fun e w' => ∃ v2_, e = .returned (.tuple #[.agg #[.int .u8 RR.kind, .string RR.name, v2_, .string ⟨#[]⟩], .int .i64 RR.lines, .bool RR.ok]) ∧ Kd.R (Kd.int .i64) 3 w' w.heap.size (fun _ => True) v2_ RR.nums ∧ Below w.heap.size w w' := by
  have hsplit := fun w h => split_calls s w hs h
  have hn : 0 < N := by
    have := (List.getElem?_eq_some_iff.1 hx0).1
    omega
  have hix := fun W (h : HInv w ls 0 N W) => index_ready h x0 hx0 hn
  have hlen := (pieces_len s hs).2
  rw [hp] at hsplit hlen
  rw [hN] at hsplit hlen
  clear hN
  have HSp := Aside0.mk hsplit
  have HE := Aside0.mk hE
  rw [HK] at hix
  have HIx := Aside0.mk hix
  have HX0 := Lib.hid hx0
  have hu31 := Tryd.underlying31
  have hu83 := Tryd.underlying83
  clear hsplit hE hp hix hx0
  have hj11 : j < 11 := by
    have := (List.getElem?_eq_some_iff.1 hsh).1
    exact this
  have hkn : decide ((j : Int) < 0) = false := decide_eq_false (by omega)
  have hi0 : 0 ≤ (j : Int) := by omega
  have hi1 : (j : Int) < 11 := by omega
  have HSh := Lib.hid hsh
  clear hsh
  have HRest := Lib.hid hrest
  have HRs := Lib.hid hrs
  have HRR := Lib.hid hRR
  clear hrest hrs hRR
  subst hN1
  go_enter Tryd.func23, Tryd.ntmps23
  go_wp2_with (first | (go_at_call 46; refine (HSp.out _ (HE.out.below (below_alloc (Below.refl _ _) _))).mono ?_; rintro e w1 ⟨rfl, rfl⟩) | (go_at_call 47; refine (HIx.out _ (hinv_start w ls _ HE.out)).mono ?_; rintro e w2 ⟨rfl, hb2⟩; have HI2 := Aside0.mk ((hinv_start w ls _ HE.out).step hb2); clear hb2; obtain ⟨b0, bf⟩ := HI2.out.box2; obtain ⟨q0, q1, q2, q3, qf⟩ := HI2.out.res2c; have c0 : w2.cell? ⟨0, j * 5, none⟩ = some (.string (str sh.word)) := HI2.out.env.shp j sh HSh.out 0 _ rfl; have c1 : w2.cell? ⟨0, j * 5 + 1, none⟩ = some (.bool sh.name) := HI2.out.env.shp j sh HSh.out 1 _ rfl; have c2 : w2.cell? ⟨0, j * 5 + 2, none⟩ = some (.bool sh.text) := HI2.out.env.shp j sh HSh.out 2 _ rfl; have c3 : w2.cell? ⟨0, j * 5 + 3, none⟩ = some (.int .i64 sh.least) := HI2.out.env.shp j sh HSh.out 3 _ rfl; have c4 : w2.cell? ⟨0, j * 5 + 4, none⟩ = some (.int .i64 sh.most) := HI2.out.env.shp j sh HSh.out 4 _ rfl;))
  go_loopw [87] (fun v wr => ∃ (k : Nat) (nums : List Int) (u : Value), k ≤ 0 ∧ v = .int .i64 k ∧ Aside0 (nums.length = k) ∧ Aside0 (numsR (1 + (j : Int)) ⟨#[]⟩ nums (rest.drop k) = RR) ∧ Aside0 (CInv w ls 0 0 sh w2.heap.size (1 + (j : Int)) ⟨#[]⟩ u wr) ∧ Aside0 (Kd.R (Kd.int .i64) 3 wr w.heap.size (fun q => w2.heap.size + 1 < q) u nums)) (fun v _ => 0 - (intOf v).toNat)
  case atStart => exact ⟨0, [], .slice none 0 0, Nat.zero_le _, rfl, ⟨rfl⟩, ⟨HRR.out⟩, ⟨by have := cinv_start (sh := sh) (j := j) (a := 0) (m := 0) HE.out HI2.out; rw [hnm, htx] at this; exact this⟩, ⟨Kd.R_nil _ _ _ _ _⟩⟩
  case round =>
    obtain ⟨k, nums, u, hk, rfl, hnl, HQ, HC, HR⟩ := hrel
    obtain ⟨Ao, co, eo⟩ := Kd.R_slice HR.out
    subst eo
    clear b0 bf q0 q1 q2 q3 qf c0 c1 c2 c3 c4 HRR
    by_cases hlt : k < 0
    · exact absurd hlt (Nat.not_lt_zero _)
    · have e : k = 0 := Nat.le_antisymm hk (Nat.not_lt.1 hlt)
      have hq := HQ.out
      rw [List.drop_of_length_le (by omega), numsR_nil] at hq
      subst hq
      obtain ⟨f0, f1, f2, f3, ff⟩ := HC.out.cmdc
      obtain ⟨g0, g1, g2, g3, gf⟩ := HC.out.resc
      have hge : ¬ ((k : Int) < ((0 : Nat) : Int)) := by omega
      go_wp2
      refine bodyPost_ret (results_list (rs := [.cell 2 31, .tmp 3, .tmp 4]) rfl (by simp) (.cell w.heap.size 31 #[.int .u8 (1 + (j : Int)), .string ⟨#[]⟩, .slice Ao nums.length co, .string ⟨#[]⟩] (0, 0) _ rfl (HC.out.fin _ _ _ _) Tryd.underlying31 rfl (by kernel_rfl) (.tmp (.tmp .nil)))) rfl ?_
      have hne : ∀ q, w2.heap.size + 1 < q → q ≠ w.heap.size := fun q hq => by have := HC.out.lo; omega
      exact ⟨.slice Ao nums.length co, rfl, Kd.R_mono (Kd.R_far (p := ⟨w.heap.size, 3, none⟩) (Kd.R_far (p := ⟨w.heap.size, 2, none⟩) (Kd.R_far (p := ⟨w.heap.size, 1, none⟩) (Kd.R_far (p := ⟨w.heap.size, 0, none⟩) HR.out hne _) hne _) hne _) hne _) (fun _ _ => trivial), four_below HC.out.below _ _ _ _⟩
set_option maxRecDepth 100000 in
set_option maxHeartbeats 4000000 in
theorem head_t4A (s : ByteArray) (w : World) (hs : s.size ≤ 1000000) (hE : EnvW w) (ls : List ByteArray) (x0 : ByteArray) (hp : piecesB s = ls) (hx0 : ls[0]? = some x0) (N : Nat) (hN : ls.length = N) (j : Nat) (sh : Shp) (hsh : shapesL[j]? = some sh) (HK : kindI x0.data.toList = (j : Int)) (hnm : sh.name = true) (htx : sh.text = false) (x1 : ByteArray) (hx1 : ls[1]? = some x1) (hnam : ∀ W, EnvW W → Calls Tryd.prog 49 #[.string x1] W fun e w' => e = .returned (.bool true) ∧ Below W.heap.size W w') (rest : List ByteArray) (hrl : rest.length = 0) (hrest : ∀ (k : Nat) x, rest[k]? = some x → ls[1 + k]? = some x) (hrs : ∀ x ∈ rest, x.size ≤ 1000000) (RR : HeadR) (hRR : numsR (1 + (j : Int)) x1 [] rest = RR) (hc : decide ((0 : Int) < sh.least) = false) (hc2 : decide (sh.most < (0 : Int)) = false) (hN2 : N = 2) :
    Calls Tryd.prog 23 #[.string s] w fun e w' => ∃ v2_, e = .returned (.tuple #[.agg #[.int .u8 RR.kind, .string RR.name, v2_, .string ⟨#[]⟩], .int .i64 RR.lines, .bool RR.ok]) ∧ Kd.R (Kd.int .i64) 3 w' w.heap.size (fun _ => True) v2_ RR.nums ∧ Below w.heap.size w w' := by
  have hne1 : ¬ N = 1 := fun e => by have := (List.getElem?_eq_some_iff.1 hx1).1; omega
  have hsplit := fun w h => split_calls s w hs h
  have hn : 0 < N := by
    have := (List.getElem?_eq_some_iff.1 hx0).1
    omega
  have hix := fun W (h : HInv w ls 0 N W) => index_ready h x0 hx0 hn
  have hlen := (pieces_len s hs).2
  rw [hp] at hsplit hlen
  rw [hN] at hsplit hlen
  clear hN
  have HSp := Aside0.mk hsplit
  have HE := Aside0.mk hE
  rw [HK] at hix
  have HIx := Aside0.mk hix
  have HX0 := Lib.hid hx0
  have hu31 := Tryd.underlying31
  have hu83 := Tryd.underlying83
  clear hsplit hE hp hix hx0
  have hj11 : j < 11 := by
    have := (List.getElem?_eq_some_iff.1 hsh).1
    exact this
  have hkn : decide ((j : Int) < 0) = false := decide_eq_false (by omega)
  have hi0 : 0 ≤ (j : Int) := by omega
  have hi1 : (j : Int) < 11 := by omega
  have HSh := Lib.hid hsh
  clear hsh
  have HX1 := Lib.hid hx1
  clear hx1
  have HNm := Aside0.mk hnam
  clear hnam
  subst hN2
  have hl2 : (((1 : Nat) : Int) == 0) = false := beq_eq_false_iff_ne.mpr (by omega)
  have HRest := Lib.hid hrest
  have HRs := Lib.hid hrs
  have HRR := Lib.hid hRR
  clear hrest hrs hRR
  go_enter Tryd.func23, Tryd.ntmps23
  go_wp2_with (first | (go_at_call 46; refine (HSp.out _ (HE.out.below (below_alloc (Below.refl _ _) _))).mono ?_; rintro e w1 ⟨rfl, rfl⟩) | (go_at_call 47; refine (HIx.out _ (hinv_start w ls _ HE.out)).mono ?_; rintro e w2 ⟨rfl, hb2⟩; have HI2 := Aside0.mk ((hinv_start w ls _ HE.out).step hb2); clear hb2; obtain ⟨b0, bf⟩ := HI2.out.box2; obtain ⟨q0, q1, q2, q3, qf⟩ := HI2.out.res2c; have c0 : w2.cell? ⟨0, j * 5, none⟩ = some (.string (str sh.word)) := HI2.out.env.shp j sh HSh.out 0 _ rfl; have c1 : w2.cell? ⟨0, j * 5 + 1, none⟩ = some (.bool sh.name) := HI2.out.env.shp j sh HSh.out 1 _ rfl; have c2 : w2.cell? ⟨0, j * 5 + 2, none⟩ = some (.bool sh.text) := HI2.out.env.shp j sh HSh.out 2 _ rfl; have c3 : w2.cell? ⟨0, j * 5 + 3, none⟩ = some (.int .i64 sh.least) := HI2.out.env.shp j sh HSh.out 3 _ rfl; have c4 : w2.cell? ⟨0, j * 5 + 4, none⟩ = some (.int .i64 sh.most) := HI2.out.env.shp j sh HSh.out 4 _ rfl;have p1 : ∀ X Y v, (((w2.alloc X).alloc Y).setCell ⟨w.heap.size + 1 + 1, 0, none⟩ v).cell? ⟨w.heap.size + 1, 1, none⟩ = some (.string x1) := fun X Y v => HI2.out.word2 1 x1 HX1.out X Y v;) | (go_at_call 49; refine (HNm.out _ (HE.out.below (HI2.out.below2 _ _ _))).mono ?_; rintro e w3 ⟨rfl, hb3⟩; have HC3 := Aside0.mk ((cinv_start (sh := sh) (j := j) HE.out HI2.out).step (by rw [hnm, htx]; exact hb3)); clear hb3;obtain ⟨d0, d1⟩ := HC3.out.boxc; obtain ⟨e1, e2, e3, e4⟩ := HC3.out.shpc; obtain ⟨f0, f1, f2, f3, ff⟩ := HC3.out.cmdc; obtain ⟨g0, g1, g2, g3, gf⟩ := HC3.out.resc; have k1 := HC3.out.words 1 x1 HX1.out;))
  have hne6 : w.heap.size + 1 + 1 ≠ w2.heap.size + 1 := by have := HC3.out.lo; omega
  have hne7 : w.heap.size + 1 ≠ w2.heap.size + 1 := by have := HC3.out.lo; omega
  refine start_ (n := 8) (S := fun w' => w'.cell? ⟨w.heap.size + 1 + 1, 0, none⟩ = some (.slice (some ⟨w.heap.size + 1, 1, none⟩) 1 1) ∧ w'.cell? ⟨w.heap.size + 1, 1, none⟩ = some (.string x1)) (ds := [7]) #[false, false, false, false, false, false, false, false] (by kernel_rfl) rfl rfl ⟨d0, k1⟩ (fun hHeld => ?_)
  refine take_ (i := 0) (N := some 46) (v := ?_) (a' := ?_) #[true, false, false, false, false, false, false, false] rfl rfl (by kernel_rfl) (fun _ _ _ h => h) (Or.inl ⟨by rfl, ?_⟩) hHeld ?_ ?_
  rotate_left
  · rintro w' ⟨s0, s1⟩
    go_simp
    with_reducible rfl
  rotate_left
  · simp only [Act.put, List.setIfInBounds_toArray, List.set_cons_zero, List.set_cons_succ, i64_w, i32_w]
    rfl
  refine pure_ (i := 1) (N := some 47) (v := ?_) (a' := ?_) #[true, true, false, false, false, false, false, false] rfl rfl (by kernel_rfl) (fun _ _ _ h => h) (Or.inl ⟨by rfl, ?_⟩) ?_ ?_
  rotate_left
  · intro w'
    go_simp
    with_reducible rfl
  rotate_left
  · simp only [Act.put, List.setIfInBounds_toArray, List.set_cons_zero, List.set_cons_succ, i64_w, i32_w]
    rfl
  refine take_ (i := 2) (N := some 48) (v := ?_) (a' := ?_) #[true, true, true, false, false, false, false, false] rfl rfl (by kernel_rfl) (fun _ _ _ h => h) (Or.inl ⟨by rfl, ?_⟩) hHeld ?_ ?_
  rotate_left
  · rintro w' ⟨s0, s1⟩
    go_simp
    with_reducible rfl
  rotate_left
  · simp only [Act.put, List.setIfInBounds_toArray, List.set_cons_zero, List.set_cons_succ, i64_w, i32_w]
    rfl
  refine pure_ (i := 5) (N := some 51) (v := ?_) (a' := ?_) #[true, true, true, false, false, true, false, false] rfl rfl (by kernel_rfl) (fun _ _ _ h => h) (Or.inl ⟨by rfl, ?_⟩) ?_ ?_
  rotate_left
  · intro w'
    go_simp
    with_reducible rfl
  rotate_left
  · simp only [Act.put, List.setIfInBounds_toArray, List.set_cons_zero, List.set_cons_succ, i64_w, i32_w]
    rfl
  refine take_ (i := 3) (N := some 49) (v := ?_) (a' := ?_) #[true, true, true, true, false, true, false, false] rfl rfl (by kernel_rfl) (fun _ _ _ h => h) (Or.inl ⟨by rfl, ?_⟩) hHeld ?_ ?_
  rotate_left
  · rintro w' ⟨s0, s1⟩
    go_simp
    with_reducible rfl
  rotate_left
  · simp only [Act.put, List.setIfInBounds_toArray, List.set_cons_zero, List.set_cons_succ, i64_w, i32_w]
    rfl
  refine pure_ (i := 4) (N := some 50) (v := ?_) (a' := ?_) #[true, true, true, true, true, true, false, false] rfl rfl (by kernel_rfl) (fun _ _ _ h => h) (Or.inl ⟨by rfl, ?_⟩) ?_ ?_
  rotate_left
  · intro w'
    go_simp
    with_reducible rfl
  rotate_left
  · simp only [Act.put, List.setIfInBounds_toArray, List.set_cons_zero, List.set_cons_succ, i64_w, i32_w]
    rfl
  refine one_ (i := 6) (N := none) #[true, true, true, true, true, true, true, false] rfl rfl (by kernel_rfl) (by decide) (fun K hK => ?_)
  refine skip_ (w1 := ?_) (by rfl) rfl ?_ ?_
  rotate_left
  · go_simp
    rfl
  refine hK.out _ _ ⟨set_far hHeld.1 hne6, set_far hHeld.2 hne7⟩ (fun hHeld => ?_)
  clear hK K
  refine last_ (i := 7) (N := none) #[true, true, true, true, true, true, true, true] rfl rfl (by kernel_rfl) (by decide) (fun K hK => ?_)
  refine skip_ (w1 := ?_) (by rfl) rfl ?_ ?_
  rotate_left
  · go_simp
    rfl
  refine hK.out _ _ ?_
  clear hK K
  refine done_ (by kernel_rfl) ?_
  have HC5 := Aside0.mk ((HC3.out.named HE.out x1 1 0).step (below_drew1 (Below.refl _ _)))
  generalize ((w3.setCell ⟨w2.heap.size + 1, 1, none⟩ (.string x1)).setCell ⟨w.heap.size + 1 + 1, 0, none⟩ (.slice (some ⟨w.heap.size + 1, 1, none⟩) 0 0)).drew = w5 at HC5 ⊢
  clear b0 bf q0 q1 q2 q3 qf c0 c1 c2 c3 c4 p1 d0 d1 e1 e2 e3 e4 f0 f1 f2 f3 ff g0 g1 g2 g3 gf k1 hne6 hne7
  obtain ⟨d0, d1⟩ := HC5.out.boxc
  obtain ⟨e1, e2, e3, e4⟩ := HC5.out.shpc
  obtain ⟨f0, f1, f2, f3, ff⟩ := HC5.out.cmdc
  obtain ⟨g0, g1, g2, g3, gf⟩ := HC5.out.resc
  go_wp2
  go_loopw [87] (fun v wr => ∃ (k : Nat) (nums : List Int) (u : Value), k ≤ 0 ∧ v = .int .i64 k ∧ Aside0 (nums.length = k) ∧ Aside0 (numsR (1 + (j : Int)) x1 nums (rest.drop k) = RR) ∧ Aside0 (CInv w ls 1 0 sh w2.heap.size (1 + (j : Int)) x1 u wr) ∧ Aside0 (Kd.R (Kd.int .i64) 3 wr w.heap.size (fun q => w2.heap.size + 1 < q) u nums)) (fun v _ => 0 - (intOf v).toNat)
  case atStart => exact ⟨0, [], .slice none 0 0, Nat.zero_le _, rfl, ⟨rfl⟩, ⟨HRR.out⟩, ⟨HC5.out⟩, ⟨Kd.R_nil _ _ _ _ _⟩⟩
  case round =>
    obtain ⟨k, nums, u, hk, rfl, hnl, HQ, HC, HR⟩ := hrel
    obtain ⟨Ao, co, eo⟩ := Kd.R_slice HR.out
    subst eo
    clear HRR d0 d1 e1 e2 e3 e4 f0 f1 f2 f3 ff g0 g1 g2 g3 gf
    by_cases hlt : k < 0
    · exact absurd hlt (Nat.not_lt_zero _)
    · have e : k = 0 := Nat.le_antisymm hk (Nat.not_lt.1 hlt)
      have hq := HQ.out
      rw [List.drop_of_length_le (by omega), numsR_nil] at hq
      subst hq
      obtain ⟨f0, f1, f2, f3, ff⟩ := HC.out.cmdc
      obtain ⟨g0, g1, g2, g3, gf⟩ := HC.out.resc
      have hge : ¬ ((k : Int) < ((0 : Nat) : Int)) := by omega
      go_wp2
      refine bodyPost_ret (results_list (rs := [.cell 2 31, .tmp 3, .tmp 4]) rfl (by simp) (.cell w.heap.size 31 #[.int .u8 (1 + (j : Int)), .string x1, .slice Ao nums.length co, .string ⟨#[]⟩] (0, 0) _ rfl (HC.out.fin _ _ _ _) Tryd.underlying31 rfl (by kernel_rfl) (.tmp (.tmp .nil)))) rfl ?_
      have hne : ∀ q, w2.heap.size + 1 < q → q ≠ w.heap.size := fun q hq => by have := HC.out.lo; omega
      exact ⟨.slice Ao nums.length co, rfl, Kd.R_mono (Kd.R_far (p := ⟨w.heap.size, 3, none⟩) (Kd.R_far (p := ⟨w.heap.size, 2, none⟩) (Kd.R_far (p := ⟨w.heap.size, 1, none⟩) (Kd.R_far (p := ⟨w.heap.size, 0, none⟩) HR.out hne _) hne _) hne _) hne _) (fun _ _ => trivial), four_below HC.out.below _ _ _ _⟩
set_option maxRecDepth 100000 in
set_option maxHeartbeats 4000000 in
theorem head_t4B (s : ByteArray) (w : World) (hs : s.size ≤ 1000000) (hE : EnvW w) (ls : List ByteArray) (x0 : ByteArray) (hp : piecesB s = ls) (hx0 : ls[0]? = some x0) (N : Nat) (hN : ls.length = N) (j : Nat) (sh : Shp) (hsh : shapesL[j]? = some sh) (HK : kindI x0.data.toList = (j : Int)) (hnm : sh.name = true) (htx : sh.text = false) (x1 : ByteArray) (hx1 : ls[1]? = some x1) (hnam : ∀ W, EnvW W → Calls Tryd.prog 49 #[.string x1] W fun e w' => e = .returned (.bool true) ∧ Below W.heap.size W w') (rest : List ByteArray) (hrl : rest.length = N - 1 - 1) (hrest : ∀ (k : Nat) x, rest[k]? = some x → ls[2 + k]? = some x) (hrs : ∀ x ∈ rest, x.size ≤ 1000000) (RR : HeadR) (hRR : numsR (1 + (j : Int)) x1 [] rest = RR) (hc : decide (((N - 1 - 1 : Nat) : Int) < sh.least) = false) (hc2 : decide (sh.most < ((N - 1 - 1 : Nat) : Int)) = false) (hN2 : ¬ N - 1 = 1) :
    Calls Tryd.prog 23 #[.string s] w fun e w' => ∃ v2_, e = .returned (.tuple #[.agg #[.int .u8 RR.kind, .string RR.name, v2_, .string ⟨#[]⟩], .int .i64 RR.lines, .bool RR.ok]) ∧ Kd.R (Kd.int .i64) 3 w' w.heap.size (fun _ => True) v2_ RR.nums ∧ Below w.heap.size w w' := by
  have hne1 : ¬ N = 1 := fun e => by have := (List.getElem?_eq_some_iff.1 hx1).1; omega
  have hsplit := fun w h => split_calls s w hs h
  have hn : 0 < N := by
    have := (List.getElem?_eq_some_iff.1 hx0).1
    omega
  have hix := fun W (h : HInv w ls 0 N W) => index_ready h x0 hx0 hn
  have hlen := (pieces_len s hs).2
  rw [hp] at hsplit hlen
  rw [hN] at hsplit hlen
  clear hN
  have HSp := Aside0.mk hsplit
  have HE := Aside0.mk hE
  rw [HK] at hix
  have HIx := Aside0.mk hix
  have HX0 := Lib.hid hx0
  have hu31 := Tryd.underlying31
  have hu83 := Tryd.underlying83
  clear hsplit hE hp hix hx0
  have hj11 : j < 11 := by
    have := (List.getElem?_eq_some_iff.1 hsh).1
    exact this
  have hkn : decide ((j : Int) < 0) = false := decide_eq_false (by omega)
  have hi0 : 0 ≤ (j : Int) := by omega
  have hi1 : (j : Int) < 11 := by omega
  have HSh := Lib.hid hsh
  clear hsh
  have HX1 := Lib.hid hx1
  clear hx1
  have HNm := Aside0.mk hnam
  clear hnam
  have hl2 : ((((N - 1) : Nat) : Int) == 0) = false := beq_eq_false_iff_ne.mpr (by omega)
  have HRest := Lib.hid hrest
  have HRs := Lib.hid hrs
  have HRR := Lib.hid hRR
  clear hrest hrs hRR
  go_enter Tryd.func23, Tryd.ntmps23
  go_wp2_with (first | (go_at_call 46; refine (HSp.out _ (HE.out.below (below_alloc (Below.refl _ _) _))).mono ?_; rintro e w1 ⟨rfl, rfl⟩) | (go_at_call 47; refine (HIx.out _ (hinv_start w ls _ HE.out)).mono ?_; rintro e w2 ⟨rfl, hb2⟩; have HI2 := Aside0.mk ((hinv_start w ls _ HE.out).step hb2); clear hb2; obtain ⟨b0, bf⟩ := HI2.out.box2; obtain ⟨q0, q1, q2, q3, qf⟩ := HI2.out.res2c; have c0 : w2.cell? ⟨0, j * 5, none⟩ = some (.string (str sh.word)) := HI2.out.env.shp j sh HSh.out 0 _ rfl; have c1 : w2.cell? ⟨0, j * 5 + 1, none⟩ = some (.bool sh.name) := HI2.out.env.shp j sh HSh.out 1 _ rfl; have c2 : w2.cell? ⟨0, j * 5 + 2, none⟩ = some (.bool sh.text) := HI2.out.env.shp j sh HSh.out 2 _ rfl; have c3 : w2.cell? ⟨0, j * 5 + 3, none⟩ = some (.int .i64 sh.least) := HI2.out.env.shp j sh HSh.out 3 _ rfl; have c4 : w2.cell? ⟨0, j * 5 + 4, none⟩ = some (.int .i64 sh.most) := HI2.out.env.shp j sh HSh.out 4 _ rfl;have p1 : ∀ X Y v, (((w2.alloc X).alloc Y).setCell ⟨w.heap.size + 1 + 1, 0, none⟩ v).cell? ⟨w.heap.size + 1, 1, none⟩ = some (.string x1) := fun X Y v => HI2.out.word2 1 x1 HX1.out X Y v;) | (go_at_call 49; refine (HNm.out _ (HE.out.below (HI2.out.below2 _ _ _))).mono ?_; rintro e w3 ⟨rfl, hb3⟩; have HC3 := Aside0.mk ((cinv_start (sh := sh) (j := j) HE.out HI2.out).step (by rw [hnm, htx]; exact hb3)); clear hb3;obtain ⟨d0, d1⟩ := HC3.out.boxc; obtain ⟨e1, e2, e3, e4⟩ := HC3.out.shpc; obtain ⟨f0, f1, f2, f3, ff⟩ := HC3.out.cmdc; obtain ⟨g0, g1, g2, g3, gf⟩ := HC3.out.resc; have k1 := HC3.out.words 1 x1 HX1.out;))
  have hp1 : 0 < N - 1 := by omega
  have hp2 : (1 : Int) ≤ ((N - 1 : Nat) : Int) := by omega
  have hne6 : w.heap.size + 1 + 1 ≠ w2.heap.size + 1 := by have := HC3.out.lo; omega
  have hne7 : w.heap.size + 1 ≠ w2.heap.size + 1 := by have := HC3.out.lo; omega
  refine start_ (n := 8) (S := fun w' => w'.cell? ⟨w.heap.size + 1 + 1, 0, none⟩ = some (.slice (some ⟨w.heap.size + 1, 1, none⟩) (N - 1) (N - 1)) ∧ w'.cell? ⟨w.heap.size + 1, 1, none⟩ = some (.string x1)) (ds := [7]) #[false, false, false, false, false, false, false, false] (by kernel_rfl) rfl rfl ⟨d0, k1⟩ (fun hHeld => ?_)
  refine take_ (i := 0) (N := some 46) (v := ?_) (a' := ?_) #[true, false, false, false, false, false, false, false] rfl rfl (by kernel_rfl) (fun _ _ _ h => h) (Or.inl ⟨by rfl, ?_⟩) hHeld ?_ ?_
  rotate_left
  · rintro w' ⟨s0, s1⟩
    go_simp
    with_reducible rfl
  rotate_left
  · simp only [Act.put, List.setIfInBounds_toArray, List.set_cons_zero, List.set_cons_succ, i64_w, i32_w]
    rfl
  refine pure_ (i := 1) (N := some 47) (v := ?_) (a' := ?_) #[true, true, false, false, false, false, false, false] rfl rfl (by kernel_rfl) (fun _ _ _ h => h) (Or.inl ⟨by rfl, ?_⟩) ?_ ?_
  rotate_left
  · intro w'
    go_simp
    with_reducible rfl
  rotate_left
  · simp only [Act.put, List.setIfInBounds_toArray, List.set_cons_zero, List.set_cons_succ, i64_w, i32_w]
    rfl
  refine take_ (i := 2) (N := some 48) (v := ?_) (a' := ?_) #[true, true, true, false, false, false, false, false] rfl rfl (by kernel_rfl) (fun _ _ _ h => h) (Or.inl ⟨by rfl, ?_⟩) hHeld ?_ ?_
  rotate_left
  · rintro w' ⟨s0, s1⟩
    go_simp
    with_reducible rfl
  rotate_left
  · simp only [Act.put, List.setIfInBounds_toArray, List.set_cons_zero, List.set_cons_succ, i64_w, i32_w]
    rfl
  refine pure_ (i := 5) (N := some 51) (v := ?_) (a' := ?_) #[true, true, true, false, false, true, false, false] rfl rfl (by kernel_rfl) (fun _ _ _ h => h) (Or.inl ⟨by rfl, ?_⟩) ?_ ?_
  rotate_left
  · intro w'
    go_simp
    with_reducible rfl
  rotate_left
  · simp only [Act.put, List.setIfInBounds_toArray, List.set_cons_zero, List.set_cons_succ, i64_w, i32_w]
    rfl
  refine take_ (i := 3) (N := some 49) (v := ?_) (a' := ?_) #[true, true, true, true, false, true, false, false] rfl rfl (by kernel_rfl) (fun _ _ _ h => h) (Or.inl ⟨by rfl, ?_⟩) hHeld ?_ ?_
  rotate_left
  · rintro w' ⟨s0, s1⟩
    go_simp
    with_reducible rfl
  rotate_left
  · simp only [Act.put, List.setIfInBounds_toArray, List.set_cons_zero, List.set_cons_succ, i64_w, i32_w]
    rfl
  refine pure_ (i := 4) (N := some 50) (v := ?_) (a' := ?_) #[true, true, true, true, true, true, false, false] rfl rfl (by kernel_rfl) (fun _ _ _ h => h) (Or.inl ⟨by rfl, ?_⟩) ?_ ?_
  rotate_left
  · intro w'
    go_simp
    with_reducible rfl
  rotate_left
  · simp only [Act.put, List.setIfInBounds_toArray, List.set_cons_zero, List.set_cons_succ, i64_w, i32_w]
    rfl
  refine one_ (i := 6) (N := none) #[true, true, true, true, true, true, true, false] rfl rfl (by kernel_rfl) (by decide) (fun K hK => ?_)
  refine skip_ (w1 := ?_) (by rfl) rfl ?_ ?_
  rotate_left
  · go_simp
    rfl
  refine hK.out _ _ ⟨set_far hHeld.1 hne6, set_far hHeld.2 hne7⟩ (fun hHeld => ?_)
  clear hK K
  refine last_ (i := 7) (N := none) #[true, true, true, true, true, true, true, true] rfl rfl (by kernel_rfl) (by decide) (fun K hK => ?_)
  refine skip_ (w1 := ?_) (by rfl) rfl ?_ ?_
  rotate_left
  · go_simp
    rfl
  refine hK.out _ _ ?_
  clear hK K
  refine done_ (by kernel_rfl) ?_
  have HC5 := Aside0.mk ((HC3.out.named HE.out x1 2 (N - 1 - 1)).step (below_drew1 (Below.refl _ _)))
  generalize ((w3.setCell ⟨w2.heap.size + 1, 1, none⟩ (.string x1)).setCell ⟨w.heap.size + 1 + 1, 0, none⟩ (.slice (some ⟨w.heap.size + 1, 2, none⟩) (N - 1 - 1) (N - 1 - 1))).drew = w5 at HC5 ⊢
  clear b0 bf q0 q1 q2 q3 qf c0 c1 c2 c3 c4 p1 d0 d1 e1 e2 e3 e4 f0 f1 f2 f3 ff g0 g1 g2 g3 gf k1 hne6 hne7
  obtain ⟨d0, d1⟩ := HC5.out.boxc
  obtain ⟨e1, e2, e3, e4⟩ := HC5.out.shpc
  obtain ⟨f0, f1, f2, f3, ff⟩ := HC5.out.cmdc
  obtain ⟨g0, g1, g2, g3, gf⟩ := HC5.out.resc
  go_wp2
  go_loopw [87] (fun v wr => ∃ (k : Nat) (nums : List Int) (u : Value), k ≤ (N - 1 - 1) ∧ v = .int .i64 k ∧ Aside0 (nums.length = k) ∧ Aside0 (numsR (1 + (j : Int)) x1 nums (rest.drop k) = RR) ∧ Aside0 (CInv w ls 2 (N - 1 - 1) sh w2.heap.size (1 + (j : Int)) x1 u wr) ∧ Aside0 (Kd.R (Kd.int .i64) 3 wr w.heap.size (fun q => w2.heap.size + 1 < q) u nums)) (fun v _ => (N - 1 - 1) - (intOf v).toNat)
  case atStart => exact ⟨0, [], .slice none 0 0, Nat.zero_le _, rfl, ⟨rfl⟩, ⟨HRR.out⟩, ⟨HC5.out⟩, ⟨Kd.R_nil _ _ _ _ _⟩⟩
  case round =>
    obtain ⟨k, nums, u, hk, rfl, hnl, HQ, HC, HR⟩ := hrel
    obtain ⟨Ao, co, eo⟩ := Kd.R_slice HR.out
    subst eo
    clear HRR d0 d1 e1 e2 e3 e4 f0 f1 f2 f3 ff g0 g1 g2 g3 gf
    by_cases hlt : k < (N - 1 - 1)
    · obtain ⟨x, hx, hd⟩ := drop_at rest k (by omega)
      have hcell := HC.out.words _ _ (HRest.out k x hx)
      have hxs := HRs.out x (List.mem_of_getElem? hx)
      have hq := HQ.out
      rw [hd] at hq
      have hnext := nextI' k _ hlt (by omega)
      have HNu := Aside0.mk (fun W (h : EnvW W) => number_calls x W hxs h)
      obtain ⟨f0, f1, f2, f3, ff⟩ := HC.out.cmdc
      by_cases hb : numB x.data.toList = true
      · rw [numsR_yes _ _ _ _ _ hb] at hq
        rw [hb] at HNu
        generalize numV x.data.toList = vn at HNu hq
        have HQ2 := Aside0.mk hq
        clear hq hx hd hb hxs
        go_wp2_with (first | (go_at_call 50; refine (HNu.out _ HC.out.env).mono ?_; rintro e w4 ⟨rfl, hb4⟩; have HC4 := Aside0.mk (HC.out.step hb4); have HR4 := Aside0.mk (Kd.R_below HR.out hb4); clear hb4; obtain ⟨h0, h1, h2, h3, hf⟩ := HC4.out.cmdc) | ((with_reducible refine gate_builtin (b := .append) (xs := #[.tmp 100, .tmp 102]) rfl ?_); at_builtin; refine Kd.R_append (Kd.int .i64) (w0 := w) w.heap.size rfl (.tmp 100) (.tmp 102) 29 3 (.int .i64 0) 8 rfl Tryd.underlying29 info3h rfl (by decide) (by omega) (.slice Ao nums.length co) nums vn [.int .i64 vn] (fun q => w2.heap.size + 1 < q) (fun _ => False) rfl (by first | (go_simp; done) | (go_simp; rfl)) rfl (fun _ hk => hk.elim) (fun q hq => Nat.lt_of_lt_of_le HC4.out.hi hq) HR4.out HC4.out.below HC4.out.below.size (capI nums k hnl.out (by omega)) ?_; intro v1 w6 ho hb6 hg6 hat; obtain ⟨A6, c6, e6⟩ := Kd.R_slice ho; subst e6; have HC6 := Aside0.mk (HC4.out.grow HE.out HR4.out.1 hb6 hg6); (rw [List.length_append, List.length_singleton] at ho); have HR6 := Aside0.mk ho; clear ho hb6 hg6 hat; obtain ⟨i0, i1, i2, i3, jf⟩ := HC6.out.cmdc))
        go_roundw
        case rel => exact ⟨k + 1, nums ++ [vn], .slice A6 (nums.length + 1) c6, hlt, by go_num, ⟨lenI nums vn k hnl.out⟩, HQ2, ⟨HC6.out.put HE.out (.slice A6 (nums.length + 1) c6)⟩, ⟨Kd.R_far HR6.out (fun q hq => Nat.ne_of_gt hq) _⟩⟩
        case measure => exact nextM k _ hlt
      · have hb0 : numB x.data.toList = false := by simpa using hb
        rw [numsR_no _ _ _ _ _ hb0] at hq
        rw [hb0] at HNu
        subst hq
        generalize numV x.data.toList = vn at HNu
        clear hx hd hb hb0 hxs
        go_wp2_with (go_at_call 50; refine (HNu.out _ HC.out.env).mono ?_; rintro e w4 ⟨rfl, hb4⟩; have HC4 := Aside0.mk (HC.out.step hb4); clear hb4; obtain ⟨g0, g1, g2, g3, gf⟩ := HC4.out.resc)
        refine bodyPost_ret (results_list (rs := [.cell 2 31, .tmp 3, .tmp 4]) rfl (by simp) (.cell w.heap.size 31 #[.int .u8 0, .string ⟨#[]⟩, .slice none 0 0, .string ⟨#[]⟩] (0, 0) _ rfl (HC4.out.fin _ _ _ _) Tryd.underlying31 rfl (by kernel_rfl) (.tmp (.tmp .nil)))) rfl ?_
        exact ⟨.slice none 0 0, rfl, Kd.R_nil _ _ _ _ _, four_below HC4.out.below _ _ _ _⟩
    · have e : k = (N - 1 - 1) := Nat.le_antisymm hk (Nat.not_lt.1 hlt)
      have hq := HQ.out
      rw [List.drop_of_length_le (by omega), numsR_nil] at hq
      subst hq
      obtain ⟨f0, f1, f2, f3, ff⟩ := HC.out.cmdc
      obtain ⟨g0, g1, g2, g3, gf⟩ := HC.out.resc
      have hge : ¬ ((k : Int) < (((N - 1 - 1) : Nat) : Int)) := by omega
      go_wp2
      refine bodyPost_ret (results_list (rs := [.cell 2 31, .tmp 3, .tmp 4]) rfl (by simp) (.cell w.heap.size 31 #[.int .u8 (1 + (j : Int)), .string x1, .slice Ao nums.length co, .string ⟨#[]⟩] (0, 0) _ rfl (HC.out.fin _ _ _ _) Tryd.underlying31 rfl (by kernel_rfl) (.tmp (.tmp .nil)))) rfl ?_
      have hne : ∀ q, w2.heap.size + 1 < q → q ≠ w.heap.size := fun q hq => by have := HC.out.lo; omega
      exact ⟨.slice Ao nums.length co, rfl, Kd.R_mono (Kd.R_far (p := ⟨w.heap.size, 3, none⟩) (Kd.R_far (p := ⟨w.heap.size, 2, none⟩) (Kd.R_far (p := ⟨w.heap.size, 1, none⟩) (Kd.R_far (p := ⟨w.heap.size, 0, none⟩) HR.out hne _) hne _) hne _) hne _) (fun _ _ => trivial), four_below HC.out.below _ _ _ _⟩
end Go.Proofs.YtmciflmlpnpkaaaDoor.Pa
