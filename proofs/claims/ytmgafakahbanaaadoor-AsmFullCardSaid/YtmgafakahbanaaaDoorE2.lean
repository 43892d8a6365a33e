import Derived.Test.YtmgafakahbanaaaDoorE1
namespace Go.Proofs.YtmgafakahbanaaaDoor.Pa
open Go.Sort Go.RowKit Go.Proofs.YtmgafakahbanaaaDoorW.PrintWords Go.Proofs.YtmgafakahbanaaaDoorW.PrintLast Go.Proofs.YtmgafakahbanaaaDoorW.PrintMore
set_option linter.unusedVariables false
set_option linter.unusedSimpArgs false
theorem fo_eq (c : Int) : fo c = fo2 (c - 32) := by
  rw [fo2_cases]
  rfl
/-- What the loop of isa.Decode keeps: the result's block, the instruction's block at B, the operands' bytes at S. -/
structure DInv (w : World) (B S : Nat) (cs : ByteArray) (cur : S48) (wr : World) : Prop where
  below : Below w.heap.size w wr
  res : wr.heap[w.heap.size]? = some (.cells #[.int .u8 0, .int .i64 0, .int .i64 0, .int .i64 0, .int .i64 0] 48 (0, 0))
  blk : wr.heap[B]? = some (.cells #[.int .u8 cur.f0, .int .i64 cur.f1, .int .i64 cur.f2, .int .i64 cur.f3, .int .i64 cur.f4] 48 (0, 0))
  cs : ∀ j (hj : j < cs.size), wr.cell? ⟨S, j, none⟩ = some (.int .u8 (cs.data.toList.getD j 0).toNat)
  own : w.heap.size < B
  lts : S < wr.heap.size
  ne : B < S
theorem DInv.step {w : World} {B S : Nat} {cs : ByteArray} {cur : S48} {wr w1 : World} (h : DInv w B S cs cur wr) (hb : Below wr.heap.size wr w1) : DInv w B S cs cur w1 := by
  obtain ⟨h0, h1, h2, h3, h4, h5, h6⟩ := h
  exact ⟨below_then h0 h0.size hb, blk_below h1 hb, blk_below h2 hb, fun j hj => (hb.cell h5).trans (h3 j hj), h4, Nat.lt_of_lt_of_le h5 hb.size, h6⟩
theorem DInv.put {w : World} {B S : Nat} {cs : ByteArray} {cur : S48} {wr : World} (h : DInv w B S cs cur wr) (c v : Int) (hc : c = 97 ∨ c = 98 ∨ c = 99 ∨ c = 105) : DInv w B S cs (setF cur c v) (wr.setCell ⟨B, fo c, none⟩ (.int .i64 v)) := by
  rw [fo_eq]
  obtain ⟨a1, a2, h1, h2, h3, h4, h5⟩ := h
  have hb : Below w.heap.size w (wr.setCell ⟨B, fo2 (c - 32), none⟩ (.int .i64 v)) := below_set a1 (by omega)
  have far : ∀ (q i : Nat) (u : Value), q ≠ B → wr.cell? ⟨q, i, none⟩ = some u → (wr.setCell ⟨B, fo2 (c - 32), none⟩ (.int .i64 v)).cell? ⟨q, i, none⟩ = some u := by
    intro q i u hq hu
    have := Below.heap_setCell wr ⟨B, fo2 (c - 32), none⟩ (.int .i64 v) q hq
    simpa [World.cell?, this] using hu
  exact ⟨hb, blk_far a2 (by show w.heap.size ≠ B; omega) _, setF_blk h1 c v hc, fun j hj => far _ _ _ (by omega) (h2 j hj), h3, by simpa [World.setCell] using h4, h5⟩
theorem dinv_start (w w1 : World) (op : Int) (cs : ByteArray) (X : Obj)
    (hb : Below (((w.alloc (.cells #[.int .u8 0, .int .i64 0, .int .i64 0, .int .i64 0, .int .i64 0] 48)).alloc (.cells #[.int .u8 op, .int .i64 0, .int .i64 0, .int .i64 0, .int .i64 0] 48))).heap.size ((w.alloc (.cells #[.int .u8 0, .int .i64 0, .int .i64 0, .int .i64 0, .int .i64 0] 48)).alloc (.cells #[.int .u8 op, .int .i64 0, .int .i64 0, .int .i64 0, .int .i64 0] 48)) w1) :
    DInv w (w.heap.size + 1) (w1.heap.size + 1) cs ⟨op, 0, 0, 0, 0⟩ (Lib.bytesWorld (w1.alloc X) 5 cs) := by
  have hsz := hb.size
  simp at hsz
  have e : (w1.alloc X).heap.size = w1.heap.size + 1 := by simp
  have e1 : (w.alloc (.cells #[.int .u8 0, .int .i64 0, .int .i64 0, .int .i64 0, .int .i64 0] 48)).heap.size = w.heap.size + 1 := by simp
  have hb1 : Below w.heap.size w w1 := below_then (below_alloc (below_alloc (Below.refl w.heap.size w) _) _) (by simp; omega) hb
  have hx : Below w1.heap.size w1 (Lib.bytesWorld (w1.alloc X) 5 cs) := below_then (below_alloc (Below.refl _ _) X) (by simp) (bytesWorld_below (w1.alloc X) 5 cs)
  have r1 : w1.heap[w.heap.size]? = some (.cells #[.int .u8 0, .int .i64 0, .int .i64 0, .int .i64 0, .int .i64 0] 48 (0, 0)) := blk_below (blk_below (blk_new _ _) (below_alloc (Below.refl _ _) _)) hb
  have r2 : w1.heap[w.heap.size + 1]? = some (.cells #[.int .u8 op, .int .i64 0, .int .i64 0, .int .i64 0, .int .i64 0] 48 (0, 0)) := by
    have := blk_new (w.alloc (.cells #[.int .u8 0, .int .i64 0, .int .i64 0, .int .i64 0, .int .i64 0] 48)) (.cells #[.int .u8 op, .int .i64 0, .int .i64 0, .int .i64 0, .int .i64 0] 48)
    rw [e1] at this
    exact blk_below this hb
  refine ⟨below_then hb1 hb1.size hx, blk_below r1 hx, blk_below r2 hx, fun j hj => by rw [← e]; exact Lib.bytesWorld_cell (w1.alloc X) 5 cs j hj, by omega, ?_, by omega⟩
  rw [Lib.bytesWorld_size]
  simp
theorem res_old (w w1 : World) (op : Int)
    (hb : Below (((w.alloc (.cells #[.int .u8 0, .int .i64 0, .int .i64 0, .int .i64 0, .int .i64 0] 48)).alloc (.cells #[.int .u8 op, .int .i64 0, .int .i64 0, .int .i64 0, .int .i64 0] 48))).heap.size ((w.alloc (.cells #[.int .u8 0, .int .i64 0, .int .i64 0, .int .i64 0, .int .i64 0] 48)).alloc (.cells #[.int .u8 op, .int .i64 0, .int .i64 0, .int .i64 0, .int .i64 0] 48)) w1) (X : Obj) :
    (w1.alloc X).heap[w.heap.size]? = some (.cells #[.int .u8 0, .int .i64 0, .int .i64 0, .int .i64 0, .int .i64 0] 48 (0, 0)) ∧ Below w.heap.size w (w1.alloc X) := by
  have hb1 : Below w.heap.size w w1 := below_then (below_alloc (below_alloc (Below.refl w.heap.size w) _) _) (by simp; omega) hb
  exact ⟨blk_below (blk_below (blk_below (blk_new _ _) (below_alloc (Below.refl _ _) _)) hb) (below_alloc (Below.refl _ _) X), below_alloc hb1 X⟩
set_option maxRecDepth 100000 in
set_option maxHeartbeats 1000000 in
theorem decode_no (x : Int) (w : World) (h0 : 0 ≤ x) (h1 : x < 4294967296) (hop : 30 ≤ x / 67108864) :
    Calls Tryd.prog 23 #[.int .u32 x] w fun e w' => e = .returned (.tuple #[.agg #[.int .u8 0, .int .i64 0, .int .i64 0, .int .i64 0, .int .i64 0], .int .i64 3]) ∧ Below w.heap.size w w' := by
  have HF := Lib.hid (find_no (x / 67108864) hop (by omega))
  have hu48 := Tryd.underlying48
  go_enter Tryd.func23, Tryd.ntmps23
  go_wp2_with (go_at_call 37; refine (isa_find.calls 20 _ _ _ _ _ _ _ _ _ HF.out).mono ?_; rintro e w1 ⟨rfl, hb1⟩; have hbR := fun X => (res_old w w1 (x / 67108864) hb1 X).1; have HBl := Aside0.mk (fun X => (res_old w w1 (x / 67108864) hb1 X).2); clear hb1; have r0 := fun X => blk_cell (hbR X) 0; have r1 := fun X => blk_cell (hbR X) 1; have r2 := fun X => blk_cell (hbR X) 2; have r3 := fun X => blk_cell (hbR X) 3; have r4 := fun X => blk_cell (hbR X) 4; have rf := fun X i => blk_frozen (hbR X) i; have HBR := Aside0.mk hbR; clear hbR)
  refine bodyPost_ret (results_ct rfl _ _ w.heap.size 48 #[.int .u8 0, .int .i64 0, .int .i64 0, .int .i64 0, .int .i64 0] (0, 0) _ rfl (zero_blk (HBR.out _)) Tryd.underlying48 rfl (by kernel_rfl)) rfl ?_
  exact ⟨rfl, zero_below (HBl.out _)⟩
theorem rows_ops : ∀ r ∈ rowTab, ∀ c ∈ nums8 r.f1, c = 97 ∨ c = 98 ∨ c = 99 ∨ c = 105 := by
  have h : (rowTab.all fun r => (nums8 r.f1).all fun c => c == 97 || c == 98 || c == 99 || c == 105) = true := by kernel_rfl
  intro r hr c hc
  have := List.all_eq_true.1 (List.all_eq_true.1 h r hr) c hc
  simpa [or_assoc] using this
theorem rowOf_mem (op : Int) (h0 : 0 ≤ op) (h1 : op < 30) : rowOf op ∈ rowTab := by
  have hl := rowTab_len
  unfold rowOf rd_T76
  rw [List.getD_eq_getElem?_getD, List.getElem?_eq_getElem (by omega)]
  exact List.getElem_mem _
theorem rowOf_ops (op : Int) (h0 : 0 ≤ op) (h1 : op < 30) : ∀ c ∈ nums8 (rowOf op).f1, c = 97 ∨ c = 98 ∨ c = 99 ∨ c = 105 := rows_ops _ (rowOf_mem op h0 h1)
def decStep (x : Int) (i : S48) (c : Int) : S48 := setF i c (if c = 105 then wrap64 (wrap32 (x * 16384 % 4294967296) / 16384) else wrap64 (bits .and .u32 (x / 2 ^ (posF c).toNat) 15))
theorem setF_op (i : S48) (c v : Int) : (setF i c v).f0 = i.f0 := by
  unfold setF
  split
  · rfl
  · split
    · rfl
    · split <;> rfl
def decW (x : Int) (i : S48) (l : List Int) : S48 := l.foldl (decStep x) i
theorem decW_op (x : Int) : ∀ (l : List Int) (i : S48), (decW x i l).f0 = i.f0
  | [], i => rfl
  | c :: l, i => by
    unfold decW
    rw [List.foldl_cons]
    have := decW_op x l (decStep x i c)
    unfold decW at this
    rw [this]
    exact setF_op i c _
def decF (x : Int) : S48 × Int := if x / 67108864 < 30 then (if (encF (decW x ⟨x / 67108864, 0, 0, 0, 0⟩ (nums8 (rowOf (x / 67108864)).f1))).2 = 0 ∧ (encF (decW x ⟨x / 67108864, 0, 0, 0, 0⟩ (nums8 (rowOf (x / 67108864)).f1))).1 = x then (decW x ⟨x / 67108864, 0, 0, 0, 0⟩ (nums8 (rowOf (x / 67108864)).f1), 0) else (⟨0, 0, 0, 0, 0⟩, 3)) else (⟨0, 0, 0, 0, 0⟩, 3)
theorem DInv.fields {w : World} {B S : Nat} {cs : ByteArray} {cur : S48} {wr : World} (h : DInv w B S cs cur wr) (c : Int) : wr.cell? ⟨B, fo c, none⟩ = some (.int .i64 (xF cur c)) := by
  unfold fo xF
  by_cases h1 : c = 97
  · rw [if_pos h1, if_pos h1]; exact blk_cell h.blk 1
  · rw [if_neg h1, if_neg h1]
    by_cases h2 : c = 98
    · rw [if_pos h2, if_pos h2]; exact blk_cell h.blk 2
    · rw [if_neg h2, if_neg h2]
      by_cases h3 : c = 99
      · rw [if_pos h3, if_pos h3]; exact blk_cell h.blk 3
      · rw [if_neg h3, if_neg h3]; exact blk_cell h.blk 4
theorem nums8_mem (cs : ByteArray) (j : Nat) (h : j < cs.size) : ((cs.data.toList.getD j 0).toNat : Int) ∈ nums8 cs := by
  have hj' : j < cs.data.toList.length := by simpa using h
  rw [nums8, List.mem_map]
  exact ⟨_, List.getElem_mem hj', by rw [List.getD_eq_getElem?_getD, List.getElem?_eq_getElem hj']; rfl⟩
set_option maxRecDepth 100000 in
set_option maxHeartbeats 1000000 in
theorem decode_yes (x : Int) (w : World) (h0 : 0 ≤ x) (h1 : x < 4294967296) (hop : x / 67108864 < 30) :
    Calls Tryd.prog 23 #[.int .u32 x] w fun e w' => e = .returned (.tuple #[.agg #[.int .u8 (decF x).1.f0, .int .i64 (decF x).1.f1, .int .i64 (decF x).1.f2, .int .i64 (decF x).1.f3, .int .i64 (decF x).1.f4], .int .i64 (decF x).2]) ∧ Below w.heap.size w w' := by
  have HF := Lib.hid (find_yes (x / 67108864) (by omega) hop)
  have hsz := rowOf_short (x / 67108864) (by omega) hop
  have hops := rowOf_ops (x / 67108864) (by omega) hop
  have hdec : decF x = if (encF (decW x ⟨x / 67108864, 0, 0, 0, 0⟩ (nums8 (rowOf (x / 67108864)).f1))).2 = 0 ∧ (encF (decW x ⟨x / 67108864, 0, 0, 0, 0⟩ (nums8 (rowOf (x / 67108864)).f1))).1 = x then (decW x ⟨x / 67108864, 0, 0, 0, 0⟩ (nums8 (rowOf (x / 67108864)).f1), 0) else (⟨0, 0, 0, 0, 0⟩, 3) := by
    unfold decF
    rw [if_pos hop]
  generalize decF x = dx at hdec ⊢
  generalize hr : rowOf (x / 67108864) = r at HF hsz hops hdec
  have HR := Lib.hid hr
  clear hr
  generalize hcs : r.f1 = cs at HF hsz hops hdec
  have HS := Lib.hid hcs
  clear hcs
  have HOps := Lib.hid hops
  clear hops
  have HDec := Lib.hid hdec
  clear hdec
  have hu48 := Tryd.underlying48
  have hcv := fun (w : World) => Lib.run_convert_string_bytes (P := Tryd.prog) w 9 36 5 cs Tryd.underlying9 Tryd.underlying36 Tryd.underlying5
  go_enter Tryd.func23, Tryd.ntmps23
  go_wp2_with (go_at_call 37; refine (isa_find.calls 20 _ _ _ _ _ _ _ _ _ HF.out).mono ?_; rintro e w1 ⟨rfl, hb1⟩)
  have hI : DInv w (w.heap.size + 1) (w1.heap.size + 1) cs ⟨x / 67108864, 0, 0, 0, 0⟩ (Lib.bytesWorld (w1.alloc (.cells #[.string r.f0, .string cs, .int .i64 r.f2, .int .i64 r.f3, .string r.f4, .string r.f5] 76)) 5 cs) := dinv_start w w1 _ cs _ hb1
  have HI := Aside0.mk hI
  clear hI hb1
  go_loopw [28] (fun v wr => ∃ (j : Nat) (cur : S48), j ≤ cs.size ∧ v = .int .i64 j ∧ Aside0 (cur = decW x ⟨x / 67108864, 0, 0, 0, 0⟩ ((nums8 cs).take j)) ∧ Aside0 (DInv w (w.heap.size + 1) (w1.heap.size + 1) cs cur wr)) (fun v _ => cs.size - (intOf v).toNat)
  case atStart => exact ⟨0, _, by omega, rfl, ⟨rfl⟩, HI⟩
  case round =>
    obtain ⟨j, cur, hj, rfl, HX, HV2⟩ := hrel
    clear HI
    by_cases hlt : j < cs.size
    · have hcell := HV2.out.cs j hlt
      have hcm := HOps.out _ (nums8_mem cs j hlt)
      generalize hcc : ((cs.data.toList.getD j 0).toNat : Int) = c at hcell hcm
      have hc01 : 0 ≤ c ∧ c ≤ 255 := by omega
      have HC := Lib.hid hcc
      have HCM := Lib.hid hcm
      clear hcc hcm
      have HX2 : Hid (decW x ⟨x / 67108864, 0, 0, 0, 0⟩ ((nums8 cs).take (j + 1)) = decStep x cur c) := Lib.hid (by rw [encW_succ cur 0 cs j hlt, HC.out, decW, List.foldl_append, HX.out]; rfl)
      by_cases h105 : c = 105
      · subst h105
        have hfl := blk_cell HV2.out.blk 4
        have hfr : ∀ j, wr.frozen? ⟨w.heap.size + 1, j, none⟩ = false := fun j => blk_frozen HV2.out.blk j
        go_wp2
        go_roundw
        case rel => exact ⟨j + 1, decStep x cur 105, by omega, by go_num, ⟨HX2.out.symm⟩, ⟨HV2.out.put 105 _ (by simp)⟩⟩
        case measure => simp [intOf]; omega
      · have hpos := fun w => position_calls c w hc01.1 hc01.2
        have hpr := posF_range c
        have hds : decStep x cur c = setF cur c (wrap64 (bits .and .u32 (x / 2 ^ (posF c).toNat) 15)) := by unfold decStep; rw [if_neg h105]
        generalize decStep x cur c = cur2 at hds HX2
        generalize posF c = p at hpos hpr hds
        have HDs := Lib.hid hds
        clear hds
        have HP := Lib.hid hpos
        clear hpos
        go_wp2_with (first | (go_at_call 38; refine (isa_field.calls _ _ _).mono ?_; rintro e w' ⟨rfl, rfl⟩) | (go_at_call 39; refine (HP.out _).mono ?_; rintro e w3 ⟨rfl, hb3⟩; have HV3 := Aside0.mk (HV2.out.step hb3); have hfl := HV3.out.fields c; have hfr : ∀ j, w3.frozen? ⟨w.heap.size + 1, j, none⟩ = false := fun j => blk_frozen HV3.out.blk j))
        go_roundw
        case rel => exact ⟨j + 1, cur2, by omega, by go_num, ⟨HX2.out.symm⟩, ⟨by rw [HDs.out]; exact HV3.out.put c _ HCM.out⟩⟩
        case measure => simp [intOf]; omega
    · have hj4 : j = cs.size := by omega
      subst hj4
      have hcur : cur = decW x ⟨x / 67108864, 0, 0, 0, 0⟩ (nums8 cs) := by rw [HX.out, List.take_of_length_le (by rw [nums8_len]; exact Nat.le_refl _)]
      have hf0 : cur.f0 = x / 67108864 := by rw [hcur, decW_op]
      have hd := HDec.out
      rw [← hcur] at hd
      have HE := Lib.hid (fun w => encode_calls cur w (by omega) (by omega))
      clear hf0
      generalize encF cur = q at hd HE
      obtain ⟨v, e⟩ := q
      dsimp only at hd HE
      have b0 : wr.cell? ⟨w.heap.size + 1, 0, none⟩ = some (.int .u8 cur.f0) := blk_cell HV2.out.blk 0
      have b1 : wr.cell? ⟨w.heap.size + 1, 1, none⟩ = some (.int .i64 cur.f1) := blk_cell HV2.out.blk 1
      have b2 : wr.cell? ⟨w.heap.size + 1, 2, none⟩ = some (.int .i64 cur.f2) := blk_cell HV2.out.blk 2
      have b3 : wr.cell? ⟨w.heap.size + 1, 3, none⟩ = some (.int .i64 cur.f3) := blk_cell HV2.out.blk 3
      have b4 : wr.cell? ⟨w.heap.size + 1, 4, none⟩ = some (.int .i64 cur.f4) := blk_cell HV2.out.blk 4
      have HCur := Lib.hid hcur
      clear hcur
      by_cases he : e = 0
      · subst he
        by_cases hv : v = x
        · subst hv
          rw [if_pos ⟨rfl, rfl⟩] at hd
          subst hd
          go_wp2_with (go_at_call 21; refine (HE.out _).mono ?_; rintro e w3 ⟨rfl, hb3⟩; have HV3 := Aside0.mk (HV2.out.step hb3); have r0 : w3.cell? ⟨w.heap.size, 0, none⟩ = some (.int .u8 0) := blk_cell HV3.out.res 0; have r1 : w3.cell? ⟨w.heap.size, 1, none⟩ = some (.int .i64 0) := blk_cell HV3.out.res 1; have r2 : w3.cell? ⟨w.heap.size, 2, none⟩ = some (.int .i64 0) := blk_cell HV3.out.res 2; have r3 : w3.cell? ⟨w.heap.size, 3, none⟩ = some (.int .i64 0) := blk_cell HV3.out.res 3; have r4 : w3.cell? ⟨w.heap.size, 4, none⟩ = some (.int .i64 0) := blk_cell HV3.out.res 4; have rf := fun i => blk_frozen HV3.out.res i; have t0 : w3.cell? ⟨w.heap.size + 1, 0, none⟩ = some (.int .u8 cur.f0) := blk_cell HV3.out.blk 0; have t1 : w3.cell? ⟨w.heap.size + 1, 1, none⟩ = some (.int .i64 cur.f1) := blk_cell HV3.out.blk 1; have t2 : w3.cell? ⟨w.heap.size + 1, 2, none⟩ = some (.int .i64 cur.f2) := blk_cell HV3.out.blk 2; have t3 : w3.cell? ⟨w.heap.size + 1, 3, none⟩ = some (.int .i64 cur.f3) := blk_cell HV3.out.blk 3; have t4 : w3.cell? ⟨w.heap.size + 1, 4, none⟩ = some (.int .i64 cur.f4) := blk_cell HV3.out.blk 4)
          refine bodyPost_ret (results_ct rfl _ _ w.heap.size 48 #[.int .u8 cur.f0, .int .i64 cur.f1, .int .i64 cur.f2, .int .i64 cur.f3, .int .i64 cur.f4] (0, 0) _ rfl (five_blk HV3.out.res _ _ _ _ _) Tryd.underlying48 rfl (by kernel_rfl)) rfl ?_
          exact ⟨rfl, five_below HV3.out.below _ _ _ _ _⟩
        · rw [if_neg (fun h => hv h.2)] at hd
          subst hd
          go_wp2_with (go_at_call 21; refine (HE.out _).mono ?_; rintro e w3 ⟨rfl, hb3⟩; have HV3 := Aside0.mk (HV2.out.step hb3); have r0 : w3.cell? ⟨w.heap.size, 0, none⟩ = some (.int .u8 0) := blk_cell HV3.out.res 0; have r1 : w3.cell? ⟨w.heap.size, 1, none⟩ = some (.int .i64 0) := blk_cell HV3.out.res 1; have r2 : w3.cell? ⟨w.heap.size, 2, none⟩ = some (.int .i64 0) := blk_cell HV3.out.res 2; have r3 : w3.cell? ⟨w.heap.size, 3, none⟩ = some (.int .i64 0) := blk_cell HV3.out.res 3; have r4 : w3.cell? ⟨w.heap.size, 4, none⟩ = some (.int .i64 0) := blk_cell HV3.out.res 4; have rf := fun i => blk_frozen HV3.out.res i)
          refine bodyPost_ret (results_ct rfl _ _ w.heap.size 48 #[.int .u8 0, .int .i64 0, .int .i64 0, .int .i64 0, .int .i64 0] (0, 0) _ rfl (zero_blk HV3.out.res) Tryd.underlying48 rfl (by kernel_rfl)) rfl ?_
          exact ⟨rfl, zero_below HV3.out.below⟩
      · rw [if_neg (fun h => he h.1)] at hd
        subst hd
        go_wp2_with (go_at_call 21; refine (HE.out _).mono ?_; rintro e w3 ⟨rfl, hb3⟩; have HV3 := Aside0.mk (HV2.out.step hb3); have r0 : w3.cell? ⟨w.heap.size, 0, none⟩ = some (.int .u8 0) := blk_cell HV3.out.res 0; have r1 : w3.cell? ⟨w.heap.size, 1, none⟩ = some (.int .i64 0) := blk_cell HV3.out.res 1; have r2 : w3.cell? ⟨w.heap.size, 2, none⟩ = some (.int .i64 0) := blk_cell HV3.out.res 2; have r3 : w3.cell? ⟨w.heap.size, 3, none⟩ = some (.int .i64 0) := blk_cell HV3.out.res 3; have r4 : w3.cell? ⟨w.heap.size, 4, none⟩ = some (.int .i64 0) := blk_cell HV3.out.res 4; have rf := fun i => blk_frozen HV3.out.res i)
        refine bodyPost_ret (results_ct rfl _ _ w.heap.size 48 #[.int .u8 0, .int .i64 0, .int .i64 0, .int .i64 0, .int .i64 0] (0, 0) _ rfl (zero_blk HV3.out.res) Tryd.underlying48 rfl (by kernel_rfl)) rfl ?_
        exact ⟨rfl, zero_below HV3.out.below⟩
end Go.Proofs.YtmgafakahbanaaaDoor.Pa
