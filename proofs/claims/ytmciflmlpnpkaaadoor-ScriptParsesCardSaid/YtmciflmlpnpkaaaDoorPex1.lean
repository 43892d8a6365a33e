-- Lines by a program of this session's (wip/gprint.py over the kit's printing program): the walks of plain functions. Not trusted: Lean checks it.
import Derived.Test.YtmciflmlpnpkaaaDoorH12
import Derived.Test.YtmciflmlpnpkaaaDoorPfx1
namespace Go.Proofs.YtmciflmlpnpkaaaDoor.Pa
open Go.RowKit Go.Proofs.YtmciflmlpnpkaaaDoorW.PrintWords Go.Proofs.YtmciflmlpnpkaaaDoorW.PrintLast Go.Proofs.YtmciflmlpnpkaaaDoorW.PrintMore
attribute [local go_sem] max2_int min2_int max_two min_two max_three min_three max_four min_four   -- for this text's walks alone
set_option linter.unusedVariables false
set_option linter.unusedSimpArgs false

/-! ### ontimeref51_Parse: function 16 -/
mutual
def ontimeref51_Parse.l0 : Nat → ByteArray → List (S71) → Int → Option ((List (S71)) × Int × Int)
  | 0, _, _, _ => none
  | k + 1, x0, x5, x6 => if x0.toList = ([] : List UInt8) then (some (x5, 0, 0)) else (if (x5.length : Int) = 1000 then (some (([] : List (S71)), x6, 5)) else ((ontimeref51_cut.f k x0).bind fun bt101 => (if bt101.2.2 = true then ((ontimeref51_first.f k bt101.1).bind fun bt104 => (if bt104.2.2.2.2.2 = true then (ontimeref51_Parse.l1 k x5 x6 bt101.2.1 bt104.2.2.2.2.1 0 bt104.1 bt104.2.1 bt104.2.2.1 bt104.2.2.2.1) else (some (([] : List (S71)), x6, 3)))) else (some (([] : List (S71)), x6, 4)))))
def ontimeref51_Parse.l1 : Nat → List (S71) → Int → ByteArray → Int → Int → Int → ByteArray → List Int → ByteArray → Option ((List (S71)) × Int × Int)
  | 0, _, _, _, _, _, _, _, _, _ => none
  | k + 1, x5, x6, x8, x11, x13, x113000, x113001, x113002, x113003 => if x13 < x11 then ((ontimeref51_cut.f k x8).bind fun bt113 => (if bt113.2.2 = true then (if x113003.size + bt113.1.size ≤ 9223372036854775807 then (if (x113003 ++ bt113.1).size + 1 ≤ 9223372036854775807 then (ontimeref51_Parse.l1 k x5 x6 bt113.2.1 x11 (wrap64 (x13 + 1)) x113000 x113001 x113002 ((x113003 ++ bt113.1) ++ (⟨#[10]⟩ : ByteArray))) else (none)) else (none)) else (some (([] : List (S71)), x6, 4)))) else (if (x113003.size : Int) > 65536 then (some (([] : List (S71)), x6, 3)) else (if x5.length < 2199023255552 then (ontimeref51_Parse.l0 k x8 (x5 ++ [(⟨x113000, x113001, x113002, x113003⟩ : S71)]) (wrap64 ((wrap64 (x6 + 1)) + x11))) else (none)))
end
def ontimeref51_Parse.f (k : Nat) (a0 : ByteArray) : Option ((List (S71)) × Int × Int) := ontimeref51_Parse.l0 k a0 ([] : List (S71)) 1
theorem ontimeref51_Parse.mono_l : ∀ k, (∀ y0 y1 y2, LeO (ontimeref51_Parse.l0 k y0 y1 y2) (ontimeref51_Parse.l0 (k + 1) y0 y1 y2)) ∧ (∀ y0 y1 y2 y3 y4 y5 y6 y7 y8, LeO (ontimeref51_Parse.l1 k y0 y1 y2 y3 y4 y5 y6 y7 y8) (ontimeref51_Parse.l1 (k + 1) y0 y1 y2 y3 y4 y5 y6 y7 y8))
  | 0 => ⟨fun _ _ _ r h => by simp [ontimeref51_Parse.l0] at h, fun _ _ _ _ _ _ _ _ _ r h => by simp [ontimeref51_Parse.l1] at h⟩
  | k + 1 => by
    obtain ⟨ih0, ih1⟩ := ontimeref51_Parse.mono_l k
    refine ⟨?_, ?_⟩
    · intro y0 y1 y2
      unfold ontimeref51_Parse.l0
      repeat' first
      | (with_reducible exact ih0 _ _ _)
      | (with_reducible exact ih1 _ _ _ _ _ _ _ _ _)
      | (with_reducible exact ontimeref51_cut.mono _ _)
      | (with_reducible exact ontimeref51_first.mono _ _)
      | (with_reducible exact LeO.refl _)
      | (with_reducible exact LeO.none _)
      | (with_reducible refine LeO.ite ?_ ?_)
      | (with_reducible refine LeO.bind ?_ (fun _ => ?_))
      | exact ih0 _ _ _
      | exact ih1 _ _ _ _ _ _ _ _ _
      | exact ontimeref51_cut.mono _ _
      | exact ontimeref51_first.mono _ _
      | exact LeO.none _
      | refine LeO.ite ?_ ?_
      | refine LeO.bind ?_ (fun _ => ?_)
    · intro y0 y1 y2 y3 y4 y5 y6 y7 y8
      unfold ontimeref51_Parse.l1
      repeat' first
      | (with_reducible exact ih0 _ _ _)
      | (with_reducible exact ih1 _ _ _ _ _ _ _ _ _)
      | (with_reducible exact ontimeref51_cut.mono _ _)
      | (with_reducible exact ontimeref51_first.mono _ _)
      | (with_reducible exact LeO.refl _)
      | (with_reducible exact LeO.none _)
      | (with_reducible refine LeO.ite ?_ ?_)
      | (with_reducible refine LeO.bind ?_ (fun _ => ?_))
      | exact ih0 _ _ _
      | exact ih1 _ _ _ _ _ _ _ _ _
      | exact ontimeref51_cut.mono _ _
      | exact ontimeref51_first.mono _ _
      | exact LeO.none _
      | refine LeO.ite ?_ ?_
      | refine LeO.bind ?_ (fun _ => ?_)
theorem ontimeref51_Parse.mono : ∀ a0 k, LeO (ontimeref51_Parse.f k a0) (ontimeref51_Parse.f (k + 1) a0) := by
  intro a0 k
  obtain ⟨ih0, ih1⟩ := ontimeref51_Parse.mono_l k
  unfold ontimeref51_Parse.f
  repeat' first
      | (with_reducible exact ih0 _ _ _)
      | (with_reducible exact ih1 _ _ _ _ _ _ _ _ _)
      | (with_reducible exact ontimeref51_cut.mono _ _)
      | (with_reducible exact ontimeref51_first.mono _ _)
      | (with_reducible exact LeO.refl _)
      | (with_reducible exact LeO.none _)
      | (with_reducible refine LeO.ite ?_ ?_)
      | (with_reducible refine LeO.bind ?_ (fun _ => ?_))
      | exact ih0 _ _ _
      | exact ih1 _ _ _ _ _ _ _ _ _
      | exact ontimeref51_cut.mono _ _
      | exact ontimeref51_first.mono _ _
      | exact LeO.none _
      | refine LeO.ite ?_ ?_
      | refine LeO.bind ?_ (fun _ => ?_)
set_option maxHeartbeats 8000000 in
set_option maxRecDepth 100000 in
theorem ontimeref51_Parse.calls (k : Nat) (a0 : ByteArray) (r1 : List (S71)) (r2 : Int) (r3 : Int) (w : World) (h : ontimeref51_Parse.f k a0 = some (r1, r2, r3)) :
    Calls Tryd.prog 16 #[.string a0] w fun e w' => ∃ v0_ : Value, e = .returned (.tuple #[v0_, .int .i64 r2, .int .i64 r3]) ∧ Kd.S k71 71 w' w.heap.size (fun _ => True) v0_ r1 ∧ Below w.heap.size w w' := by
  have hu71 := Tryd.underlying71
  have HB := Aside0.mk (Below.refl w.heap.size w)
  have H : (ontimeref51_Parse.l0 k a0 ([] : List (S71)) 1) = some (r1, r2, r3) := h
  clear h
  have H' := Aside0.mk H
  clear H
  go_enter Tryd.func16, Tryd.ntmps16
  go_wp2
  go_loopg [0, 5, 6] k (fun kq v0 v5 v6 w' => ∃ (x0_1 : ByteArray) (x5_1 : List (S71)) (x6_1 : Int), v0 = .string x0_1 ∧ v6 = .int .i64 x6_1 ∧ Aside0 (ontimeref51_Parse.l0 kq x0_1 x5_1 x6_1 = some (r1, r2, r3)) ∧ Aside0 (kq ≤ k) ∧ Aside0 (Kd.S k71 71 w' w.heap.size (fun _ => True) v5 x5_1) ∧ Aside0 (Below w.heap.size w w'))
  case atStart => exact ⟨(a0), (([] : List (S71))), (1), (by first | rfl | (simp; done) | (simp [*]; done)), (by first | rfl | (simp; done) | (simp [*]; done)), H', ⟨Nat.le_refl _⟩, ⟨by first | exact Kd.S_nil _ _ _ _ _ | exact Kd.N_nil _ _ _ _ _ | exact Kd.V_nil _ _ _ _ _ | exact Kd.Q_nil _ _ _ _ _ | exact Kd.R_nil _ _ _ _ _⟩, ⟨by repeat (first | (with_reducible first | exact HB.out | apply below_alloc | apply pw_below_drewN | apply below_drew1) | exact HB.out)⟩⟩
  case round =>
    clear H'
    try clear c1
    obtain ⟨x0_1, x5_1, x6_1, rfl, rfl, HA, HK1, HO_5, HB⟩ := hrel
    cases gk with
    | zero => exact absurd HA.out (by simp [ontimeref51_Parse.l0])
    | succ k1 =>
      have H := HA.out
      clear HA
      simp only [ontimeref51_Parse.l0] at H
      by_cases c2 : x0_1.toList = ([] : List UInt8)
      · rw [if_pos c2] at H
        have c2b0 : (x0_1.toList == ([] : List UInt8)) = true := beq_iff_eq.mpr c2
        have c2b1 : (x0_1.toList != ([] : List UInt8)) = false := bne_eq_false_iff_eq.mpr c2
        clear c2
        simp only [Option.some.injEq, Prod.mk.injEq] at H
        obtain ⟨rfl, rfl, rfl⟩ := H
        go_wp2
        go_ret3
        exact ⟨_, by first | rfl | (simp [errW_none, errW_some] <;> rfl) | (simp [*, errW_none, errW_some] <;> rfl), by (with_reducible repeat (first | apply Kd.S_alloc | apply Kd.S_drewN | apply Kd.S_drew)); exact HO_5.out, by repeat (first | (with_reducible first | exact HB.out | apply below_alloc | apply pw_below_drewN | apply below_drew1) | exact HB.out)⟩
      · rw [if_neg c2] at H
        have c2b0 : (x0_1.toList == ([] : List UInt8)) = false := beq_eq_false_iff_ne.mpr c2
        have c2b1 : (x0_1.toList != ([] : List UInt8)) = true := bne_iff_ne.mpr c2
        by_cases c3 : (x5_1.length : Int) = 1000
        · rw [if_pos c3] at H
          have c3b0 : ((x5_1.length : Int) == 1000) = true := beq_iff_eq.mpr c3
          have c3b1 : ((x5_1.length : Int) != 1000) = false := bne_eq_false_iff_eq.mpr c3
          clear c3
          simp only [Option.some.injEq, Prod.mk.injEq] at H
          obtain ⟨rfl, rfl, rfl⟩ := H
          obtain ⟨Ao4, co4, eo4⟩ := Kd.S_slice HO_5.out
          subst eo4
          go_wp2
          go_ret3
          exact ⟨_, by first | rfl | (simp [errW_none, errW_some] <;> rfl) | (simp [*, errW_none, errW_some] <;> rfl), by first | exact Kd.S_nil _ _ _ _ _ | exact Kd.N_nil _ _ _ _ _ | exact Kd.V_nil _ _ _ _ _ | exact Kd.Q_nil _ _ _ _ _ | exact Kd.R_nil _ _ _ _ _, by repeat (first | (with_reducible first | exact HB.out | apply below_alloc | apply pw_below_drewN | apply below_drew1) | exact HB.out)⟩
        · rw [if_neg c3] at H
          have c3b0 : ((x5_1.length : Int) == 1000) = false := beq_eq_false_iff_ne.mpr c3
          have c3b1 : ((x5_1.length : Int) != 1000) = true := bne_iff_ne.mpr c3
          replace H := Option.bind_eq_some_iff.mp H
          obtain ⟨⟨t101, t102, t103⟩, A50, H⟩ := H
          replace H : (if t103 = true then ((ontimeref51_first.f k1 t101).bind fun bt104 => (if bt104.2.2.2.2.2 = true then (ontimeref51_Parse.l1 k1 x5_1 x6_1 t102 bt104.2.2.2.2.1 0 bt104.1 bt104.2.1 bt104.2.2.1 bt104.2.2.2.1) else (some (([] : List (S71)), x6_1, 3)))) else (some (([] : List (S71)), x6_1, 4))) = some (r1, r2, r3) := H
          have A5 := Aside0.mk A50
          clear A50
          by_cases c6 : t103 = true
          · subst c6
            have H1 : ((ontimeref51_first.f k1 t101).bind fun bt104 => (if bt104.2.2.2.2.2 = true then (ontimeref51_Parse.l1 k1 x5_1 x6_1 t102 bt104.2.2.2.2.1 0 bt104.1 bt104.2.1 bt104.2.2.1 bt104.2.2.2.1) else (some (([] : List (S71)), x6_1, 3)))) = some (r1, r2, r3) := by rw [if_pos rfl] at H; exact H
            clear H
            have H := H1
            clear H1
            replace H := Option.bind_eq_some_iff.mp H
            obtain ⟨⟨t104, t105, t106, t109, t110, t111⟩, A70, H⟩ := H
            replace H : (if t111 = true then (ontimeref51_Parse.l1 k1 x5_1 x6_1 t102 t110 0 t104 t105 t106 t109) else (some (([] : List (S71)), x6_1, 3))) = some (r1, r2, r3) := H
            have A7 := Aside0.mk A70
            clear A70
            by_cases c8 : t111 = true
            · subst c8
              have H1 : (ontimeref51_Parse.l1 k1 x5_1 x6_1 t102 t110 0 t104 t105 t106 t109) = some (r1, r2, r3) := by rw [if_pos rfl] at H; exact H
              clear H
              have H := H1
              clear H1
              have H' := Aside0.mk H
              clear H
              obtain ⟨Ao9, co9, eo9⟩ := Kd.S_slice HO_5.out
              subst eo9
              go_wp2_with (first | ((with_reducible refine gate_callee (f := 36) rfl ?_); refine goesL_ (some 22) rfl rfl Tryd.func36 (by kernel_rfl) rfl #[.string x0_1] rfl (by (try simp only [List.map_toArray, List.map_cons, List.map_nil]); first | done | rfl | (simp only [List.length_drop, List.length_take]; rfl)) ?_; (with_reducible refine (ontimeref51_cut.calls k1 x0_1 t101 t102 true _ A5.out).mono ?_); rintro e w' ⟨rfl, ⟨nd, rfl⟩⟩; refine ⟨_, rfl, ?_⟩; (try (rw [drewN_self wr]; generalize hq_ : World.drewN wr _ = wr; have n0_ : Aside0 (Kd.S k71 71 wr w.heap.size (fun _ => True) (.slice Ao9 x5_1.length co9) x5_1) := ⟨by rw [← hq_]; exact (by (with_reducible repeat (first | apply Kd.S_alloc | apply Kd.S_drewN | apply Kd.S_drew)); exact HO_5.out)⟩; have n1_ : Aside0 (Below w.heap.size w wr) := ⟨by rw [← hq_]; exact (by repeat (first | (with_reducible first | exact HB.out | apply below_alloc | apply pw_below_drewN | apply below_drew1) | exact HB.out))⟩; clear HO_5 HB hq_; have HO_5 := n0_; have HB := n1_; clear n0_ n1_))) | ((with_reducible refine gate_callee (f := 37) rfl ?_); refine goesL_ (some 31) rfl rfl Tryd.func37 (by kernel_rfl) rfl #[.string t101] rfl (by (try simp only [List.map_toArray, List.map_cons, List.map_nil]); first | done | rfl | (simp only [List.length_drop, List.length_take]; rfl)) ?_; (with_reducible refine (ontimeref51_first.calls k1 t101 t104 t105 t106 t109 t110 true _ A7.out).mono ?_); rintro e w10 ⟨v107, rfl, ho0, hb⟩; refine ⟨_, rfl, ?_⟩; have n0_ := Aside0.mk (Kd.S_elder' (by (with_reducible repeat (first | apply Kd.S_alloc | apply Kd.S_drewN | apply Kd.S_drew)); exact HO_5.out) (Kd.R_base ho0) hb); have n1_ := Aside0.mk (Kd.R_lower ho0 (below_size (by repeat (first | (with_reducible first | exact HB.out | apply below_alloc | apply pw_below_drewN | apply below_drew1) | exact HB.out)))); have n2_ := Aside0.mk (below_step (by repeat (first | (with_reducible first | exact HB.out | apply below_alloc | apply pw_below_drewN | apply below_drew1) | exact HB.out)) hb); clear HO_5; clear HB; have HO_5 := n0_; have HO108 := n1_; have HB := n2_; clear n0_ n1_ n2_; (try clear hb); (try clear hb2); (try clear hk); (try clear hi); (try clear ho0)) | ((with_reducible refine gate_dst (N := 10) rfl ?_); refine box_event ?hg (N := 10) ?hd (cs := #[.int .u8 0, .string (⟨#[]⟩ : ByteArray), .slice none 0 0, .string (⟨#[]⟩ : ByteArray)]) (t := 71) ?hr ?_; (case hd => rfl); (case hg => rfl); (case hr => first | (go_simp; done) | (go_simp; rfl)); intro gb112 hg w11 hbox hb; have n0_ := Aside0.mk (Kd.S_below (Kd.S_elderB (by (with_reducible repeat (first | apply Kd.S_alloc | apply Kd.S_drewN | apply Kd.S_drew)); exact HO_5.out) gb112 (Nat.le_of_eq hg.symm)) hb); have n1_ := Aside0.mk (Kd.R_below (by (with_reducible repeat (first | apply Kd.R_alloc | apply Kd.R_drewN | apply Kd.R_drew)); exact HO108.out) hb); have n2_ := Aside0.mk (below_step (by repeat (first | (with_reducible first | exact HB.out | apply below_alloc | apply pw_below_drewN | apply below_drew1) | exact HB.out)) hb); have n3_ := Aside0.mk (hbox); have n4_ := Aside0.mk ((by rw [hg]; exact (below_size (by repeat (first | (with_reducible first | exact HB.out | apply below_alloc | apply pw_below_drewN | apply below_drew1) | exact HB.out))) : w.heap.size ≤ gb112)); have n5_ := Aside0.mk ((by rw [hg]; exact (below_size (by repeat (first | (with_reducible first | exact HB.out | apply below_alloc | apply pw_below_drewN | apply below_drew1) | exact HB.out))) : w.heap.size ≤ gb112)); clear HO_5; clear HO108; clear HB; have HO_5 := n0_; have HO108 := n1_; have HB := n2_; have BK112 := n3_; have GW112 := n4_; have GE112 := n5_; clear n0_ n1_ n2_ n3_ n4_ n5_; clear hb hbox hg; have hcz12_0 : w11.cell? ⟨gb112, 0, none⟩ = some (.int .u8 0) := (blk_cell BK112.out 0).trans rfl; have hcz12_1 : w11.cell? ⟨gb112, 1, none⟩ = some (.string (⟨#[]⟩ : ByteArray)) := (blk_cell BK112.out 1).trans rfl; have hcz12_2 : w11.cell? ⟨gb112, 2, none⟩ = some (.slice none 0 0) := (blk_cell BK112.out 2).trans rfl; have hcz12_3 : w11.cell? ⟨gb112, 3, none⟩ = some (.string (⟨#[]⟩ : ByteArray)) := (blk_cell BK112.out 3).trans rfl; have hfz12_0 := blk_frozen BK112.out 0; have hfz12_1 := blk_frozen BK112.out 1; have hfz12_2 := blk_frozen BK112.out 2; have hfz12_3 := blk_frozen BK112.out 3; obtain ⟨Ao13, co13, eo13⟩ := Kd.R_slice HO108.out; subst eo13))
              go_loopg [8, 13] k1 (fun kq v8 v13 w' => ∃ (x8_2 : ByteArray) (x13_2 : Int) (x113003_2 : ByteArray), v8 = .string x8_2 ∧ v13 = .int .i64 x13_2 ∧ Aside0 (ontimeref51_Parse.l1 kq x5_1 x6_1 x8_2 t110 x13_2 t104 t105 t106 x113003_2 = some (r1, r2, r3)) ∧ Aside0 (kq ≤ k1) ∧ Aside0 (Kd.S k71 71 w' w.heap.size (fun k_ => some k_ ≠ ((.slice Ao13 t106.length co13) : Value).ownBlock ∧ k_ ≠ gb112) (.slice Ao9 x5_1.length co9) x5_1) ∧ Aside0 (Kd.R (Kd.int .i64) 3 w' w.heap.size (fun _ => True) (.slice Ao13 t106.length co13) t106) ∧ Aside0 (w'.heap[gb112]? = some (.cells #[.int .u8 t104, .string t105, (.slice Ao13 t106.length co13), .string x113003_2] 71 (0, 0))) ∧ Aside0 (Below w.heap.size w w'))
              case atStart => exact ⟨(t102), (0), (t109), (by first | rfl | (simp; done) | (simp [*]; done)), (by first | rfl | (simp; done) | (simp [*]; done)), H', ⟨Nat.le_refl _⟩, ⟨by (with_reducible repeat (first | apply Kd.S_alloc | apply Kd.S_drewN | apply Kd.S_drew)); exact Kd.S_mono (Kd.S_far (p := ⟨gb112, 3, none⟩) (Kd.S_far (p := ⟨gb112, 2, none⟩) (Kd.S_far (p := ⟨gb112, 1, none⟩) (Kd.S_far (p := ⟨gb112, 0, none⟩) (Kd.S_mono HO_5.out (fun k_ hk => (⟨hk, hk.2⟩ : _ ∧ k_ ≠ gb112))) (fun _ hk => hk.2) (.int .u8 t104)) (fun _ hk => hk.2) (.string t105)) (fun _ hk => hk.2) (.slice Ao13 t106.length co13)) (fun _ hk => hk.2) (.string t109)) (fun _ hk => ⟨hk.1.1.2, hk.1.2⟩)⟩, ⟨by (with_reducible repeat (first | apply Kd.R_alloc | apply Kd.R_drewN | apply Kd.R_drew)); exact Kd.R_mono (Kd.R_far (p := ⟨gb112, 3, none⟩) (Kd.R_far (p := ⟨gb112, 2, none⟩) (Kd.R_far (p := ⟨gb112, 1, none⟩) (Kd.R_far (p := ⟨gb112, 0, none⟩) (Kd.R_types HO108.out BK112.out (by decide)) (fun _ hk => hk.2) (.int .u8 t104)) (fun _ hk => hk.2) (.string t105)) (fun _ hk => hk.2) (.slice Ao13 t106.length co13)) (fun _ hk => hk.2) (.string t109)) (fun _ hk => trivial)⟩, ⟨by (with_reducible repeat (first | refine blk_drewN ?_ _ | refine blk_drew ?_ | refine blk_alloc ?_ _)); refine blk_put (cs := #[.int .u8 t104, .string t105, .slice Ao13 t106.length co13, .string (⟨#[]⟩ : ByteArray)]) ?_ 3 _ rfl; (with_reducible repeat (first | refine blk_drewN ?_ _ | refine blk_drew ?_ | refine blk_alloc ?_ _)); refine blk_put (cs := #[.int .u8 t104, .string t105, .slice none 0 0, .string (⟨#[]⟩ : ByteArray)]) ?_ 2 _ rfl; (with_reducible repeat (first | refine blk_drewN ?_ _ | refine blk_drew ?_ | refine blk_alloc ?_ _)); refine blk_put (cs := #[.int .u8 t104, .string (⟨#[]⟩ : ByteArray), .slice none 0 0, .string (⟨#[]⟩ : ByteArray)]) ?_ 1 _ rfl; (with_reducible repeat (first | refine blk_drewN ?_ _ | refine blk_drew ?_ | refine blk_alloc ?_ _)); refine blk_put (cs := #[.int .u8 0, .string (⟨#[]⟩ : ByteArray), .slice none 0 0, .string (⟨#[]⟩ : ByteArray)]) ?_ 0 _ rfl; (with_reducible repeat (first | refine blk_drewN ?_ _ | refine blk_drew ?_ | refine blk_alloc ?_ _)); exact BK112.out⟩, ⟨by repeat (first | (with_reducible first | exact HB.out | apply below_alloc | apply pw_below_drewN | apply below_drew1 | refine below_set ?_ GE112.out) | exact HB.out)⟩⟩
              case round =>
                clear H'
                try clear c1
                try clear c2
                try clear c2b0
                try clear c2b1
                try clear p2
                try clear c3
                try clear c3b0
                try clear c3b1
                try clear c6
                try clear c8
                try clear hcz12_0
                try clear hcz12_1
                try clear hcz12_2
                try clear hcz12_3
                try clear hfz12_0
                try clear hfz12_1
                try clear hfz12_2
                try clear hfz12_3
                obtain ⟨x8_2, x13_2, x113003_2, rfl, rfl, HA, HK2, HO_5, HO_113002, BK112, HB⟩ := hrel
                cases gk with
                | zero => exact absurd HA.out (by simp [ontimeref51_Parse.l1])
                | succ k2 =>
                  have H := HA.out
                  clear HA
                  simp only [ontimeref51_Parse.l1] at H
                  by_cases c14 : x13_2 < t110
                  · rw [if_pos c14] at H
                    have c14b0 : decide (x13_2 < t110) = true := decide_eq_true c14
                    clear c14
                    replace H := Option.bind_eq_some_iff.mp H
                    obtain ⟨⟨t113, t114, t115⟩, A150, H⟩ := H
                    replace H : (if t115 = true then (if x113003_2.size + t113.size ≤ 9223372036854775807 then (if (x113003_2 ++ t113).size + 1 ≤ 9223372036854775807 then (ontimeref51_Parse.l1 k2 x5_1 x6_1 t114 t110 (wrap64 (x13_2 + 1)) t104 t105 t106 ((x113003_2 ++ t113) ++ (⟨#[10]⟩ : ByteArray))) else (none)) else (none)) else (some (([] : List (S71)), x6_1, 4))) = some (r1, r2, r3) := H
                    have A15 := Aside0.mk A150
                    clear A150
                    by_cases c16 : t115 = true
                    · subst c16
                      have H1 : (if x113003_2.size + t113.size ≤ 9223372036854775807 then (if (x113003_2 ++ t113).size + 1 ≤ 9223372036854775807 then (ontimeref51_Parse.l1 k2 x5_1 x6_1 t114 t110 (wrap64 (x13_2 + 1)) t104 t105 t106 ((x113003_2 ++ t113) ++ (⟨#[10]⟩ : ByteArray))) else (none)) else (none)) = some (r1, r2, r3) := by rw [if_pos rfl] at H; exact H
                      clear H
                      have H := H1
                      clear H1
                      by_cases c17 : x113003_2.size + t113.size ≤ 9223372036854775807
                      · rw [if_pos c17] at H
                        have c17b0 := eq_true c17
                        have c17b1 : decide (x113003_2.size + t113.size ≤ 9223372036854775807) = true := decide_eq_true c17
                        try have c17b2 : (9223372036854775807 < x113003_2.size + t113.size) = False := eq_false (Nat.not_lt.2 c17)
                        by_cases c18 : (x113003_2 ++ t113).size + 1 ≤ 9223372036854775807
                        · rw [if_pos c18] at H
                          have c18b0 := eq_true c18
                          have c18b1 : decide ((x113003_2 ++ t113).size + 1 ≤ 9223372036854775807) = true := decide_eq_true c18
                          try have c18b2 : (9223372036854775807 < (x113003_2 ++ t113).size + 1) = False := eq_false (Nat.not_lt.2 c18)
                          have c18b3 : (9223372036854775807 < x113003_2.size + t113.size + 1) = False := eq_false (by have h_ := c18; rw [ByteArray.size_append] at h_; omega)
                          have H' := Aside0.mk H
                          clear H
                          go_wp2_with (first | ((with_reducible refine gate_callee (f := 36) rfl ?_); refine goesL_ (some 45) rfl rfl Tryd.func36 (by kernel_rfl) rfl #[.string x8_2] rfl (by (try simp only [List.map_toArray, List.map_cons, List.map_nil]); first | done | rfl | (simp only [List.length_drop, List.length_take]; rfl)) ?_; (with_reducible refine (ontimeref51_cut.calls k2 x8_2 t113 t114 true _ A15.out).mono ?_); rintro e w' ⟨rfl, ⟨nd, rfl⟩⟩; refine ⟨_, rfl, ?_⟩; (try (rw [drewN_self wr]; generalize hq_ : World.drewN wr _ = wr; have n0_ : Aside0 (Kd.R (Kd.int .i64) 3 wr w.heap.size (fun _ => True) (.slice Ao13 t106.length co13) t106) := ⟨by rw [← hq_]; exact (by (with_reducible repeat (first | apply Kd.R_alloc | apply Kd.R_drewN | apply Kd.R_drew)); exact HO_113002.out)⟩; have n1_ : Aside0 (Kd.S k71 71 wr w.heap.size (fun k_ => some k_ ≠ (.slice Ao13 t106.length co13 : Value).ownBlock ∧ k_ ≠ gb112) (.slice Ao9 x5_1.length co9) x5_1) := ⟨by rw [← hq_]; exact (by (with_reducible repeat (first | apply Kd.S_alloc | apply Kd.S_drewN | apply Kd.S_drew)); exact HO_5.out)⟩; have n2_ : Aside0 (wr.heap[gb112]? = some (.cells #[.int .u8 t104, .string t105, .slice Ao13 t106.length co13, .string x113003_2] 71 (0, 0))) := ⟨by rw [← hq_]; exact (by (with_reducible repeat (first | refine blk_drewN ?_ _ | refine blk_drew ?_ | refine blk_alloc ?_ _)); exact BK112.out)⟩; have n3_ : Aside0 (Below w.heap.size w wr) := ⟨by rw [← hq_]; exact (by repeat (first | (with_reducible first | exact HB.out | apply below_alloc | apply pw_below_drewN | apply below_drew1 | refine below_set ?_ GE112.out) | exact HB.out))⟩; clear HO_113002 HO_5 BK112 HB hq_; have HO_113002 := n0_; have HO_5 := n1_; have BK112 := n2_; have HB := n3_; clear n0_ n1_ n2_ n3_)); have hcz19_0 : wr.cell? ⟨gb112, 0, none⟩ = some (.int .u8 t104) := (blk_cell BK112.out 0).trans rfl; have hcz19_1 : wr.cell? ⟨gb112, 1, none⟩ = some (.string t105) := (blk_cell BK112.out 1).trans rfl; have hcz19_2 : wr.cell? ⟨gb112, 2, none⟩ = some (.slice Ao13 t106.length co13) := (blk_cell BK112.out 2).trans rfl; have hcz19_3 : wr.cell? ⟨gb112, 3, none⟩ = some (.string x113003_2) := (blk_cell BK112.out 3).trans rfl; have hfz19_0 := blk_frozen BK112.out 0; have hfz19_1 := blk_frozen BK112.out 1; have hfz19_2 := blk_frozen BK112.out 2; have hfz19_3 := blk_frozen BK112.out 3))
                          go_roundg k2
                          case measure => have := HK1.out; have := HK2.out; omega
                          case rel => exact ⟨(t114), (wrap64 (x13_2 + 1)), ((x113003_2 ++ t113) ++ (⟨#[10]⟩ : ByteArray)), (by first | rfl | (simp; done) | (simp [*]; done)), (by first | rfl | (simp; done) | (simp [*]; done)), H', ⟨by have := HK1.out; have := HK2.out; omega⟩, ⟨by (with_reducible repeat (first | apply Kd.S_alloc | apply Kd.S_drewN | apply Kd.S_drew)); exact Kd.S_mono (Kd.S_far (p := ⟨gb112, 3, none⟩) (Kd.S_mono HO_5.out (fun k_ hk => (⟨hk, hk.2⟩ : _ ∧ k_ ≠ gb112))) (fun _ hk => hk.2) (.string ((x113003_2 ++ t113) ++ (⟨#[10]⟩ : ByteArray)))) (fun _ hk => ⟨hk.1.1, hk.1.2⟩)⟩, ⟨by (with_reducible repeat (first | apply Kd.R_alloc | apply Kd.R_drewN | apply Kd.R_drew)); exact Kd.R_mono (Kd.R_far (p := ⟨gb112, 3, none⟩) (Kd.R_types HO_113002.out BK112.out (by decide)) (fun _ hk => hk.2) (.string ((x113003_2 ++ t113) ++ (⟨#[10]⟩ : ByteArray)))) (fun _ hk => trivial)⟩, ⟨by (with_reducible repeat (first | refine blk_drewN ?_ _ | refine blk_drew ?_ | refine blk_alloc ?_ _)); refine blk_put (cs := #[.int .u8 t104, .string t105, .slice Ao13 t106.length co13, .string x113003_2]) ?_ 3 _ rfl; (with_reducible repeat (first | refine blk_drewN ?_ _ | refine blk_drew ?_ | refine blk_alloc ?_ _)); exact BK112.out⟩, ⟨by repeat (first | (with_reducible first | exact HB.out | apply below_alloc | apply pw_below_drewN | apply below_drew1 | refine below_set ?_ GE112.out) | exact HB.out)⟩⟩
                        · rw [if_neg c18] at H
                          exact absurd H (by simp)
                      · rw [if_neg c17] at H
                        exact absurd H (by simp)
                    · replace c16 := Bool.eq_false_iff.mpr c16
                      subst c16
                      have H1 : (some (([] : List (S71)), x6_1, 4)) = some (r1, r2, r3) := by rw [if_neg (show ¬ (false = true) by decide)] at H; exact H
                      clear H
                      have H := H1
                      clear H1
                      simp only [Option.some.injEq, Prod.mk.injEq] at H
                      obtain ⟨rfl, rfl, rfl⟩ := H
                      go_wp2_with (first | ((with_reducible refine gate_callee (f := 36) rfl ?_); refine goesL_ (some 45) rfl rfl Tryd.func36 (by kernel_rfl) rfl #[.string x8_2] rfl (by (try simp only [List.map_toArray, List.map_cons, List.map_nil]); first | done | rfl | (simp only [List.length_drop, List.length_take]; rfl)) ?_; (with_reducible refine (ontimeref51_cut.calls k2 x8_2 t113 t114 false _ A15.out).mono ?_); rintro e w' ⟨rfl, ⟨nd, rfl⟩⟩; refine ⟨_, rfl, ?_⟩))
                      go_ret3
                      exact ⟨_, by first | rfl | (simp [errW_none, errW_some] <;> rfl) | (simp [*, errW_none, errW_some] <;> rfl), by first | exact Kd.S_nil _ _ _ _ _ | exact Kd.N_nil _ _ _ _ _ | exact Kd.V_nil _ _ _ _ _ | exact Kd.Q_nil _ _ _ _ _ | exact Kd.R_nil _ _ _ _ _, by repeat (first | (with_reducible first | exact HB.out | apply below_alloc | apply pw_below_drewN | apply below_drew1 | refine below_set ?_ GE112.out) | exact HB.out)⟩
                  · rw [if_neg c14] at H
                    have c14b0 : decide (x13_2 < t110) = false := decide_eq_false c14
                    clear c14
                    by_cases c20 : (x113003_2.size : Int) > 65536
                    · rw [if_pos c20] at H
                      have c20b0 : decide (65536 < (x113003_2.size : Int)) = true := decide_eq_true c20
                      have c20b1 : decide (65536 < x113003_2.size) = true := decide_eq_true (by omega)
                      clear c20
                      simp only [Option.some.injEq, Prod.mk.injEq] at H
                      obtain ⟨rfl, rfl, rfl⟩ := H
                      have hcz21_0 : wr.cell? ⟨gb112, 0, none⟩ = some (.int .u8 t104) := (blk_cell BK112.out 0).trans rfl
                      have hcz21_1 : wr.cell? ⟨gb112, 1, none⟩ = some (.string t105) := (blk_cell BK112.out 1).trans rfl
                      have hcz21_2 : wr.cell? ⟨gb112, 2, none⟩ = some (.slice Ao13 t106.length co13) := (blk_cell BK112.out 2).trans rfl
                      have hcz21_3 : wr.cell? ⟨gb112, 3, none⟩ = some (.string x113003_2) := (blk_cell BK112.out 3).trans rfl
                      have hfz21_0 := blk_frozen BK112.out 0
                      have hfz21_1 := blk_frozen BK112.out 1
                      have hfz21_2 := blk_frozen BK112.out 2
                      have hfz21_3 := blk_frozen BK112.out 3
                      go_wp2
                      go_ret3
                      exact ⟨_, by first | rfl | (simp [errW_none, errW_some] <;> rfl) | (simp [*, errW_none, errW_some] <;> rfl), by first | exact Kd.S_nil _ _ _ _ _ | exact Kd.N_nil _ _ _ _ _ | exact Kd.V_nil _ _ _ _ _ | exact Kd.Q_nil _ _ _ _ _ | exact Kd.R_nil _ _ _ _ _, by repeat (first | (with_reducible first | exact HB.out | apply below_alloc | apply pw_below_drewN | apply below_drew1 | refine below_set ?_ GE112.out) | exact HB.out)⟩
                    · rw [if_neg c20] at H
                      have c20b0 : decide (65536 < (x113003_2.size : Int)) = false := decide_eq_false c20
                      have c20b1 : decide (65536 < x113003_2.size) = false := decide_eq_false (by omega)
                      clear c20
                      by_cases c22 : x5_1.length < 2199023255552
                      · rw [if_pos c22] at H
                        have LMc22 := Aside0.mk c22
                        clear c22
                        obtain ⟨y116, hy116⟩ : ∃ y_ : List (S71), y_ = (x5_1 ++ [(⟨t104, t105, t106, x113003_2⟩ : S71)]) := ⟨_, rfl⟩
                        replace H : (ontimeref51_Parse.l0 k2 x8_2 y116 (wrap64 ((wrap64 (x6_1 + 1)) + t110))) = some (r1, r2, r3) := by first | (rw [hy116]; with_reducible exact H) | (have H2_ := (Option.bind_some _ _).symm.trans H; rw [hy116]; with_reducible exact H2_) | (have H2_ := (Option.bind_some _ _).symm.trans H; with_reducible exact H2_) | with_reducible exact H | (rw [hy116]; exact H) | exact H
                        have Ny116 := Aside0.mk hy116
                        clear hy116
                        have H' := Aside0.mk H
                        clear H
                        have hcz23_0 : wr.cell? ⟨gb112, 0, none⟩ = some (.int .u8 t104) := (blk_cell BK112.out 0).trans rfl
                        have hcz23_1 : wr.cell? ⟨gb112, 1, none⟩ = some (.string t105) := (blk_cell BK112.out 1).trans rfl
                        have hcz23_2 : wr.cell? ⟨gb112, 2, none⟩ = some (.slice Ao13 t106.length co13) := (blk_cell BK112.out 2).trans rfl
                        have hcz23_3 : wr.cell? ⟨gb112, 3, none⟩ = some (.string x113003_2) := (blk_cell BK112.out 3).trans rfl
                        have hfz23_0 := blk_frozen BK112.out 0
                        have hfz23_1 := blk_frozen BK112.out 1
                        have hfz23_2 := blk_frozen BK112.out 2
                        have hfz23_3 := blk_frozen BK112.out 3
                        go_wp2_with (first | ((with_reducible refine gate_builtin (b := .append) (xs := #[.tmp 63, .tmp 65]) rfl ?_); at_builtin; refine Kd.S_append k71 (w0 := w) w.heap.size rfl (.tmp 63) (.tmp 65) 41 71 (.agg #[(.int .u8 0), (.string ⟨#[]⟩), (.slice none 0 0), (.string ⟨#[]⟩)]) 64 rfl Tryd.underlying41 info71 rfl (by decide) (by omega) (.slice Ao9 x5_1.length co9) x5_1 (⟨t104, t105, t106, x113003_2⟩ : S71) [.int .u8 t104, .string t105, .slice Ao13 t106.length co13, .string x113003_2] (fun k_ => k_ ≠ gb112) (fun k_ => some k_ = (.slice Ao13 t106.length co13 : Value).ownBlock) rfl rfl ?aP (fun k_ hk_ => ((Kd.R_mono (ok' := fun k_ => ((fun k_ => k_ ≠ gb112)) k_ ∧ some k_ ≠ (.slice Ao9 x5_1.length co9 : Value).ownBlock) (Kd.R_types (Kd.R_apart' (HO_113002.out) (Kd.S_typed HO_5.out) (by decide)) BK112.out (by decide)) (fun k_ hk => ⟨hk.2, hk.1.2⟩))).1 k_ hk_.symm) ?aF ?aO ?aB ?aS ?aL ?_; (case aP => exact k71_mkM _ _ _ (⟨t104, t105, t106, x113003_2⟩ : S71) (Kd.R_mono (Kd.R_tight rfl (Kd.R_mono (ok' := fun k_ => ((fun k_ => k_ ≠ gb112)) k_ ∧ some k_ ≠ (.slice Ao9 x5_1.length co9 : Value).ownBlock) (Kd.R_types (Kd.R_apart' (HO_113002.out) (Kd.S_typed HO_5.out) (by decide)) BK112.out (by decide)) (fun k_ hk => ⟨hk.2, hk.1.2⟩))) (fun _ h_ => h_))); (case aB => exact (by repeat (first | (with_reducible first | exact HB.out | apply below_alloc | apply pw_below_drewN | apply below_drew1 | refine below_set ?_ GE112.out) | exact HB.out))); (case aF => exact (fun k_ hk => Kd.freshB (g := gb112) (o := .cells #[.int .u8 t104, .string t105, .slice Ao13 t106.length co13, .string x113003_2] 71 (0, 0)) (by (with_reducible repeat (first | refine blk_drewN ?_ _ | refine blk_drew ?_ | refine blk_alloc ?_ _)); exact BK112.out) k_ hk)); (case aO => exact (by (with_reducible repeat (first | apply Kd.S_alloc | apply Kd.S_drewN | apply Kd.S_drew)); exact Kd.S_mono HO_5.out (fun k_ hk => ⟨hk.2, fun e_ => hk.1 e_⟩))); (case aS => exact (below_size (by repeat (first | (with_reducible first | exact HB.out | apply below_alloc | apply pw_below_drewN | apply below_drew1 | refine below_set ?_ GE112.out) | exact HB.out)))); (case aL => have := LMc22.out; omega); intro v117 w24 ho hb hg hat; rw [← Ny116.out] at ho; have n0_ := Aside0.mk (blk_grown (g := gb112) (o := .cells #[.int .u8 t104, .string t105, .slice Ao13 t106.length co13, .string x113003_2] 71 (0, 0)) (by (with_reducible repeat (first | refine blk_drewN ?_ _ | refine blk_drew ?_ | refine blk_alloc ?_ _)); exact BK112.out) hg (Kd.S_away HO_5.out (fun _ hk => hk.2))); have n1_ := Aside0.mk (hb); have n2_ := Aside0.mk (ho); clear BK112; clear HB; clear HO_5; clear HO_113002; have BK112 := n0_; have HB := n1_; have HO118 := n2_; clear n0_ n1_ n2_; clear ho hb hg hat))
                        go_roundg k2
                        case measure => have := HK1.out; have := HK2.out; omega
                        case rel => exact ⟨(x8_2), (y116), (wrap64 ((wrap64 (x6_1 + 1)) + t110)), (by first | rfl | (simp; done) | (simp [*]; done)), (by first | rfl | (simp; done) | (simp [*]; done)), H', ⟨by have := HK1.out; have := HK2.out; omega⟩, ⟨by (with_reducible repeat (first | apply Kd.S_alloc | apply Kd.S_drewN | apply Kd.S_drew)); exact Kd.S_mono HO118.out (fun _ hk => trivial)⟩, ⟨by repeat (first | (with_reducible first | exact HB.out | apply below_alloc | apply pw_below_drewN | apply below_drew1 | refine below_set ?_ GE112.out) | exact HB.out)⟩⟩
                      · rw [if_neg c22] at H
                        exact absurd H (by simp)
            · replace c8 := Bool.eq_false_iff.mpr c8
              subst c8
              have H1 : (some (([] : List (S71)), x6_1, 3)) = some (r1, r2, r3) := by rw [if_neg (show ¬ (false = true) by decide)] at H; exact H
              clear H
              have H := H1
              clear H1
              simp only [Option.some.injEq, Prod.mk.injEq] at H
              obtain ⟨rfl, rfl, rfl⟩ := H
              obtain ⟨Ao25, co25, eo25⟩ := Kd.S_slice HO_5.out
              subst eo25
              go_wp2_with (first | ((with_reducible refine gate_callee (f := 36) rfl ?_); refine goesL_ (some 22) rfl rfl Tryd.func36 (by kernel_rfl) rfl #[.string x0_1] rfl (by (try simp only [List.map_toArray, List.map_cons, List.map_nil]); first | done | rfl | (simp only [List.length_drop, List.length_take]; rfl)) ?_; (with_reducible refine (ontimeref51_cut.calls k1 x0_1 t101 t102 true _ A5.out).mono ?_); rintro e w' ⟨rfl, ⟨nd, rfl⟩⟩; refine ⟨_, rfl, ?_⟩; (try (rw [drewN_self wr]; generalize hq_ : World.drewN wr _ = wr; have n0_ : Aside0 (Kd.S k71 71 wr w.heap.size (fun _ => True) (.slice Ao25 x5_1.length co25) x5_1) := ⟨by rw [← hq_]; exact (by (with_reducible repeat (first | apply Kd.S_alloc | apply Kd.S_drewN | apply Kd.S_drew)); exact HO_5.out)⟩; have n1_ : Aside0 (Below w.heap.size w wr) := ⟨by rw [← hq_]; exact (by repeat (first | (with_reducible first | exact HB.out | apply below_alloc | apply pw_below_drewN | apply below_drew1) | exact HB.out))⟩; clear HO_5 HB hq_; have HO_5 := n0_; have HB := n1_; clear n0_ n1_))) | ((with_reducible refine gate_callee (f := 37) rfl ?_); refine goesL_ (some 31) rfl rfl Tryd.func37 (by kernel_rfl) rfl #[.string t101] rfl (by (try simp only [List.map_toArray, List.map_cons, List.map_nil]); first | done | rfl | (simp only [List.length_drop, List.length_take]; rfl)) ?_; (with_reducible refine (ontimeref51_first.calls k1 t101 t104 t105 t106 t109 t110 false _ A7.out).mono ?_); rintro e w26 ⟨v107, rfl, ho0, hb⟩; refine ⟨_, rfl, ?_⟩; have n0_ := Aside0.mk (Kd.S_elder' (by (with_reducible repeat (first | apply Kd.S_alloc | apply Kd.S_drewN | apply Kd.S_drew)); exact HO_5.out) (Kd.R_base ho0) hb); have n1_ := Aside0.mk (Kd.R_lower ho0 (below_size (by repeat (first | (with_reducible first | exact HB.out | apply below_alloc | apply pw_below_drewN | apply below_drew1) | exact HB.out)))); have n2_ := Aside0.mk (below_step (by repeat (first | (with_reducible first | exact HB.out | apply below_alloc | apply pw_below_drewN | apply below_drew1) | exact HB.out)) hb); clear HO_5; clear HB; have HO_5 := n0_; have HO108 := n1_; have HB := n2_; clear n0_ n1_ n2_; (try clear hb); (try clear hb2); (try clear hk); (try clear hi); (try clear ho0)) | ((with_reducible refine gate_dst (N := 10) rfl ?_); refine box_event ?hg (N := 10) ?hd (cs := #[.int .u8 0, .string (⟨#[]⟩ : ByteArray), .slice none 0 0, .string (⟨#[]⟩ : ByteArray)]) (t := 71) ?hr ?_; (case hd => rfl); (case hg => rfl); (case hr => first | (go_simp; done) | (go_simp; rfl)); intro gb112 hg w27 hbox hb; have n0_ := Aside0.mk (Kd.S_below (Kd.S_elderB (by (with_reducible repeat (first | apply Kd.S_alloc | apply Kd.S_drewN | apply Kd.S_drew)); exact HO_5.out) gb112 (Nat.le_of_eq hg.symm)) hb); have n1_ := Aside0.mk (Kd.R_below (by (with_reducible repeat (first | apply Kd.R_alloc | apply Kd.R_drewN | apply Kd.R_drew)); exact HO108.out) hb); have n2_ := Aside0.mk (below_step (by repeat (first | (with_reducible first | exact HB.out | apply below_alloc | apply pw_below_drewN | apply below_drew1) | exact HB.out)) hb); have n3_ := Aside0.mk (hbox); have n4_ := Aside0.mk ((by rw [hg]; exact (below_size (by repeat (first | (with_reducible first | exact HB.out | apply below_alloc | apply pw_below_drewN | apply below_drew1) | exact HB.out))) : w.heap.size ≤ gb112)); have n5_ := Aside0.mk ((by rw [hg]; exact (below_size (by repeat (first | (with_reducible first | exact HB.out | apply below_alloc | apply pw_below_drewN | apply below_drew1) | exact HB.out))) : w.heap.size ≤ gb112)); clear HO_5; clear HO108; clear HB; have HO_5 := n0_; have HO108 := n1_; have HB := n2_; have BK112 := n3_; have GW112 := n4_; have GE112 := n5_; clear n0_ n1_ n2_ n3_ n4_ n5_; clear hb hbox hg; have hcz28_0 : w27.cell? ⟨gb112, 0, none⟩ = some (.int .u8 0) := (blk_cell BK112.out 0).trans rfl; have hcz28_1 : w27.cell? ⟨gb112, 1, none⟩ = some (.string (⟨#[]⟩ : ByteArray)) := (blk_cell BK112.out 1).trans rfl; have hcz28_2 : w27.cell? ⟨gb112, 2, none⟩ = some (.slice none 0 0) := (blk_cell BK112.out 2).trans rfl; have hcz28_3 : w27.cell? ⟨gb112, 3, none⟩ = some (.string (⟨#[]⟩ : ByteArray)) := (blk_cell BK112.out 3).trans rfl; have hfz28_0 := blk_frozen BK112.out 0; have hfz28_1 := blk_frozen BK112.out 1; have hfz28_2 := blk_frozen BK112.out 2; have hfz28_3 := blk_frozen BK112.out 3; obtain ⟨Ao29, co29, eo29⟩ := Kd.R_slice HO108.out; subst eo29))
              go_ret3
              exact ⟨_, by first | rfl | (simp [errW_none, errW_some] <;> rfl) | (simp [*, errW_none, errW_some] <;> rfl), by first | exact Kd.S_nil _ _ _ _ _ | exact Kd.N_nil _ _ _ _ _ | exact Kd.V_nil _ _ _ _ _ | exact Kd.Q_nil _ _ _ _ _ | exact Kd.R_nil _ _ _ _ _, by repeat (first | (with_reducible first | exact HB.out | apply below_alloc | apply pw_below_drewN | apply below_drew1 | refine below_set ?_ GE112.out) | exact HB.out)⟩
          · replace c6 := Bool.eq_false_iff.mpr c6
            subst c6
            have H1 : (some (([] : List (S71)), x6_1, 4)) = some (r1, r2, r3) := by rw [if_neg (show ¬ (false = true) by decide)] at H; exact H
            clear H
            have H := H1
            clear H1
            simp only [Option.some.injEq, Prod.mk.injEq] at H
            obtain ⟨rfl, rfl, rfl⟩ := H
            obtain ⟨Ao30, co30, eo30⟩ := Kd.S_slice HO_5.out
            subst eo30
            go_wp2_with (first | ((with_reducible refine gate_callee (f := 36) rfl ?_); refine goesL_ (some 22) rfl rfl Tryd.func36 (by kernel_rfl) rfl #[.string x0_1] rfl (by (try simp only [List.map_toArray, List.map_cons, List.map_nil]); first | done | rfl | (simp only [List.length_drop, List.length_take]; rfl)) ?_; (with_reducible refine (ontimeref51_cut.calls k1 x0_1 t101 t102 false _ A5.out).mono ?_); rintro e w' ⟨rfl, ⟨nd, rfl⟩⟩; refine ⟨_, rfl, ?_⟩))
            go_ret3
            exact ⟨_, by first | rfl | (simp [errW_none, errW_some] <;> rfl) | (simp [*, errW_none, errW_some] <;> rfl), by first | exact Kd.S_nil _ _ _ _ _ | exact Kd.N_nil _ _ _ _ _ | exact Kd.V_nil _ _ _ _ _ | exact Kd.Q_nil _ _ _ _ _ | exact Kd.R_nil _ _ _ _ _, by repeat (first | (with_reducible first | exact HB.out | apply below_alloc | apply pw_below_drewN | apply below_drew1) | exact HB.out)⟩

/-! ### ontimelaw51_ScriptParses: function 6 -/
def ontimelaw51_ScriptParses.j0 : Nat → ByteArray → Bool → Option (Bool)
  | 0, _, _ => none
  | k + 1, x0, x15 => if x15 = true then ((ontimelaw51_awake.f k).bind fun t120 => (some t120)) else ((script_Parse.f k x0).bind fun bt121 => ((ontimeref51_Parse.f k x0).bind fun bt126 => (if bt121.2.2 = bt126.2.2 then (if bt121.2.1 = bt126.2.1 then ((ontimelaw51_equal.f bt121.1 bt126.1).bind fun t131 => (some t131)) else (some false)) else (some false))))
def ontimelaw51_ScriptParses.f (k : Nat) (a0 : ByteArray) : Option (Bool) := (ontimelaw51_awake.f k).bind fun t119 => (if t119 = true then (ontimelaw51_ScriptParses.j0 k a0 (decide ((a0.size : Int) > 1500))) else (ontimelaw51_ScriptParses.j0 k a0 true))
theorem ontimelaw51_ScriptParses.mono_l : ∀ k, (∀ y0 y1, LeO (ontimelaw51_ScriptParses.j0 k y0 y1) (ontimelaw51_ScriptParses.j0 (k + 1) y0 y1))
  | 0 => fun _ _ r h => by simp [ontimelaw51_ScriptParses.j0] at h
  | k + 1 => by
    have ih0 := ontimelaw51_ScriptParses.mono_l k
    · intro y0 y1
      unfold ontimelaw51_ScriptParses.j0
      repeat' first
      | (with_reducible exact ih0 _ _)
      | (with_reducible exact ontimelaw51_awake.mono _)
      | (with_reducible exact ontimeref51_Parse.mono _ _)
      | (with_reducible exact script_Parse.mono _ _)
      | (with_reducible exact LeO.refl _)
      | (with_reducible exact LeO.none _)
      | (with_reducible refine LeO.ite ?_ ?_)
      | (with_reducible refine LeO.bind ?_ (fun _ => ?_))
      | exact ih0 _ _
      | exact ontimelaw51_awake.mono _
      | exact ontimeref51_Parse.mono _ _
      | exact script_Parse.mono _ _
      | exact LeO.none _
      | refine LeO.ite ?_ ?_
      | refine LeO.bind ?_ (fun _ => ?_)
theorem ontimelaw51_ScriptParses.mono : ∀ a0 k, LeO (ontimelaw51_ScriptParses.f k a0) (ontimelaw51_ScriptParses.f (k + 1) a0) := by
  intro a0 k
  have ih0 := ontimelaw51_ScriptParses.mono_l k
  unfold ontimelaw51_ScriptParses.f
  repeat' first
      | (with_reducible exact ih0 _ _)
      | (with_reducible exact ontimelaw51_awake.mono _)
      | (with_reducible exact ontimeref51_Parse.mono _ _)
      | (with_reducible exact script_Parse.mono _ _)
      | (with_reducible exact LeO.refl _)
      | (with_reducible exact LeO.none _)
      | (with_reducible refine LeO.ite ?_ ?_)
      | (with_reducible refine LeO.bind ?_ (fun _ => ?_))
      | exact ih0 _ _
      | exact ontimelaw51_awake.mono _
      | exact ontimeref51_Parse.mono _ _
      | exact script_Parse.mono _ _
      | exact LeO.none _
      | refine LeO.ite ?_ ?_
      | refine LeO.bind ?_ (fun _ => ?_)
set_option maxHeartbeats 8000000 in
set_option maxRecDepth 100000 in
theorem ontimelaw51_ScriptParses.calls (k : Nat) (a0 : ByteArray) (r : Bool) (w : World) (h : ontimelaw51_ScriptParses.f k a0 = some r) (hE : EnvW w) :
    Calls Tryd.prog 6 #[.string a0] w fun e w' => e = .returned (.bool r) ∧ Below w.heap.size w w' := by
  have HB := Aside0.mk (Below.refl w.heap.size w)
  have H : ((ontimelaw51_awake.f k).bind fun t119 => (if t119 = true then (ontimelaw51_ScriptParses.j0 k a0 (decide ((a0.size : Int) > 1500))) else (ontimelaw51_ScriptParses.j0 k a0 true))) = some r := h
  clear h
  have HC2 := Aside0.mk H
  clear H
  go_enter Tryd.func6, Tryd.ntmps6
  go_upto_region 1 with (fail)
  go_cut [15] (fun v15 wc => ∃ (kq : Nat) (x15_1 : Bool), v15 = .bool x15_1 ∧ Aside0 (ontimelaw51_ScriptParses.j0 kq a0 x15_1 = some r) ∧ Aside0 (kq ≤ k) ∧ Aside0 (Below w.heap.size w wc))
  case first =>
    have H := HC2.out
    clear HC2
    replace H := Option.bind_eq_some_iff.mp H
    obtain ⟨t119, A30, H⟩ := H
    replace H : (if t119 = true then (ontimelaw51_ScriptParses.j0 k a0 (decide ((a0.size : Int) > 1500))) else (ontimelaw51_ScriptParses.j0 k a0 true)) = some r := H
    have A3 := Aside0.mk A30
    clear A30
    by_cases c4 : t119 = true
    · subst c4
      have H1 : (ontimelaw51_ScriptParses.j0 k a0 (decide ((a0.size : Int) > 1500))) = some r := by rw [if_pos rfl] at H; exact H
      clear H
      have H := H1
      clear H1
      have H' := Aside0.mk H
      clear H
      go_wp2_with (first | ((with_reducible refine gate_callee (f := 8) rfl ?_); refine goesL_ (some 9) rfl rfl Tryd.func8 (by kernel_rfl) rfl #[] rfl (by (try simp only [List.map_toArray, List.map_cons, List.map_nil]); first | done | rfl | (simp only [List.length_drop, List.length_take]; rfl)) ?_; (with_reducible refine (ontimelaw51_awake.calls k  true _ A3.out (EnvW.below hE (by repeat (first | (with_reducible first | exact HB.out | apply below_alloc | apply pw_below_drewN | apply below_drew1) | exact HB.out)))).mono ?_); rintro e w5 ⟨rfl, hb⟩; refine ⟨_, rfl, ?_⟩; have n0_ := Aside0.mk (below_step (by repeat (first | (with_reducible first | exact HB.out | apply below_alloc | apply pw_below_drewN | apply below_drew1) | exact HB.out)) hb); clear HB; have HB := n0_; clear n0_; (try clear hb); (try clear hb2); (try clear hk); (try clear hi)))
      go_meet
      case rel => exact ⟨_, (decide ((a0.size : Int) > 1500)), (by first | rfl | (simp; done) | (simp [*]; done)), H', ⟨by first | omega | exact Nat.le_refl _⟩, ⟨by repeat (first | (with_reducible first | exact HB.out | apply below_alloc | apply pw_below_drewN | apply below_drew1) | exact HB.out)⟩⟩
    · replace c4 := Bool.eq_false_iff.mpr c4
      subst c4
      have H1 : (ontimelaw51_ScriptParses.j0 k a0 true) = some r := by rw [if_neg (show ¬ (false = true) by decide)] at H; exact H
      clear H
      have H := H1
      clear H1
      have H' := Aside0.mk H
      clear H
      go_wp2_with (first | ((with_reducible refine gate_callee (f := 8) rfl ?_); refine goesL_ (some 9) rfl rfl Tryd.func8 (by kernel_rfl) rfl #[] rfl (by (try simp only [List.map_toArray, List.map_cons, List.map_nil]); first | done | rfl | (simp only [List.length_drop, List.length_take]; rfl)) ?_; (with_reducible refine (ontimelaw51_awake.calls k  false _ A3.out (EnvW.below hE (by repeat (first | (with_reducible first | exact HB.out | apply below_alloc | apply pw_below_drewN | apply below_drew1) | exact HB.out)))).mono ?_); rintro e w6 ⟨rfl, hb⟩; refine ⟨_, rfl, ?_⟩; have n0_ := Aside0.mk (below_step (by repeat (first | (with_reducible first | exact HB.out | apply below_alloc | apply pw_below_drewN | apply below_drew1) | exact HB.out)) hb); clear HB; have HB := n0_; clear n0_; (try clear hb); (try clear hb2); (try clear hk); (try clear hi)))
      go_meet
      case rel => exact ⟨_, (true), (by first | rfl | (simp; done) | (simp [*]; done)), H', ⟨by first | omega | exact Nat.le_refl _⟩, ⟨by repeat (first | (with_reducible first | exact HB.out | apply below_alloc | apply pw_below_drewN | apply below_drew1) | exact HB.out)⟩⟩
  case rest =>
    clear HC2
    try clear p2
    try clear c4
    try clear c6
    obtain ⟨kq, x15_1, rfl, HA, HJ1, HB⟩ := hcut
    cases kq with
    | zero => exact absurd HA.out (by simp [ontimelaw51_ScriptParses.j0])
    | succ kj1 =>
      have H := HA.out
      clear HA
      simp only [ontimelaw51_ScriptParses.j0] at H
      by_cases c7 : x15_1 = true
      · subst c7
        have H1 : ((ontimelaw51_awake.f kj1).bind fun t120 => (some t120)) = some r := by rw [if_pos rfl] at H; exact H
        clear H
        have H := H1
        clear H1
        replace H := Option.bind_eq_some_iff.mp H
        obtain ⟨t120, A80, H⟩ := H
        replace H : (some t120) = some r := H
        have A8 := Aside0.mk A80
        clear A80
        obtain rfl := Option.some.inj H
        go_wp2_with (first | ((with_reducible refine gate_callee (f := 8) rfl ?_); refine goesL_ (some 16) rfl rfl Tryd.func8 (by kernel_rfl) rfl #[] rfl (by (try simp only [List.map_toArray, List.map_cons, List.map_nil]); first | done | rfl | (simp only [List.length_drop, List.length_take]; rfl)) ?_; (with_reducible refine (ontimelaw51_awake.calls kj1  t120 _ A8.out (EnvW.below hE (by repeat (first | (with_reducible first | exact HB.out | apply below_alloc | apply pw_below_drewN | apply below_drew1) | exact HB.out)))).mono ?_); rintro e w9 ⟨rfl, hb⟩; refine ⟨_, rfl, ?_⟩; have n0_ := Aside0.mk (below_step (by repeat (first | (with_reducible first | exact HB.out | apply below_alloc | apply pw_below_drewN | apply below_drew1) | exact HB.out)) hb); clear HB; have HB := n0_; clear n0_; (try clear hb); (try clear hb2); (try clear hk); (try clear hi)))
        go_ret
        exact ⟨by first | rfl | (simp [errW_none, errW_some] <;> rfl) | (simp [*, errW_none, errW_some] <;> rfl), by repeat (first | (with_reducible first | exact HB.out | apply below_alloc | apply pw_below_drewN | apply below_drew1) | exact HB.out)⟩
      · replace c7 := Bool.eq_false_iff.mpr c7
        subst c7
        have H1 : ((script_Parse.f kj1 a0).bind fun bt121 => ((ontimeref51_Parse.f kj1 a0).bind fun bt126 => (if bt121.2.2 = bt126.2.2 then (if bt121.2.1 = bt126.2.1 then ((ontimelaw51_equal.f bt121.1 bt126.1).bind fun t131 => (some t131)) else (some false)) else (some false)))) = some r := by rw [if_neg (show ¬ (false = true) by decide)] at H; exact H
        clear H
        have H := H1
        clear H1
        replace H := Option.bind_eq_some_iff.mp H
        obtain ⟨⟨t121, t122, t123⟩, A100, H⟩ := H
        replace H : ((ontimeref51_Parse.f kj1 a0).bind fun bt126 => (if t123 = bt126.2.2 then (if t122 = bt126.2.1 then ((ontimelaw51_equal.f t121 bt126.1).bind fun t131 => (some t131)) else (some false)) else (some false))) = some r := H
        have A10 := Aside0.mk A100
        clear A100
        replace H := Option.bind_eq_some_iff.mp H
        obtain ⟨⟨t126, t127, t128⟩, A110, H⟩ := H
        replace H : (if t123 = t128 then (if t122 = t127 then ((ontimelaw51_equal.f t121 t126).bind fun t131 => (some t131)) else (some false)) else (some false)) = some r := H
        have A11 := Aside0.mk A110
        clear A110
        by_cases c12 : t123 = t128
        · rw [if_pos c12] at H
          have c12b0 : (t123 == t128) = true := beq_iff_eq.mpr c12
          have c12b1 : (t123 != t128) = false := bne_eq_false_iff_eq.mpr c12
          clear c12
          by_cases c13 : t122 = t127
          · rw [if_pos c13] at H
            have c13b0 : (t122 == t127) = true := beq_iff_eq.mpr c13
            have c13b1 : (t122 != t127) = false := bne_eq_false_iff_eq.mpr c13
            clear c13
            replace H := Option.bind_eq_some_iff.mp H
            obtain ⟨t131, A140, H⟩ := H
            replace H : (some t131) = some r := H
            have A14 := Aside0.mk A140
            clear A140
            obtain rfl := Option.some.inj H
            go_wp2_with (first | ((with_reducible refine gate_callee (f := 10) rfl ?_); refine goesL_ (some 19) rfl rfl Tryd.func10 (by kernel_rfl) rfl #[.string a0] rfl (by (try simp only [List.map_toArray, List.map_cons, List.map_nil]); first | done | rfl | (simp only [List.length_drop, List.length_take]; rfl)) ?_; (with_reducible refine (script_Parse.calls kj1 a0 t121 t122 t123 _ A10.out (EnvW.below hE (by repeat (first | (with_reducible first | exact HB.out | apply below_alloc | apply pw_below_drewN | apply below_drew1) | exact HB.out)))).mono ?_); rintro e w15 ⟨v124, rfl, ho0, hb⟩; refine ⟨_, rfl, ?_⟩; have n0_ := Aside0.mk (Kd.S_lower ho0 (below_size (by repeat (first | (with_reducible first | exact HB.out | apply below_alloc | apply pw_below_drewN | apply below_drew1) | exact HB.out)))); have n1_ := Aside0.mk (below_step (by repeat (first | (with_reducible first | exact HB.out | apply below_alloc | apply pw_below_drewN | apply below_drew1) | exact HB.out)) hb); clear HB; have HO125 := n0_; have HB := n1_; clear n0_ n1_; (try clear hb); (try clear hb2); (try clear hk); (try clear hi); (try clear ho0)) | ((with_reducible refine gate_callee (f := 16) rfl ?_); refine goesL_ (some 25) rfl rfl Tryd.func16 (by kernel_rfl) rfl #[.string a0] rfl (by (try simp only [List.map_toArray, List.map_cons, List.map_nil]); first | done | rfl | (simp only [List.length_drop, List.length_take]; rfl)) ?_; (with_reducible refine (ontimeref51_Parse.calls kj1 a0 t126 t127 t128 _ A11.out).mono ?_); rintro e w16 ⟨v129, rfl, ho0, hb⟩; refine ⟨_, rfl, ?_⟩; have n0_ := Aside0.mk (Kd.S_below (by (with_reducible repeat (first | apply Kd.S_alloc | apply Kd.S_drewN | apply Kd.S_drew)); exact HO125.out) hb); have n1_ := Aside0.mk (Kd.S_lower ho0 (below_size (by repeat (first | (with_reducible first | exact HB.out | apply below_alloc | apply pw_below_drewN | apply below_drew1) | exact HB.out)))); have n2_ := Aside0.mk (below_step (by repeat (first | (with_reducible first | exact HB.out | apply below_alloc | apply pw_below_drewN | apply below_drew1) | exact HB.out)) hb); clear HO125; clear HB; have HO125 := n0_; have HO130 := n1_; have HB := n2_; clear n0_ n1_ n2_; (try clear hb); (try clear hb2); (try clear hk); (try clear hi); (try clear ho0); obtain ⟨Ao17, co17, eo17⟩ := Kd.S_slice HO125.out; subst eo17; obtain ⟨Ao18, co18, eo18⟩ := Kd.S_slice HO130.out; subst eo18) | (go_at_call 17; (with_reducible refine (ontimelaw51_equal.calls _ _ t121 _ _ t126 t131 _ ?side1 ?side2 ?side3 ?side4 A14.out).mono ?_); (case side1 => repeat (first | exact (Kd.S_reads' HO125.out).2.2 | (with_reducible refine Kd.C_alloc ?_ _) | (with_reducible refine Kd.C_drewN ?_ _) | (with_reducible refine Kd.C_drew ?_))); (case side2 => exact (Kd.S_reads' HO125.out).2.1); (case side3 => repeat (first | exact (Kd.S_reads' HO130.out).2.2 | (with_reducible refine Kd.C_alloc ?_ _) | (with_reducible refine Kd.C_drewN ?_ _) | (with_reducible refine Kd.C_drew ?_))); (case side4 => exact (Kd.S_reads' HO130.out).2.1); rintro e w19 ⟨rfl, hb⟩; have n0_ := Aside0.mk (Kd.S_below (by (with_reducible repeat (first | apply Kd.S_alloc | apply Kd.S_drewN | apply Kd.S_drew)); exact HO125.out) hb); have n1_ := Aside0.mk (Kd.S_below (by (with_reducible repeat (first | apply Kd.S_alloc | apply Kd.S_drewN | apply Kd.S_drew)); exact HO130.out) hb); have n2_ := Aside0.mk (below_step (by repeat (first | (with_reducible first | exact HB.out | apply below_alloc | apply pw_below_drewN | apply below_drew1) | exact HB.out)) hb); clear HO125; clear HO130; clear HB; have HO125 := n0_; have HO130 := n1_; have HB := n2_; clear n0_ n1_ n2_; (try clear hb); (try clear hb2); (try clear hk); (try clear hi)))
            go_ret
            exact ⟨by first | rfl | (simp [errW_none, errW_some] <;> rfl) | (simp [*, errW_none, errW_some] <;> rfl), by repeat (first | (with_reducible first | exact HB.out | apply below_alloc | apply pw_below_drewN | apply below_drew1) | exact HB.out)⟩
          · rw [if_neg c13] at H
            have c13b0 : (t122 == t127) = false := beq_eq_false_iff_ne.mpr c13
            have c13b1 : (t122 != t127) = true := bne_iff_ne.mpr c13
            obtain rfl := Option.some.inj H
            go_wp2_with (first | ((with_reducible refine gate_callee (f := 10) rfl ?_); refine goesL_ (some 19) rfl rfl Tryd.func10 (by kernel_rfl) rfl #[.string a0] rfl (by (try simp only [List.map_toArray, List.map_cons, List.map_nil]); first | done | rfl | (simp only [List.length_drop, List.length_take]; rfl)) ?_; (with_reducible refine (script_Parse.calls kj1 a0 t121 t122 t123 _ A10.out (EnvW.below hE (by repeat (first | (with_reducible first | exact HB.out | apply below_alloc | apply pw_below_drewN | apply below_drew1) | exact HB.out)))).mono ?_); rintro e w20 ⟨v124, rfl, ho0, hb⟩; refine ⟨_, rfl, ?_⟩; have n0_ := Aside0.mk (Kd.S_lower ho0 (below_size (by repeat (first | (with_reducible first | exact HB.out | apply below_alloc | apply pw_below_drewN | apply below_drew1) | exact HB.out)))); have n1_ := Aside0.mk (below_step (by repeat (first | (with_reducible first | exact HB.out | apply below_alloc | apply pw_below_drewN | apply below_drew1) | exact HB.out)) hb); clear HB; have HO125 := n0_; have HB := n1_; clear n0_ n1_; (try clear hb); (try clear hb2); (try clear hk); (try clear hi); (try clear ho0)) | ((with_reducible refine gate_callee (f := 16) rfl ?_); refine goesL_ (some 25) rfl rfl Tryd.func16 (by kernel_rfl) rfl #[.string a0] rfl (by (try simp only [List.map_toArray, List.map_cons, List.map_nil]); first | done | rfl | (simp only [List.length_drop, List.length_take]; rfl)) ?_; (with_reducible refine (ontimeref51_Parse.calls kj1 a0 t126 t127 t128 _ A11.out).mono ?_); rintro e w21 ⟨v129, rfl, ho0, hb⟩; refine ⟨_, rfl, ?_⟩; have n0_ := Aside0.mk (Kd.S_below (by (with_reducible repeat (first | apply Kd.S_alloc | apply Kd.S_drewN | apply Kd.S_drew)); exact HO125.out) hb); have n1_ := Aside0.mk (Kd.S_lower ho0 (below_size (by repeat (first | (with_reducible first | exact HB.out | apply below_alloc | apply pw_below_drewN | apply below_drew1) | exact HB.out)))); have n2_ := Aside0.mk (below_step (by repeat (first | (with_reducible first | exact HB.out | apply below_alloc | apply pw_below_drewN | apply below_drew1) | exact HB.out)) hb); clear HO125; clear HB; have HO125 := n0_; have HO130 := n1_; have HB := n2_; clear n0_ n1_ n2_; (try clear hb); (try clear hb2); (try clear hk); (try clear hi); (try clear ho0)))
            go_ret
            exact ⟨by first | rfl | (simp [errW_none, errW_some] <;> rfl) | (simp [*, errW_none, errW_some] <;> rfl), by repeat (first | (with_reducible first | exact HB.out | apply below_alloc | apply pw_below_drewN | apply below_drew1) | exact HB.out)⟩
        · rw [if_neg c12] at H
          have c12b0 : (t123 == t128) = false := beq_eq_false_iff_ne.mpr c12
          have c12b1 : (t123 != t128) = true := bne_iff_ne.mpr c12
          obtain rfl := Option.some.inj H
          go_wp2_with (first | ((with_reducible refine gate_callee (f := 10) rfl ?_); refine goesL_ (some 19) rfl rfl Tryd.func10 (by kernel_rfl) rfl #[.string a0] rfl (by (try simp only [List.map_toArray, List.map_cons, List.map_nil]); first | done | rfl | (simp only [List.length_drop, List.length_take]; rfl)) ?_; (with_reducible refine (script_Parse.calls kj1 a0 t121 t122 t123 _ A10.out (EnvW.below hE (by repeat (first | (with_reducible first | exact HB.out | apply below_alloc | apply pw_below_drewN | apply below_drew1) | exact HB.out)))).mono ?_); rintro e w22 ⟨v124, rfl, ho0, hb⟩; refine ⟨_, rfl, ?_⟩; have n0_ := Aside0.mk (Kd.S_lower ho0 (below_size (by repeat (first | (with_reducible first | exact HB.out | apply below_alloc | apply pw_below_drewN | apply below_drew1) | exact HB.out)))); have n1_ := Aside0.mk (below_step (by repeat (first | (with_reducible first | exact HB.out | apply below_alloc | apply pw_below_drewN | apply below_drew1) | exact HB.out)) hb); clear HB; have HO125 := n0_; have HB := n1_; clear n0_ n1_; (try clear hb); (try clear hb2); (try clear hk); (try clear hi); (try clear ho0)) | ((with_reducible refine gate_callee (f := 16) rfl ?_); refine goesL_ (some 25) rfl rfl Tryd.func16 (by kernel_rfl) rfl #[.string a0] rfl (by (try simp only [List.map_toArray, List.map_cons, List.map_nil]); first | done | rfl | (simp only [List.length_drop, List.length_take]; rfl)) ?_; (with_reducible refine (ontimeref51_Parse.calls kj1 a0 t126 t127 t128 _ A11.out).mono ?_); rintro e w23 ⟨v129, rfl, ho0, hb⟩; refine ⟨_, rfl, ?_⟩; have n0_ := Aside0.mk (Kd.S_below (by (with_reducible repeat (first | apply Kd.S_alloc | apply Kd.S_drewN | apply Kd.S_drew)); exact HO125.out) hb); have n1_ := Aside0.mk (Kd.S_lower ho0 (below_size (by repeat (first | (with_reducible first | exact HB.out | apply below_alloc | apply pw_below_drewN | apply below_drew1) | exact HB.out)))); have n2_ := Aside0.mk (below_step (by repeat (first | (with_reducible first | exact HB.out | apply below_alloc | apply pw_below_drewN | apply below_drew1) | exact HB.out)) hb); clear HO125; clear HB; have HO125 := n0_; have HO130 := n1_; have HB := n2_; clear n0_ n1_ n2_; (try clear hb); (try clear hb2); (try clear hk); (try clear hi); (try clear ho0)))
          go_ret
          exact ⟨by first | rfl | (simp [errW_none, errW_some] <;> rfl) | (simp [*, errW_none, errW_some] <;> rfl), by repeat (first | (with_reducible first | exact HB.out | apply below_alloc | apply pw_below_drewN | apply below_drew1) | exact HB.out)⟩

/-- THE ONE PURE STATEMENT of ontimelaw51_ScriptParses: yours. -/
def ontimelaw51_ScriptParses.Pure : Prop := ∀ (a0 : ByteArray), a0.size ≤ 140737488351232 → ∃ k, ontimelaw51_ScriptParses.f k a0 = some true
end Go.Proofs.YtmciflmlpnpkaaaDoor.Pa
