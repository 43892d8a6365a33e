/- The walks of the seat's functions, by hand, and plain facts. -/
import Derived.Test.YtmgafakahbanaaaDoorPax
import Derived.Lib.Hide
import Derived.Outline
import Derived.Lib.ConvBytes
import Derived.IntWalk
import Derived.Lib.SlBytesConst
import Derived.Test.YtmgafakahbanaaaDoorLib
import Derived.Lib.AppendIntMem
import Derived.Lib.ItoaNum
import Derived.Lib.ItoaLen
import Derived.Deep.RegionWith
import Derived.Lib.ItoaMem
namespace Go.Proofs.YtmgafakahbanaaaDoor.Pa
open Go.RowKit Go.Proofs.YtmgafakahbanaaaDoorW.PrintWords Go.Proofs.YtmgafakahbanaaaDoorW.PrintLast Go.Proofs.YtmgafakahbanaaaDoorW.PrintMore

/-! ### the table of the opcodes, by the kernel -/
def rowTab : List S76 := (isa_rows.f 20).getD []
theorem rows_eq : isa_rows.f 20 = some rowTab := by kernel_rfl
theorem rowTab_len : rowTab.length = 30 := by kernel_rfl
def rowOf (op : Int) : S76 := rd_T76 rowTab op

theorem find_yes (op : Int) (h0 : 0 ≤ op) (h1 : op < 30) : isa_find.f 20 op = some ((rowOf op).f0, (rowOf op).f1, (rowOf op).f2, (rowOf op).f3, (rowOf op).f4, (rowOf op).f5, true) := by
  unfold isa_find.f
  rw [rows_eq]
  simp only [Option.bind_some, rowTab_len]
  rw [if_neg (by unfold wrap64; omega), if_pos h0, if_pos (by omega)]
  rfl
theorem find_no (op : Int) (h0 : 30 ≤ op) (h1 : op ≤ 255) : isa_find.f 20 op = some (⟨#[]⟩, ⟨#[]⟩, 0, 0, ⟨#[]⟩, ⟨#[]⟩, false) := by
  unfold isa_find.f
  rw [rows_eq]
  simp only [Option.bind_some, rowTab_len]
  rw [if_pos (by unfold wrap64; omega)]

/-! ### slices.Contains at bytes -/
theorem idx_eval (c : Int) (xs : List Int) (hlen : xs.length ≤ 9223372036854775807) : ∀ (d k i : Nat), i + d = xs.length → d < k →
    ∃ r : Int, slices_Index_byte_byte.l0 k xs c (xs.length : Int) (i : Int) = some r ∧ decide (r ≥ 0) = (xs.drop i).contains c := by
  intro d
  induction d with
  | zero =>
    intro k i hi hk
    obtain ⟨k, rfl⟩ : ∃ m, k = m + 1 := ⟨k - 1, by omega⟩
    simp only [slices_Index_byte_byte.l0]
    rw [if_neg (by omega)]
    exact ⟨_, rfl, by rw [List.drop_of_length_le (by omega)]; rfl⟩
  | succ d ih =>
    intro k i hi hk
    obtain ⟨k, rfl⟩ : ∃ m, k = m + 1 := ⟨k - 1, by omega⟩
    have hlt : i < xs.length := by omega
    have hx : rd xs (i : Int) = xs[i] := by simp [rd, hlt]
    obtain ⟨r, hr, hc⟩ := ih k (i + 1) (by omega) (by omega)
    have hw : wrap64 ((i : Int) + 1) = ((i + 1 : Nat) : Int) := by unfold wrap64; omega
    rw [List.drop_eq_getElem_cons hlt]
    simp only [slices_Index_byte_byte.l0]
    rw [if_pos (by omega), if_pos (by omega), if_pos (by omega), hx, hw]
    by_cases e : c = xs[i]
    · rw [if_pos e]
      exact ⟨_, rfl, by rw [List.contains_cons, e]; simp⟩
    · rw [if_neg e]
      exact ⟨r, hr, by rw [hc, List.contains_cons]; simp [e]⟩
theorem contains_eval (c : Int) (xs : List Int) (hlen : xs.length ≤ 9223372036854775807) : slices_Contains_byte_byte.f (xs.length + 1) xs c = some (xs.contains c) := by
  obtain ⟨r, hr, hc⟩ := idx_eval c xs hlen xs.length (xs.length + 1) 0 (by omega) (by omega)
  unfold slices_Contains_byte_byte.f slices_Index_byte_byte.f
  have hr' : slices_Index_byte_byte.l0 (xs.length + 1) xs c (xs.length : Int) 0 = some r := hr
  rw [hr', Option.bind_some, hc, List.drop_zero]

/-! ### bytes of a string, as numbers -/
def nums8 (s : ByteArray) : List Int := s.data.toList.map fun b => (b.toNat : Int)
theorem nums8_len (s : ByteArray) : (nums8 s).length = s.size := by simp [nums8]
def hasB (s : ByteArray) (c : Int) : Bool := (nums8 s).contains c
theorem bytesWorld_below (w : World) (e : TypeId) (s : ByteArray) : Below w.heap.size w (Lib.bytesWorld w e s) := by
  refine ⟨rfl, rfl, rfl, ?_, ?_⟩
  · rw [Lib.bytesWorld_size]; omega
  · intro i hi; exact Lib.bytesWorld_at_old w e s i hi
theorem bytesWorld_reads (w : World) (e : TypeId) (s : ByteArray) (hs : s.size ≤ 9223372036854775807) : Kd.C (Kd.int .u8) (Lib.bytesWorld w e s) (some ⟨w.heap.size, 0, none⟩) (nums8 s).length (nums8 s) := by
  refine ⟨rfl, by rw [nums8_len]; exact hs, fun _ => ⟨_, rfl, fun j p hp => ⟨[.int .u8 p], rfl, rfl, fun i u hu => ?_⟩⟩⟩
  have hj : j < (nums8 s).length := (List.getElem?_eq_some_iff.1 hp).1
  cases i with
  | succ i => simp at hu
  | zero =>
    simp only [List.getElem?_cons_zero, Option.some.injEq] at hu
    subst hu
    rw [nums8_len] at hj
    have := Lib.bytesWorld_cell w e s j hj
    have hsz : j < s.data.toList.length := by simpa using hj
    simp only [nums8, List.getElem?_map, List.getElem?_eq_getElem hsz, Option.map_some, Option.some.injEq] at hp
    have e2 : (⟨w.heap.size, 0, none⟩ : Addr).add (j * (Kd.int .u8).sz + 0) = ⟨w.heap.size, j, none⟩ := by
      show (⟨w.heap.size, 0, none⟩ : Addr).add (j * 1 + 0) = _
      rw [add_plain]; simp
    rw [e2, this, ← hp, List.getD_eq_getElem?_getD, List.getElem?_eq_getElem hsz]
    rfl
set_option maxHeartbeats 400000 in
theorem isa_has.calls (s : ByteArray) (c : Int) (w : World) (hs : s.size ≤ 1000000) :
    Calls Tryd.prog 45 #[.string s, .int .u8 c] w fun e w' => e = .returned (.bool (hasB s c)) ∧ Below w.heap.size w w' := by
  have hcv := fun (w : World) => Lib.run_convert_string_bytes (P := Tryd.prog) w 9 36 5 s Tryd.underlying9 Tryd.underlying36 Tryd.underlying5
  have hn := nums8_len s
  have hl : (nums8 s).length ≤ 9223372036854775807 := by omega
  have hcap : (nums8 s).length ≤ grownCap w s.size 0 5 := by
    rw [hn]; exact grownCap_ge _ _ _ _
  have hce : slices_Contains_byte_byte.f ((nums8 s).length + 1) (nums8 s) c = some (hasB s c) := contains_eval c _ hl
  have hct := slices_Contains_byte_byte.calls ((nums8 s).length + 1) (some ⟨w.heap.size, 0, none⟩) (grownCap w s.size 0 5) (nums8 s) c _ (Lib.bytesWorld w 5 s) (bytesWorld_reads w 5 s (by omega)) hcap hce
  rw [hn] at hct
  have HC := Lib.hid hct
  clear hct hce
  have HN := Lib.hid hn
  clear hn
  go_enter Tryd.func45, Tryd.ntmps45
  go_wp2_with (go_at_call 61; refine HC.out.mono ?_; rintro e w' ⟨rfl, hd⟩)
  go_ret
  exact ⟨rfl, (bytesWorld_below w 5 s).trans (hd.out.elim fun n h => by rw [h]; exact pw_below_drewN (Below.refl _ _) n)⟩

/-- Where an operand lies in an instruction's cells. -/
def fo (c : Int) : Nat := if c = 97 then 1 else if c = 98 then 2 else if c = 99 then 3 else 4
set_option maxHeartbeats 400000 in
theorem isa_field.calls (b : Nat) (c : Int) (w : World) :
    Calls Tryd.prog 38 #[.pointer (some ⟨b, 0, none⟩), .int .u8 c] w fun e w' => e = .returned (.pointer (some ⟨b, fo c, none⟩)) ∧ w' = w := by
  have hu48 := Tryd.underlying48
  by_cases h1 : c = 97
  · subst h1
    go_enter Tryd.func38, Tryd.ntmps38
    go_wp2
    go_ret
    exact ⟨rfl, rfl⟩
  · have k1 : (c == 97) = false := beq_eq_false_iff_ne.mpr h1
    by_cases h2 : c = 98
    · subst h2
      go_enter Tryd.func38, Tryd.ntmps38
      go_wp2
      go_ret
      exact ⟨rfl, rfl⟩
    · have k2 : (c == 98) = false := beq_eq_false_iff_ne.mpr h2
      by_cases h3 : c = 99
      · subst h3
        go_enter Tryd.func38, Tryd.ntmps38
        go_wp2
        go_ret
        exact ⟨rfl, rfl⟩
      · have k3 : (c == 99) = false := beq_eq_false_iff_ne.mpr h3
        have k4 : fo c = 4 := by unfold fo; rw [if_neg h1, if_neg h2, if_neg h3]
        have K4 := Lib.hid k4
        clear k4
        go_enter Tryd.func38, Tryd.ntmps38
        go_wp2
        go_ret
        exact ⟨by rw [K4.out]; rfl, rfl⟩
end Go.Proofs.YtmgafakahbanaaaDoor.Pa

namespace Go.Proofs.YtmgafakahbanaaaDoor.Pa
open Go.RowKit Go.Proofs.YtmgafakahbanaaaDoorW.PrintWords Go.Proofs.YtmgafakahbanaaaDoorW.PrintLast Go.Proofs.YtmgafakahbanaaaDoorW.PrintMore

/-- Is an operand's number allowed? -/
def okF (r : S76) (c x : Int) : Bool := if hasB r.f1 c = true then (if c = 105 then decide (r.f2 ≤ x) && decide (x ≤ r.f3) else decide (0 ≤ x) && decide (x ≤ 15)) else decide (x = 0)
def xF (i : S48) (c : Int) : Int := if c = 97 then i.f1 else if c = 98 then i.f2 else if c = 99 then i.f3 else i.f4
def csF (j : Nat) : Int := if j = 0 then 97 else if j = 1 then 98 else if j = 2 then 99 else 105
def okTo (r : S76) (i : S48) (j : Nat) : Bool := (List.range j).all fun t => okF r (csF t) (xF i (csF t))
def validB (i : S48) : Bool := decide (i.f0 < 30) && okTo (rowOf i.f0) i 4
theorem okTo_succ (r : S76) (i : S48) (j : Nat) : okTo r i (j + 1) = (okTo r i j && okF r (csF j) (xF i (csF j))) := by simp [okTo, List.range_succ]
theorem okTo_false (r : S76) (i : S48) (j n : Nat) (hj : j < n) (h : okF r (csF j) (xF i (csF j)) = false) : okTo r i n = false := by
  unfold okTo
  rw [List.all_eq_false]
  exact ⟨j, by simpa using hj, by simp [h]⟩
theorem rows_short : ∀ r ∈ rowTab, r.f1.size ≤ 100 := by
  have h : (rowTab.all fun r => decide (r.f1.size ≤ 100)) = true := by kernel_rfl
  intro r hr
  have := List.all_eq_true.1 h r hr
  simpa using this
theorem rowOf_short (op : Int) (h0 : 0 ≤ op) (h1 : op < 30) : (rowOf op).f1.size ≤ 100 := by
  have hl := rowTab_len
  apply rows_short
  unfold rowOf rd_T76
  rw [List.getD_eq_getElem?_getD, List.getElem?_eq_getElem (by omega)]
  exact List.getElem_mem _
theorem conv36 (W : World) (X : Obj) (C : Array Value) (n c : Nat) : (convert 36 36 (.slice (some ⟨W.heap.size + 1, 0, none⟩) n c)).run Tryd.prog ((W.alloc X).alloc (.cells C 5)) = .ok (.slice (some ⟨W.heap.size + 1, 0, none⟩) n c) ((W.alloc X).alloc (.cells C 5 (C.size, C.size + 1))) := by
  have h := Lib.run_convert_bytes_const (P := Tryd.prog) (W.alloc X) 36 5 C n c Tryd.underlying36 Tryd.underlying5
  have e : (W.alloc X).heap.size = W.heap.size + 1 := by simp
  rw [e] at h
  exact h

set_option maxHeartbeats 1000000 in
theorem isa_Valid_no (a0 a1 a2 a3 a4 : Int) (w : World) (h1 : 30 ≤ a0) (h2 : a0 ≤ 255) :
    Calls Tryd.prog 29 #[.agg #[.int .u8 a0, .int .i64 a1, .int .i64 a2, .int .i64 a3, .int .i64 a4]] w fun e w' => e = .returned (.bool false) ∧ Below w.heap.size w w' := by
  have HF := Lib.hid (find_no a0 h1 h2)
  have HB := Aside0.mk (below_alloc (Below.refl w.heap.size w) (.cells #[.int .u8 a0, .int .i64 a1, .int .i64 a2, .int .i64 a3, .int .i64 a4] 48))
  go_enter Tryd.func29, Tryd.ntmps29
  go_wp2_with (go_at_call 37; refine (isa_find.calls 20 a0 _ _ _ _ _ _ _ _ HF.out).mono ?_; rintro e w' ⟨rfl, hb⟩)
  go_ret
  exact ⟨rfl, below_alloc (below_then HB.out HB.out.size hb) _⟩

/-- What the loop of isa.Valid keeps. -/
structure VInv (w : World) (B R S : Nat) (i : S48) (r : S76) (wr : World) : Prop where
  below : Below w.heap.size w wr
  own : w.heap.size ≤ B
  fields : ∀ j, j < 4 → wr.cell? ⟨B, fo (csF j), none⟩ = some (.int .i64 (xF i (csF j)))
  ops : wr.cell? ⟨R, 1, none⟩ = some (.string r.f1)
  low : wr.cell? ⟨R, 2, none⟩ = some (.int .i64 r.f2)
  high : wr.cell? ⟨R, 3, none⟩ = some (.int .i64 r.f3)
  cs : ∀ j, j < 4 → wr.cell? ⟨S, j, none⟩ = some (.int .u8 (csF j))
  lt : B < wr.heap.size ∧ R < wr.heap.size ∧ S < wr.heap.size

theorem vinv_start (w w1 : World) (a0 a1 a2 a3 a4 : Int) (r : S76)
    (hb : Below (w.alloc (.cells #[.int .u8 a0, .int .i64 a1, .int .i64 a2, .int .i64 a3, .int .i64 a4] 48)).heap.size (w.alloc (.cells #[.int .u8 a0, .int .i64 a1, .int .i64 a2, .int .i64 a3, .int .i64 a4] 48)) w1) (fr : Nat × Nat) :
    VInv w w.heap.size w1.heap.size (w1.heap.size + 1) ⟨a0, a1, a2, a3, a4⟩ r ((w1.alloc (.cells #[.string r.f0, .string r.f1, .int .i64 r.f2, .int .i64 r.f3, .string r.f4, .string r.f5] 76)).alloc (.cells #[.int .u8 97, .int .u8 98, .int .u8 99, .int .u8 105] 5 fr)) := by
  have hsz := hb.size
  simp at hsz
  have hold : ∀ j : Nat, ((w1.alloc (.cells #[.string r.f0, .string r.f1, .int .i64 r.f2, .int .i64 r.f3, .string r.f4, .string r.f5] 76)).alloc (.cells #[.int .u8 97, .int .u8 98, .int .u8 99, .int .u8 105] 5 fr)).cell? ⟨w.heap.size, j, none⟩ = (#[.int .u8 a0, .int .i64 a1, .int .i64 a2, .int .i64 a3, .int .i64 a4] : Array Value)[j]? := by
    intro j
    rw [World.cell?_alloc_lt _ _ _ (by simp; omega), World.cell?_alloc_lt _ _ _ (by simp; omega), hb.cell (p := ⟨w.heap.size, j, none⟩) (by simp)]
    exact World.cell?_alloc_mark _ _ _ _ _
  have hrow : ∀ j : Nat, ((w1.alloc (.cells #[.string r.f0, .string r.f1, .int .i64 r.f2, .int .i64 r.f3, .string r.f4, .string r.f5] 76)).alloc (.cells #[.int .u8 97, .int .u8 98, .int .u8 99, .int .u8 105] 5 fr)).cell? ⟨w1.heap.size, j, none⟩ = (#[.string r.f0, .string r.f1, .int .i64 r.f2, .int .i64 r.f3, .string r.f4, .string r.f5] : Array Value)[j]? := by
    intro j
    rw [World.cell?_alloc_lt _ _ _ (by simp)]
    exact World.cell?_alloc_mark _ _ _ _ _
  have hnew : ∀ j : Nat, ((w1.alloc (.cells #[.string r.f0, .string r.f1, .int .i64 r.f2, .int .i64 r.f3, .string r.f4, .string r.f5] 76)).alloc (.cells #[.int .u8 97, .int .u8 98, .int .u8 99, .int .u8 105] 5 fr)).cell? ⟨w1.heap.size + 1, j, none⟩ = (#[.int .u8 97, .int .u8 98, .int .u8 99, .int .u8 105] : Array Value)[j]? := by
    intro j
    have e : (w1.alloc (.cells #[.string r.f0, .string r.f1, .int .i64 r.f2, .int .i64 r.f3, .string r.f4, .string r.f5] 76)).heap.size = w1.heap.size + 1 := by simp
    rw [← e]
    exact World.cell?_alloc_mark _ _ _ _ _
  refine ⟨?_, Nat.le_refl _, ?_, hrow 1, hrow 2, hrow 3, ?_, ?_⟩
  · exact below_alloc (below_alloc (below_then (below_alloc (Below.refl w.heap.size w) _) (by simp) hb) _) _
  · intro j hj
    rcases (by omega : j = 0 ∨ j = 1 ∨ j = 2 ∨ j = 3) with rfl | rfl | rfl | rfl
    · exact hold 1
    · exact hold 2
    · exact hold 3
    · exact hold 4
  · intro j hj
    rcases (by omega : j = 0 ∨ j = 1 ∨ j = 2 ∨ j = 3) with rfl | rfl | rfl | rfl
    · exact hnew 0
    · exact hnew 1
    · exact hnew 2
    · exact hnew 3
  · simp; omega
theorem VInv.step {w : World} {B R S : Nat} {i : S48} {r : S76} {wr w1 : World} (h : VInv w B R S i r wr) (hb : Below wr.heap.size wr w1) : VInv w B R S i r w1 := by
  obtain ⟨h1, h2, h3, h4, h5, h6, h7, h8, h9, h10⟩ := h
  refine ⟨below_then h1 h1.size hb, h2, fun j hj => (hb.cell h8).trans (h3 j hj), (hb.cell h9).trans h4, (hb.cell h9).trans h5, (hb.cell h9).trans h6, fun j hj => (hb.cell h10).trans (h7 j hj), ?_⟩
  have := hb.size
  omega
theorem VInv.drews {w : World} {B R S : Nat} {i : S48} {r : S76} {wr : World} (h : VInv w B R S i r wr) (n : Nat) : VInv w B R S i r (wr.drewN n) := h.step (pw_below_drewN (Below.refl _ _) n)
theorem csF_range (j : Nat) : 0 ≤ csF j ∧ csF j ≤ 255 := by
  unfold csF; split
  · omega
  · split
    · omega
    · split <;> omega

set_option maxRecDepth 100000 in
set_option maxHeartbeats 1000000 in
theorem isa_Valid_yes (i : S48) (w : World) (h0 : 0 ≤ i.f0) (h1 : i.f0 < 30) :
    Calls Tryd.prog 29 #[.agg #[.int .u8 i.f0, .int .i64 i.f1, .int .i64 i.f2, .int .i64 i.f3, .int .i64 i.f4]] w fun e w' => e = .returned (.bool (validB i)) ∧ Below w.heap.size w w' := by
  have HF := Lib.hid (find_yes i.f0 h0 h1)
  have hs := rowOf_short i.f0 h0 h1
  generalize hr : rowOf i.f0 = r at HF hs
  have hv : validB i = okTo r i 4 := by
    unfold validB
    rw [← hr]
    simp [h1]
  clear hr
  have HI := Lib.hid hv
  clear hv
  have kc := conv36
  go_enter Tryd.func29, Tryd.ntmps29
  go_wp2_with (go_at_call 37; refine (isa_find.calls 20 i.f0 _ _ _ _ _ _ _ _ HF.out).mono ?_; rintro e w1 ⟨rfl, hb1⟩)
  have hV := vinv_start w w1 i.f0 i.f1 i.f2 i.f3 i.f4 r hb1 (4, 5)
  go_loopw [21] (fun v wr => ∃ j : Nat, j ≤ 4 ∧ v = .int .i64 j ∧ Aside0 (VInv w w.heap.size w1.heap.size (w1.heap.size + 1) i r wr) ∧ Aside0 (okTo r i j = true)) (fun v _ => 4 - (intOf v).toNat)
  case atStart => exact ⟨0, by omega, rfl, ⟨hV⟩, ⟨rfl⟩⟩
  case round =>
    obtain ⟨j, hj, rfl, HV, HO⟩ := hrel
    clear hV
    by_cases hlt : j < 4
    · have c1 := HV.out.fields j hlt
      have c2 := HV.out.cs j hlt
      have c3 := HV.out.ops
      have hcr := csF_range j
      have hrow : (r.f1.size : Nat) ≤ 1000000 := by omega
      generalize hx : xF i (csF j) = x at c1
      generalize hc : csF j = c at c1 c2 hcr
      have HX := Lib.hid hx
      have HCc := Lib.hid hc
      clear hx hc
      cases hh : hasB r.f1 c with
      | false =>
        have hok : okF r c x = decide (x = 0) := by unfold okF; rw [hh]; rfl
        have HOK := Lib.hid hok
        clear hok
        by_cases g1 : x < 0
        · have hF := okTo_false r i j 4 hlt (by rw [HX.out, HCc.out, HOK.out]; simp; omega)
          have HFa := Lib.hid hF
          clear hF
          go_wp2_with (first | (go_at_call 38; refine (isa_field.calls _ _ _).mono ?_; rintro e w' ⟨rfl, rfl⟩) | (go_at_call 45; refine (isa_has.calls r.f1 c _ hrow).mono ?_; rintro e w2 ⟨rfl, hb2⟩))
          go_ret
          exact ⟨by rw [HI.out, HFa.out]; rfl, (HV.out.step hb2).below⟩
        · by_cases g2 : 0 < x
          · have hF := okTo_false r i j 4 hlt (by rw [HX.out, HCc.out, HOK.out]; simp; omega)
            have HFa := Lib.hid hF
            clear hF
            go_wp2_with (first | (go_at_call 38; refine (isa_field.calls _ _ _).mono ?_; rintro e w' ⟨rfl, rfl⟩) | (go_at_call 45; refine (isa_has.calls r.f1 c _ hrow).mono ?_; rintro e w2 ⟨rfl, hb2⟩))
            go_ret
            exact ⟨by rw [HI.out, HFa.out]; rfl, (HV.out.step hb2).below⟩
          · have hT : okTo r i (j + 1) = true := by rw [okTo_succ, HO.out, HX.out, HCc.out, HOK.out]; simp; omega
            have HT := Lib.hid hT
            clear hT
            go_wp2_with (first | (go_at_call 38; refine (isa_field.calls _ _ _).mono ?_; rintro e w' ⟨rfl, rfl⟩) | (go_at_call 45; refine (isa_has.calls r.f1 c _ hrow).mono ?_; rintro e w2 ⟨rfl, hb2⟩))
            go_roundw
            case rel => exact ⟨j + 1, by omega, by go_num, ⟨HV.out.step hb2⟩, ⟨HT.out⟩⟩
            case measure => simp [intOf]; omega
      | true =>
        cases h5 : (c == 105) with
        | false =>
          have hok : okF r c x = (decide (0 ≤ x) && decide (x ≤ 15)) := by unfold okF; rw [if_pos hh, if_neg (by simpa using h5)]
          have HOK := Lib.hid hok
          clear hok
          by_cases g1 : x < 0
          · have hF := okTo_false r i j 4 hlt (by rw [HX.out, HCc.out, HOK.out]; simp; omega)
            have HFa := Lib.hid hF
            clear hF
            go_wp2_with (first | (go_at_call 38; refine (isa_field.calls _ _ _).mono ?_; rintro e w' ⟨rfl, rfl⟩) | (go_at_call 45; refine (isa_has.calls r.f1 c _ hrow).mono ?_; rintro e w2 ⟨rfl, hb2⟩))
            go_ret
            exact ⟨by rw [HI.out, HFa.out]; rfl, (HV.out.step hb2).below⟩
          · by_cases g2 : 15 < x
            · have hF := okTo_false r i j 4 hlt (by rw [HX.out, HCc.out, HOK.out]; simp; omega)
              have HFa := Lib.hid hF
              clear hF
              go_wp2_with (first | (go_at_call 38; refine (isa_field.calls _ _ _).mono ?_; rintro e w' ⟨rfl, rfl⟩) | (go_at_call 45; refine (isa_has.calls r.f1 c _ hrow).mono ?_; rintro e w2 ⟨rfl, hb2⟩))
              go_ret
              exact ⟨by rw [HI.out, HFa.out]; rfl, (HV.out.step hb2).below⟩
            · have hT : okTo r i (j + 1) = true := by rw [okTo_succ, HO.out, HX.out, HCc.out, HOK.out]; simp; omega
              have HT := Lib.hid hT
              clear hT
              go_wp2_with (first | (go_at_call 38; refine (isa_field.calls _ _ _).mono ?_; rintro e w' ⟨rfl, rfl⟩) | (go_at_call 45; refine (isa_has.calls r.f1 c _ hrow).mono ?_; rintro e w2 ⟨rfl, hb2⟩))
              go_roundw
              case rel => exact ⟨j + 1, by omega, by go_num, ⟨HV.out.step hb2⟩, ⟨HT.out⟩⟩
              case measure => simp [intOf]; omega
        | true =>
          have hok : okF r c x = (decide (r.f2 ≤ x) && decide (x ≤ r.f3)) := by unfold okF; rw [if_pos hh, if_pos (by simpa using h5)]
          have HOK := Lib.hid hok
          clear hok
          obtain rfl : c = 105 := by simpa using h5
          clear h5
          generalize hlo : r.f2 = lo at HOK
          generalize hhi : r.f3 = hi at HOK
          have HLo := Lib.hid hlo
          have HHi := Lib.hid hhi
          clear hlo hhi
          by_cases g1 : x < lo
          · have hF := okTo_false r i j 4 hlt (by rw [HX.out, HCc.out, HOK.out]; simp; omega)
            have HFa := Lib.hid hF
            clear hF
            go_wp2_with (first | (go_at_call 38; refine (isa_field.calls _ _ _).mono ?_; rintro e w' ⟨rfl, rfl⟩) | (go_at_call 45; refine (isa_has.calls r.f1 _ _ hrow).mono ?_; rintro e w2 ⟨rfl, hb2⟩; have c4 := (HV.out.step hb2).low; have c5 := (HV.out.step hb2).high; rw [HLo.out] at c4; rw [HHi.out] at c5))
            go_quiet (fail)
            go_wp2
            go_ret
            exact ⟨by rw [HI.out, HFa.out]; rfl, pw_below_drewN ((HV.out.step hb2).below) _⟩
          · by_cases g2 : hi < x
            · have hF := okTo_false r i j 4 hlt (by rw [HX.out, HCc.out, HOK.out]; simp; omega)
              have HFa := Lib.hid hF
              clear hF
              go_wp2_with (first | (go_at_call 38; refine (isa_field.calls _ _ _).mono ?_; rintro e w' ⟨rfl, rfl⟩) | (go_at_call 45; refine (isa_has.calls r.f1 _ _ hrow).mono ?_; rintro e w2 ⟨rfl, hb2⟩; have c4 := (HV.out.step hb2).low; have c5 := (HV.out.step hb2).high; rw [HLo.out] at c4; rw [HHi.out] at c5))
              go_quiet (fail)
              go_wp2
              go_ret
              exact ⟨by rw [HI.out, HFa.out]; rfl, pw_below_drewN ((HV.out.step hb2).below) _⟩
            · have hT : okTo r i (j + 1) = true := by rw [okTo_succ, HO.out, HX.out, HCc.out, HOK.out]; simp; omega
              have HT := Lib.hid hT
              clear hT
              go_wp2_with (first | (go_at_call 38; refine (isa_field.calls _ _ _).mono ?_; rintro e w' ⟨rfl, rfl⟩) | (go_at_call 45; refine (isa_has.calls r.f1 _ _ hrow).mono ?_; rintro e w2 ⟨rfl, hb2⟩; have c4 := (HV.out.step hb2).low; have c5 := (HV.out.step hb2).high; rw [HLo.out] at c4; rw [HHi.out] at c5))
              go_quiet (fail)
              go_wp2
              go_roundw
              case rel => exact ⟨j + 1, by omega, by go_num, ⟨(HV.out.step hb2).drews _⟩, ⟨HT.out⟩⟩
              case measure => simp [intOf]; omega
    · have hj4 : j = 4 := by omega
      subst hj4
      go_wp2
      go_ret
      exact ⟨by rw [HI.out, HO.out]; rfl, HV.out.below⟩
end Go.Proofs.YtmgafakahbanaaaDoor.Pa

namespace Go.Proofs.YtmgafakahbanaaaDoor.Pa
open Go.RowKit Go.Proofs.YtmgafakahbanaaaDoorW.PrintWords Go.Proofs.YtmgafakahbanaaaDoorW.PrintLast Go.Proofs.YtmgafakahbanaaaDoorW.PrintMore

set_option linter.unusedVariables false
set_option linter.unusedSimpArgs false

/-- What the library reads of the package-level variables. -/
structure EnvW (w : World) : Prop where
  maxLen : ∃ m, w.cell? ⟨0, 0, none⟩ = some (.int .i64 m)
  syn : ∃ ev, w.cell? ⟨3, 0, none⟩ = some ev ∧ (ev = .nilIface ∨ ∃ te pe, ev = .iface te pe)
  rng : ∃ ev, w.cell? ⟨4, 0, none⟩ = some ev ∧ (ev = .nilIface ∨ ∃ te pe, ev = .iface te pe)
  pow : Lib.TabIs Tryd.prog w "internal/strconv.uint64pow10" .u64 Lib.pow10Tab
theorem EnvW.below {w w1 : World} (h : EnvW w) (hb : Below w.heap.size w w1) : EnvW w1 := by
  obtain ⟨⟨m, h1⟩, ⟨e1, h2, k2⟩, ⟨e2, h3, k3⟩, h4⟩ := h
  exact ⟨⟨m, pw_cell_below hb h1⟩, ⟨e1, pw_cell_below hb h2, k2⟩, ⟨e2, pw_cell_below hb h3, k3⟩, Lib.tabBelow_of_tabIs h4 _ hb⟩

/-! ### texts -/
def str (l : List UInt8) : ByteArray := ⟨l.toArray⟩
theorem str_data (l : List UInt8) : (str l).data.toList = l := rfl
theorem str_size (l : List UInt8) : (str l).size = l.length := rfl
theorem str_of (s : ByteArray) : str s.data.toList = s := rfl

theorem itoa_calls (n : Int) (w : World) (h0 : -9223372036854775808 ≤ n) (h1 : n ≤ 9223372036854775807) (hE : EnvW w) :
    Calls Tryd.prog 59 #[.int .i64 n] w fun e w' => e = .returned (.string (str (Lib.itoa n))) ∧ Below w.heap.size w w' :=
  (Tryd.strconv_Itoa n h0 h1 w hE.pow).mono fun e w' ⟨he, k, os, hw⟩ => ⟨he, hw ▸ Lib.below_grow _ _ (Nat.le_refl _) _ _⟩

theorem itoa_short (n : Int) (h0 : -9223372036854775808 ≤ n) (h1 : n ≤ 9223372036854775807) : (str (Lib.itoa n)).size ≤ 21 := by
  rw [str_size]
  exact Lib.itoa_length_le n h0 h1
theorem str_append (a b : List UInt8) : str a ++ str b = str (a ++ b) := by
  apply ByteArray.ext
  simp [str]
set_option maxHeartbeats 400000 in
theorem rword_calls (n : Int) (w : World) (h0 : -9223372036854775808 ≤ n) (h1 : n ≤ 9223372036854775807) (hE : EnvW w) :
    Calls Tryd.prog 60 #[.int .i64 n] w fun e w' => e = .returned (.string (str (114 :: Lib.itoa n))) ∧ Below w.heap.size w w' := by
  have HC := Lib.hid (itoa_calls n w h0 h1 hE)
  have hl : (str (Lib.itoa n)).size ≤ 21 := itoa_short n h0 h1
  generalize Lib.itoa n = l at HC hl ⊢
  go_enter Tryd.func60, Tryd.ntmps60
  go_wp2_with (go_at_call 59; refine HC.out.mono ?_; rintro e w1 ⟨rfl, hb⟩)
  go_ret
  exact ⟨rfl, hb⟩
set_option maxHeartbeats 400000 in
theorem write_calls (c : Int) (w : World) :
    Calls Tryd.prog 43 #[.int .u8 c] w fun e w' => e = .returned (.func (.func (if c = 73 then 59 else 60)) #[] #[]) ∧ w' = w := by
  by_cases h1 : c = 73
  · rw [if_pos h1]
    subst h1
    go_enter Tryd.func43, Tryd.ntmps43
    go_wp2
    go_ret
    exact ⟨rfl, rfl⟩
  · rw [if_neg h1]
    have k1 : (c == 73) = false := beq_eq_false_iff_ne.mpr h1
    go_enter Tryd.func43, Tryd.ntmps43
    go_wp2
    go_ret
    exact ⟨rfl, rfl⟩
/-- Where an operand of a class lies in an instruction's cells. -/
def fo2 (c : Int) : Nat := if c = 65 then 1 else if c = 66 then 2 else if c = 67 then 3 else 4
set_option maxHeartbeats 400000 in
theorem asm_operand.calls (b : Nat) (c : Int) (w : World) :
    Calls Tryd.prog 44 #[.pointer (some ⟨b, 0, none⟩), .int .u8 c] w fun e w' => e = .returned (.pointer (some ⟨b, fo2 c, none⟩)) ∧ w' = w := by
  have hu48 := Tryd.underlying48
  by_cases h1 : c = 65
  · subst h1
    go_enter Tryd.func44, Tryd.ntmps44
    go_wp2
    go_ret
    exact ⟨rfl, rfl⟩
  · have k1 : (c == 65) = false := beq_eq_false_iff_ne.mpr h1
    by_cases h2 : c = 66
    · subst h2
      go_enter Tryd.func44, Tryd.ntmps44
      go_wp2
      go_ret
      exact ⟨rfl, rfl⟩
    · have k2 : (c == 66) = false := beq_eq_false_iff_ne.mpr h2
      by_cases h3 : c = 67
      · subst h3
        go_enter Tryd.func44, Tryd.ntmps44
        go_wp2
        go_ret
        exact ⟨rfl, rfl⟩
      · have k3 : (c == 67) = false := beq_eq_false_iff_ne.mpr h3
        have k4 : fo2 c = 4 := by unfold fo2; rw [if_neg h1, if_neg h2, if_neg h3]
        have K4 := Lib.hid k4
        clear k4
        go_enter Tryd.func44, Tryd.ntmps44
        go_wp2
        go_ret
        exact ⟨by rw [K4.out]; rfl, rfl⟩

/-! ### the line of an instruction -/
def mnem (op : Int) : List UInt8 := (rowOf op).f0.data.toList
def shapeI (op : Int) : List Int := nums8 (rowOf op).f1
def opWord (i : S48) (c : Int) : List UInt8 := if c = 105 then Lib.itoa i.f4 else 114 :: Lib.itoa (xF i c)
def opWords (i : S48) : List (List UInt8) := (shapeI i.f0).map (opWord i)
def spaced (ws : List (List UInt8)) : List UInt8 := ws.flatMap fun w => 32 :: w
def lineL (i : S48) : List UInt8 := mnem i.f0 ++ spaced (opWords i)
def clsOf (op : Int) : ByteArray := (asm_classes.f 10 op).getD ⟨#[]⟩
def clsGood (op : Int) : Bool := decide (asm_classes.f 10 op = some (clsOf op)) && decide (nums8 (clsOf op) = (shapeI op).map (· - 32)) && decide ((rowOf op).f0.size ≤ 100) && decide ((shapeI op).length ≤ 3) && (shapeI op).all (fun c => decide (c = 97 ∨ c = 98 ∨ c = 99 ∨ c = 105)) && decide (-200000 ≤ (rowOf op).f2) && decide ((rowOf op).f3 ≤ 200000) && decide (isa_Mnemonic.f 20 op = some (rowOf op).f0)
theorem clsGood_all : ((List.range 30).all fun n => clsGood (n : Int)) = true := by kernel_rfl
theorem cls_facts (op : Int) (h0 : 0 ≤ op) (h1 : op < 30) : asm_classes.f 10 op = some (clsOf op) ∧ nums8 (clsOf op) = (shapeI op).map (· - 32) ∧ (rowOf op).f0.size ≤ 100 ∧ (shapeI op).length ≤ 3 ∧ (∀ c ∈ shapeI op, c = 97 ∨ c = 98 ∨ c = 99 ∨ c = 105) ∧ -200000 ≤ (rowOf op).f2 ∧ (rowOf op).f3 ≤ 200000 ∧ isa_Mnemonic.f 20 op = some (rowOf op).f0 := by
  have h := List.all_eq_true.1 clsGood_all op.toNat (by simp; omega)
  rw [show ((op.toNat : Nat) : Int) = op by omega] at h
  simp only [clsGood, Bool.and_eq_true, decide_eq_true_eq, List.all_eq_true] at h
  obtain ⟨⟨⟨⟨⟨⟨⟨a, b⟩, c⟩, d⟩, e⟩, f⟩, g⟩, k⟩ := h
  exact ⟨a, b, c, d, fun c hc => by simpa using e c hc, f, g, k⟩
theorem okF_bound (op : Int) (h0 : 0 ≤ op) (h1 : op < 30) (c x : Int) (h : okF (rowOf op) c x = true) : -200000 ≤ x ∧ x ≤ 200000 := by
  obtain ⟨_, _, _, _, _, f, g, _⟩ := cls_facts op h0 h1
  unfold okF at h
  split at h
  · split at h
    · simp at h; omega
    · simp at h; omega
  · simp at h; omega
theorem valid_parts (i : S48) (h : validB i = true) : i.f0 < 30 ∧ okF (rowOf i.f0) 97 i.f1 = true ∧ okF (rowOf i.f0) 98 i.f2 = true ∧ okF (rowOf i.f0) 99 i.f3 = true ∧ okF (rowOf i.f0) 105 i.f4 = true := by
  unfold validB okTo at h
  simp only [Bool.and_eq_true, decide_eq_true_eq, List.all_eq_true, List.mem_range] at h
  obtain ⟨h1, h2⟩ := h
  exact ⟨h1, h2 0 (by omega), h2 1 (by omega), h2 2 (by omega), h2 3 (by omega)⟩
theorem valid_bound (i : S48) (h0 : 0 ≤ i.f0) (h : validB i = true) (c : Int) : -200000 ≤ xF i c ∧ xF i c ≤ 200000 := by
  obtain ⟨h1, a, b, d, e⟩ := valid_parts i h
  unfold xF
  split
  · exact okF_bound _ h0 h1 _ _ a
  · split
    · exact okF_bound _ h0 h1 _ _ b
    · split
      · exact okF_bound _ h0 h1 _ _ d
      · exact okF_bound _ h0 h1 _ _ e
end Go.Proofs.YtmgafakahbanaaaDoor.Pa

namespace Go.Proofs.YtmgafakahbanaaaDoor.Pa
open Go.RowKit Go.Proofs.YtmgafakahbanaaaDoorW.PrintWords Go.Proofs.YtmgafakahbanaaaDoorW.PrintLast Go.Proofs.YtmgafakahbanaaaDoorW.PrintMore
set_option linter.unusedVariables false
set_option linter.unusedSimpArgs false

theorem spaced_take_succ (ws : List (List UInt8)) (j : Nat) (x : List UInt8) (h : ws[j]? = some x) : spaced (ws.take (j + 1)) = spaced (ws.take j) ++ (32 :: x) := by
  unfold spaced
  rw [List.take_add_one, h, List.flatMap_append]
  simp

/-- What the loop of asm.line keeps: the instruction's cells at B, the classes' bytes at S. -/
structure LInv (w : World) (B S : Nat) (i : S48) (cs : ByteArray) (wr : World) : Prop where
  env : EnvW wr
  below : Below w.heap.size w wr
  fields : ∀ c, wr.cell? ⟨B, fo2 (c - 32), none⟩ = some (.int .i64 (xF i c))
  cs : ∀ j (hj : j < cs.size), wr.cell? ⟨S, j, none⟩ = some (.int .u8 (cs.data.toList.getD j 0).toNat)
  lt : B < wr.heap.size ∧ S < wr.heap.size
theorem LInv.step {w : World} {B S : Nat} {i : S48} {cs : ByteArray} {wr w1 : World} (h : LInv w B S i cs wr) (hb : Below wr.heap.size wr w1) : LInv w B S i cs w1 := by
  obtain ⟨h0, h1, h2, h3, h4, h5⟩ := h
  refine ⟨h0.below hb, below_then h1 h1.size hb, fun c => (hb.cell h4).trans (h2 c), fun j hj => (hb.cell h5).trans (h3 j hj), ?_⟩
  have := hb.size
  omega
theorem fo2_cases (c : Int) : fo2 (c - 32) = if c = 97 then 1 else if c = 98 then 2 else if c = 99 then 3 else 4 := by
  unfold fo2
  have e1 : (c - 32 = 65) = (c = 97) := by simp; omega
  have e2 : (c - 32 = 66) = (c = 98) := by simp; omega
  have e3 : (c - 32 = 67) = (c = 99) := by simp; omega
  simp only [e1, e2, e3]
theorem linv_start (w w2 : World) (i : S48) (cs : ByteArray) (hE : EnvW w)
    (hb : Below (w.alloc (.cells #[.int .u8 i.f0, .int .i64 i.f1, .int .i64 i.f2, .int .i64 i.f3, .int .i64 i.f4] 48)).heap.size (w.alloc (.cells #[.int .u8 i.f0, .int .i64 i.f1, .int .i64 i.f2, .int .i64 i.f3, .int .i64 i.f4] 48)) w2) :
    LInv w w.heap.size w2.heap.size i cs (Lib.bytesWorld w2 5 cs) := by
  have hsz := hb.size
  simp at hsz
  have hB : Below w.heap.size w (Lib.bytesWorld w2 5 cs) := below_then (below_then (below_alloc (Below.refl w.heap.size w) _) (by simp) hb) (by omega) (bytesWorld_below w2 5 cs)
  have hold : ∀ j : Nat, (Lib.bytesWorld w2 5 cs).cell? ⟨w.heap.size, j, none⟩ = (#[.int .u8 i.f0, .int .i64 i.f1, .int .i64 i.f2, .int .i64 i.f3, .int .i64 i.f4] : Array Value)[j]? := by
    intro j
    rw [Lib.bytesWorld_old _ _ _ _ (by simp; omega), hb.cell (p := ⟨w.heap.size, j, none⟩) (by simp)]
    exact World.cell?_alloc_mark _ _ _ _ _
  refine ⟨hE.below hB, hB, fun c => ?_, fun j hj => Lib.bytesWorld_cell w2 5 cs j hj, ?_⟩
  · rw [fo2_cases]
    unfold xF
    by_cases h1 : c = 97
    · rw [if_pos h1, if_pos h1]; exact hold 1
    · rw [if_neg h1, if_neg h1]
      by_cases h2 : c = 98
      · rw [if_pos h2, if_pos h2]; exact hold 2
      · rw [if_neg h2, if_neg h2]
        by_cases h3 : c = 99
        · rw [if_pos h3, if_pos h3]; exact hold 3
        · rw [if_neg h3, if_neg h3]; exact hold 4
  · rw [Lib.bytesWorld_size]
    omega

set_option maxRecDepth 100000 in
set_option maxHeartbeats 1000000 in
theorem line_calls (i : S48) (w : World) (h0 : 0 ≤ i.f0) (hv : validB i = true) (hE : EnvW w) :
    Calls Tryd.prog 26 #[.agg #[.int .u8 i.f0, .int .i64 i.f1, .int .i64 i.f2, .int .i64 i.f3, .int .i64 i.f4]] w fun e w' => e = .returned (.string (str (lineL i))) ∧ Below w.heap.size w w' := by
  have h1 := (valid_parts i hv).1
  obtain ⟨hc1, hc2, hc3, hc4, hc5, _, _, hm⟩ := cls_facts i.f0 h0 h1
  have HM := Lib.hid hm
  have HC1 := Lib.hid hc1
  have HC2 := Lib.hid hc2
  have hsz : (clsOf i.f0).size ≤ 3 := by rw [← nums8_len, hc2]; simpa using hc4
  clear hm hc1 hc2
  have HC5 := Lib.hid hc5
  clear hc5
  have HV := Lib.hid hv
  clear hv
  generalize hcs : clsOf i.f0 = cs at HC1 HC2 hsz
  have HS := Lib.hid hcs
  clear hcs
  have hcv := fun (w : World) => Lib.run_convert_string_bytes (P := Tryd.prog) w 9 36 5 cs Tryd.underlying9 Tryd.underlying36 Tryd.underlying5
  go_enter Tryd.func26, Tryd.ntmps26
  go_wp2_with (first | (go_at_call 41; refine (isa_Mnemonic.calls 20 i.f0 _ _ HM.out).mono ?_; rintro e w1 ⟨rfl, hb1⟩; have k1 := (hb1.cell (p := ⟨w.heap.size, 0, none⟩) (by simp)).trans (World.cell?_alloc_mark _ _ _ _ _)) | (go_at_call 42; refine (asm_classes.calls 10 i.f0 _ _ HC1.out).mono ?_; rintro e w2 ⟨rfl, hd2⟩))
  have hI : LInv w w.heap.size w2.heap.size i cs (Lib.bytesWorld w2 5 cs) := by
    refine linv_start w w2 i cs hE ?_
    obtain ⟨nd, rfl⟩ := hd2.out
    exact pw_below_drewN hb1 nd
  have hlen : (opWords i).length = cs.size := by
    rw [← nums8_len, HC2.out]; simp [opWords]
  have hmn : (rowOf i.f0).f0 = str (mnem i.f0) := rfl
  have HI := Aside0.mk hI
  have HLen := Lib.hid hlen
  have HMn := Lib.hid hmn
  clear hI hlen hmn hb1 hd2 k1 hE
  have HW : Hid (∀ j (hj : j < cs.size), (opWords i)[j]? = some (if (((cs.data.toList.getD j 0).toNat : Int)) = 73 then Lib.itoa (xF i (((cs.data.toList.getD j 0).toNat : Int) + 32)) else 114 :: Lib.itoa (xF i (((cs.data.toList.getD j 0).toNat : Int) + 32)))) := Lib.hid (by
    intro j hj
    have e1 : (nums8 cs)[j]? = some (((cs.data.toList.getD j 0).toNat : Int)) := by
      have hj' : j < cs.data.toList.length := by simpa using hj
      rw [nums8, List.getElem?_map, List.getD_eq_getElem?_getD, List.getElem?_eq_getElem hj']
      rfl
    rw [HC2.out, List.getElem?_map] at e1
    cases hs : (shapeI i.f0)[j]? with
    | none => rw [hs] at e1; simp at e1
    | some c =>
      rw [hs] at e1
      simp only [Option.map_some, Option.some.injEq] at e1
      rw [← e1, opWords, List.getElem?_map, hs]
      simp only [Option.map_some, Option.some.injEq, opWord, show c - 32 + 32 = c by omega]
      by_cases hc : c = 105
      · subst hc
        rw [if_pos rfl, if_pos (by omega)]
        rfl
      · rw [if_neg hc, if_neg (by omega)])
  have hm100 : (mnem i.f0).length ≤ 100 := hc3
  go_loopw [3, 14] (fun s v wr => ∃ (j : Nat) (x : List UInt8), j ≤ cs.size ∧ v = .int .i64 j ∧ s = .string (str x) ∧ Aside0 (x = mnem i.f0 ++ spaced ((opWords i).take j)) ∧ Aside0 (x.length ≤ 200 + 50 * j) ∧ Aside0 (LInv w w.heap.size w2.heap.size i cs wr)) (fun _ v _ => cs.size - (intOf v).toNat)
  case atStart => exact ⟨0, mnem i.f0, by omega, rfl, by rw [← HMn.out], ⟨by simp [spaced]⟩, ⟨by omega⟩, HI⟩
  case round =>
    obtain ⟨j, x, hj, rfl, rfl, HX, HXl, HV2⟩ := hrel
    clear HI
    by_cases hlt : j < cs.size
    · have hw := HW.out j hlt
      have hcell := HV2.out.cs j hlt
      generalize hcc : ((cs.data.toList.getD j 0).toNat : Int) = c at hw hcell
      have hf := HV2.out.fields (c + 32)
      rw [show c + 32 - 32 = c by omega] at hf
      have hbd := valid_bound i h0 HV.out (c + 32)
      generalize xF i (c + 32) = y at hw hf hbd
      have hsx : (str x).size ≤ 1000 := by rw [str_size]; have := HXl.out; omega
      have hit := itoa_short y (by omega) (by omega)
      have HE := Aside0.mk HV2.out.env
      by_cases h73 : c = 73
      · subst h73
        rw [if_pos rfl] at hw
        have HWj := Lib.hid hw
        clear hw hcc
        go_wp2_with (first | (go_at_call 43; refine (write_calls 73 _).mono ?_; rintro e w' ⟨rfl, rfl⟩) | (go_at_call 44; refine (asm_operand.calls _ _ _).mono ?_; rintro e w' ⟨rfl, rfl⟩) | (go_at_call 59; refine (itoa_calls y _ (by omega) (by omega) HE.out).mono ?_; rintro e w3 ⟨rfl, hb3⟩))
        go_roundw
        case rel => exact ⟨j + 1, x ++ (32 :: Lib.itoa y), by omega, by go_num, congrArg Value.string (by rw [show (⟨#[32]⟩ : ByteArray) = str [32] from rfl, str_append, str_append]; rfl), ⟨by rw [HX.out, spaced_take_succ _ _ _ HWj.out, List.append_assoc]⟩, ⟨by have := HXl.out; rw [str_size] at hit; simp; omega⟩, ⟨HV2.out.step hb3⟩⟩
        case measure => simp [intOf]; omega
      · have hit2 : (str (114 :: Lib.itoa y)).size ≤ 22 := by rw [str_size] at hit ⊢; simp; omega
        rw [if_neg h73] at hw
        have HWj := Lib.hid hw
        have hw1 := fun w => write_calls c w
        rw [if_neg h73] at hw1
        have HW1 := Lib.hid hw1
        clear hw hcc hw1
        go_wp2_with (first | (go_at_call 43; refine (HW1.out _).mono ?_; rintro e w' ⟨rfl, rfl⟩) | (go_at_call 44; refine (asm_operand.calls _ _ _).mono ?_; rintro e w' ⟨rfl, rfl⟩) | (go_at_call 60; refine (rword_calls y _ (by omega) (by omega) HE.out).mono ?_; rintro e w3 ⟨rfl, hb3⟩))
        go_roundw
        case rel => exact ⟨j + 1, x ++ (32 :: 114 :: Lib.itoa y), by omega, by go_num, congrArg Value.string (by rw [show (⟨#[32]⟩ : ByteArray) = str [32] from rfl, str_append, str_append]; rfl), ⟨by rw [HX.out, spaced_take_succ _ _ _ HWj.out, List.append_assoc]⟩, ⟨by have := HXl.out; rw [str_size] at hit; simp; omega⟩, ⟨HV2.out.step hb3⟩⟩
        case measure => simp [intOf]; omega
    · have hj4 : j = cs.size := by omega
      subst hj4
      go_wp2
      go_ret
      exact ⟨congrArg (fun z => Ending.returned (.string (str z))) (by rw [HX.out, List.take_of_length_le (by rw [HLen.out]; omega)]; rfl), HV2.out.below⟩
end Go.Proofs.YtmgafakahbanaaaDoor.Pa

namespace Go.Proofs.YtmgafakahbanaaaDoor.Pa
open Go.RowKit Go.Proofs.YtmgafakahbanaaaDoorW.PrintWords Go.Proofs.YtmgafakahbanaaaDoorW.PrintLast Go.Proofs.YtmgafakahbanaaaDoorW.PrintMore
set_option linter.unusedVariables false
set_option linter.unusedSimpArgs false

/-- An owned row of strings, its block and its cells. -/
theorem strs_form {e : Nat} {w : World} {base : Nat} {ok : Nat → Prop} {v : Value} {xs : List ByteArray} (h : Kd.R Kd.string e w base ok v xs) (h0 : 0 < xs.length) :
    ∃ g c, v = .slice (some ⟨g, 0, none⟩) xs.length c ∧ xs.length ≤ c ∧ base ≤ g ∧ g < w.heap.size ∧ ∀ j x, xs[j]? = some x → w.cell? ⟨g, j, none⟩ = some (.string x) := by
  obtain ⟨_, inner, ho, hr⟩ := h
  rcases ho.2 with ⟨rfl, h2⟩ | ⟨g, cap, cur, rfl, hb, hh, hnc, _⟩
  · have := hr.1
    rw [h2] at this
    simp [Kd.string, Kd.scalar] at this
    omega
  · refine ⟨g, cap, rfl, hnc, hb, (Array.getElem?_eq_some_iff.1 hh).1, fun j x hj => ?_⟩
    have h3 := hr.2 j x hj
    have h4 : inner[j]? = some (.string x) := by
      have e1 : List.take 1 (List.drop j inner) = [.string x] := by simpa [Kd.string, Kd.scalar] using h3
      have := congrArg (·[0]?) e1
      simpa [List.getElem?_take] using this
    have := ho.cells (g := g) rfl j _ h4
    rwa [add_plain] at this
def namesTab : List ByteArray := (ontimeref05_Names.f).getD []
theorem names_eq : ontimeref05_Names.f = some namesTab := by kernel_rfl
theorem namesTab_len : namesTab.length = 30 := by kernel_rfl
theorem names_rows : namesTab = rowTab.map (·.f0) := by kernel_rfl
theorem names_calls (w : World) : Calls Tryd.prog 46 #[] w fun e w' => ∃ g c, e = .returned (.slice (some ⟨g, 0, none⟩) 30 c) ∧ Aside0 (30 ≤ c ∧ w.heap.size ≤ g ∧ g < w'.heap.size ∧ ∀ op : Int, 0 ≤ op → op < 30 → w'.cell? ⟨g, op.toNat, none⟩ = some (.string (rowOf op).f0)) ∧ Below w.heap.size w w' :=
  (ontimeref05_Names.calls _ w names_eq).mono fun e w' ⟨v, he, hR, hb⟩ => by
    obtain ⟨g, c, hv, hc, hg, hl, hcell⟩ := strs_form hR (by rw [namesTab_len]; omega)
    rw [namesTab_len] at hv hc
    refine ⟨g, c, by rw [he, hv], ⟨hc, hg, hl, fun op h0 h1 => hcell _ _ ?_⟩, hb⟩
    have hl2 := rowTab_len
    rw [names_rows, List.getElem?_map, List.getElem?_eq_getElem (by omega)]
    simp [rowOf, rd_T76, List.getD, List.getElem?_eq_getElem (show op.toNat < rowTab.length by omega)]

end Go.Proofs.YtmgafakahbanaaaDoor.Pa

namespace Go.Proofs.YtmgafakahbanaaaDoor.Pa
open Go.RowKit Go.Proofs.YtmgafakahbanaaaDoorW.PrintWords Go.Proofs.YtmgafakahbanaaaDoorW.PrintLast Go.Proofs.YtmgafakahbanaaaDoorW.PrintMore
set_option linter.unusedVariables false
set_option linter.unusedSimpArgs false

theorem digit_extract (d : Nat) (h : d < 10) : (⟨#[48, 49, 50, 51, 52, 53, 54, 55, 56, 57]⟩ : ByteArray).extract d (d + 1) = str [UInt8.ofNat (48 + d)] := by
  rcases (by omega : d = 0 ∨ d = 1 ∨ d = 2 ∨ d = 3 ∨ d = 4 ∨ d = 5 ∨ d = 6 ∨ d = 7 ∨ d = 8 ∨ d = 9) with rfl | rfl | rfl | rfl | rfl | rfl | rfl | rfl | rfl | rfl <;> rfl
theorem decDigits_le (u : Nat) (h : u < 18446744073709551616) : (Lib.decDigits u).length ≤ 20 := by
  rw [Lib.decDigits_length]
  exact Lib.nDigits_le20 u h
theorem decimal_nat : ∀ (k u : Nat), 1 ≤ k → u < 10 ^ k → u ≤ 4611686018427387904 → ontimeref05_Decimal.f k (u : Int) = some (str (Lib.decDigits u)) := by
  intro k
  induction k with
  | zero => intro u hk; omega
  | succ k ih =>
    intro u _ hu hmax
    have e1 : Int.tmod (u : Int) 10 = ((u % 10 : Nat) : Int) := by rw [Int.tmod_eq_emod_of_nonneg (by omega)]; omega
    have e2 : wrap64 (((u % 10 : Nat) : Int) + 1) = ((u % 10 + 1 : Nat) : Int) := by unfold wrap64; omega
    simp only [ontimeref05_Decimal.f]
    rw [if_neg (by omega), e1, e2, if_pos (by omega), if_pos (by omega), if_pos (by omega)]
    simp only [Int.toNat_natCast]
    rw [digit_extract _ (by omega)]
    by_cases h10 : u < 10
    · rw [if_pos (by omega), Lib.decDigits, dif_pos h10, show u % 10 = u by omega]
    · have e3 : wrap64 (Int.tdiv (u : Int) 10) = ((u / 10 : Nat) : Int) := by
        rw [Int.tdiv_eq_ediv_of_nonneg (by omega)]
        unfold wrap64
        omega
      have hk : 1 ≤ k := by
        rcases Nat.eq_zero_or_pos k with rfl | h
        · simp at hu; omega
        · exact h
      rw [if_neg (by omega), e3, ih (u / 10) hk (by rw [Nat.pow_succ] at hu; omega) (by omega)]
      simp only [Option.bind_some]
      have hl := decDigits_le (u / 10) (by omega)
      rw [if_pos (by rw [str_size, str_size]; simp; omega), str_append]
      conv => rhs; rw [Lib.decDigits, dif_neg h10]
theorem decimal_neg (k u : Nat) (hk : 1 ≤ k) (hu : u < 10 ^ k) (hm : u ≤ 4611686018427387904) (h1 : 1 ≤ u) : ontimeref05_Decimal.f (k + 1) (-(u : Int)) = some (str (Lib.itoa (-(u : Int)))) := by
  have e : wrap64 (- -(u : Int)) = (u : Int) := by unfold wrap64; omega
  simp only [ontimeref05_Decimal.f]
  rw [if_pos (by omega), e, decimal_nat k u hk hu hm, Lib.itoa_neg u h1]
  simp only [Option.bind_some]
  have hl := decDigits_le u (by omega)
  rw [if_pos (by rw [str_size]; omega), show (⟨#[45]⟩ : ByteArray) = str [45] from rfl, str_append]
  rfl
theorem decimal_eval (n : Int) (h0 : -1000000000 ≤ n) (h1 : n ≤ 1000000000) : ontimeref05_Decimal.f 12 n = some (str (Lib.itoa n)) := by
  by_cases hn : n < 0
  · obtain ⟨u, rfl⟩ : ∃ u : Nat, n = -(u : Int) := ⟨n.natAbs, by omega⟩
    exact decimal_neg 11 u (by omega) (by omega) (by omega) (by omega)
  · obtain ⟨u, rfl⟩ : ∃ u : Nat, n = (u : Int) := ⟨n.toNat, by omega⟩
    rw [decimal_nat 12 u (by omega) (by omega) (by omega), Lib.itoa_nonneg]

theorem shapes_all : ((List.range 30).all fun n => decide (ontimeref05_Shape.f 10 (n : Int) = some (rowOf (n : Int)).f1)) = true := by kernel_rfl
theorem shape_eval (op : Int) (h0 : 0 ≤ op) (h1 : op < 30) : ontimeref05_Shape.f 10 op = some (rowOf op).f1 := by
  have h := List.all_eq_true.1 shapes_all op.toNat (by simp; omega)
  rw [show ((op.toNat : Nat) : Int) = op by omega] at h
  simpa using h
theorem dec_calls (n : Int) (w : World) (h0 : -1000000000 ≤ n) (h1 : n ≤ 1000000000) : Calls Tryd.prog 48 #[.int .i64 n] w fun e w' => e = .returned (.string (str (Lib.itoa n))) ∧ Below w.heap.size w w' :=
  (ontimeref05_Decimal.calls 12 n _ w (decimal_eval n h0 h1)).mono fun e w' ⟨he, hd⟩ => ⟨he, hd.below⟩

/-- What the loop of the reference's Line keeps: the instruction's cells at B. -/
structure RInv (w : World) (B : Nat) (i : S48) (wr : World) : Prop where
  below : Below w.heap.size w wr
  f1 : wr.cell? ⟨B, 1, none⟩ = some (.int .i64 i.f1)
  f2 : wr.cell? ⟨B, 2, none⟩ = some (.int .i64 i.f2)
  f3 : wr.cell? ⟨B, 3, none⟩ = some (.int .i64 i.f3)
  f4 : wr.cell? ⟨B, 4, none⟩ = some (.int .i64 i.f4)
  lt : B < wr.heap.size
theorem RInv.step {w : World} {B : Nat} {i : S48} {wr w1 : World} (h : RInv w B i wr) (hb : Below wr.heap.size wr w1) : RInv w B i w1 := by
  obtain ⟨h1, h2, h3, h4, h5, h6⟩ := h
  exact ⟨below_then h1 h1.size hb, (hb.cell h6).trans h2, (hb.cell h6).trans h3, (hb.cell h6).trans h4, (hb.cell h6).trans h5, by have := hb.size; omega⟩
theorem rinv_start (w w1 : World) (i : S48)
    (hb : Below (w.alloc (.cells #[.int .u8 i.f0, .int .i64 i.f1, .int .i64 i.f2, .int .i64 i.f3, .int .i64 i.f4] 48)).heap.size (w.alloc (.cells #[.int .u8 i.f0, .int .i64 i.f1, .int .i64 i.f2, .int .i64 i.f3, .int .i64 i.f4] 48)) w1) :
    RInv w w.heap.size i w1 := by
  have hsz := hb.size
  simp at hsz
  have hold : ∀ j : Nat, w1.cell? ⟨w.heap.size, j, none⟩ = (#[.int .u8 i.f0, .int .i64 i.f1, .int .i64 i.f2, .int .i64 i.f3, .int .i64 i.f4] : Array Value)[j]? := by
    intro j
    rw [hb.cell (p := ⟨w.heap.size, j, none⟩) (by simp)]
    exact World.cell?_alloc_mark _ _ _ _ _
  exact ⟨below_then (below_alloc (Below.refl w.heap.size w) _) (by simp) hb, hold 1, hold 2, hold 3, hold 4, by omega⟩
theorem valid_f (i : S48) (h0 : 0 ≤ i.f0) (h : validB i = true) : (-200000 ≤ i.f1 ∧ i.f1 ≤ 200000) ∧ (-200000 ≤ i.f2 ∧ i.f2 ≤ 200000) ∧ (-200000 ≤ i.f3 ∧ i.f3 ≤ 200000) ∧ (-200000 ≤ i.f4 ∧ i.f4 ≤ 200000) :=
  ⟨valid_bound i h0 h 97, valid_bound i h0 h 98, valid_bound i h0 h 99, valid_bound i h0 h 105⟩

set_option maxRecDepth 100000 in
set_option maxHeartbeats 2000000 in
theorem refLine_calls (i : S48) (w : World) (h0 : 0 ≤ i.f0) (hv : validB i = true) :
    Calls Tryd.prog 30 #[.agg #[.int .u8 i.f0, .int .i64 i.f1, .int .i64 i.f2, .int .i64 i.f3, .int .i64 i.f4]] w fun e w' => e = .returned (.string (str (lineL i))) ∧ Below w.heap.size w w' := by
  have h1 := (valid_parts i hv).1
  obtain ⟨⟨b10, b11⟩, ⟨b20, b21⟩, ⟨b30, b31⟩, ⟨b40, b41⟩⟩ := valid_f i h0 hv
  obtain ⟨_, _, hc3, hc4, hc5, _, _, _⟩ := cls_facts i.f0 h0 h1
  have HSh := Lib.hid (shape_eval i.f0 h0 h1)
  clear hv
  have hm100 : (mnem i.f0).length ≤ 100 := hc3
  have hsz : (rowOf i.f0).f1.size ≤ 3 := by rw [← nums8_len]; exact hc4
  have HW : Hid (∀ j (hj : j < (rowOf i.f0).f1.size), ∃ c : Int, bt (rowOf i.f0).f1 j = c ∧ (c = 97 ∨ c = 98 ∨ c = 99 ∨ c = 105) ∧ (opWords i)[j]? = some (opWord i c)) := Lib.hid (by
    intro j hj
    have hj' : j < (rowOf i.f0).f1.data.toList.length := by simpa using hj
    have e1 : (shapeI i.f0)[j]? = some (bt (rowOf i.f0).f1 j) := by
      rw [shapeI, nums8, List.getElem?_map, List.getElem?_eq_getElem hj']
      simp [bt, hj]
      rfl
    exact ⟨_, rfl, hc5 _ (List.mem_of_getElem? e1), by rw [opWords, List.getElem?_map, e1]; rfl⟩)
  clear hc3 hc4 hc5
  have hmn : (rowOf i.f0).f0 = str (mnem i.f0) := rfl
  have HMn := Lib.hid hmn
  have hlen : (opWords i).length = (rowOf i.f0).f1.size := by
    rw [← nums8_len]; simp [opWords, shapeI]
  have HLen := Lib.hid hlen
  clear hmn hlen
  generalize (rowOf i.f0).f1 = sh at HSh hsz HW HLen
  go_enter Tryd.func30, Tryd.ntmps30
  go_wp2
  go_region_with (go_at_call 46; refine (names_calls _).mono ?_; rintro e w1 ⟨g, c, rfl, ha, hb⟩; have hbc := hb.cell (p := ⟨w.heap.size, 0, none⟩) (by simp); have hcc := ha.out.2.2.2 i.f0 h0 h1)
  all_goals
    go_wp2_with (go_at_call 47; refine (ontimeref05_Shape.calls 10 i.f0 _ _ HSh.out).mono ?_; rintro e w2 ⟨rfl, hd2⟩)
    have hI : RInv w w.heap.size i w2 := by
      refine rinv_start w w2 i ?_
      obtain ⟨nd, rfl⟩ := hd2.out
      exact pw_below_drewN (by first | exact hb | exact (pw_below_drewN (Below.refl _ _) _).trans hb) nd
    have HI := Aside0.mk hI
    clear hI hd2 hbc hcc ha hb
    go_loopw [3, 5] (fun s v wr => ∃ (j : Nat) (x : List UInt8), j ≤ sh.size ∧ v = .int .i64 j ∧ s = .string (str x) ∧ Aside0 (x = mnem i.f0 ++ spaced ((opWords i).take j)) ∧ Aside0 (x.length ≤ 200 + 50 * j) ∧ Aside0 (RInv w w.heap.size i wr)) (fun _ v _ => sh.size - (intOf v).toNat)
    case atStart => exact ⟨0, mnem i.f0, by omega, rfl, by rw [← HMn.out], ⟨by simp [spaced]⟩, ⟨by omega⟩, HI⟩
    case round =>
      obtain ⟨j, x, hj, rfl, rfl, HX, HXl, HV2⟩ := hrel
      clear HI
      by_cases hlt : j < sh.size
      · obtain ⟨c, hbt, hcs, hw⟩ := HW.out j hlt
        have hx7 : ((sh[j]'hlt).toNat : Int) = c := (bt_at sh (j : Int) hlt).trans hbt
        have hsx : (str x).size ≤ 1000 := by rw [str_size]; have := HXl.out; omega
        clear hbt
        rcases hcs with rfl | rfl | rfl | rfl
        · have hc0 := HV2.out.f1
          have hbf1 : -1000000000 ≤ i.f1 := by omega
          have hcf1 : i.f1 ≤ 1000000000 := by omega
          have hwd : opWord i 97 = 114 :: Lib.itoa i.f1 := rfl
          rw [hwd] at hw
          have HWj := Lib.hid hw
          have hit := itoa_short i.f1 (by omega) (by omega)
          clear hw hwd
          go_wp2_with (go_at_call 48; refine (dec_calls i.f1 _ hbf1 hcf1).mono ?_; rintro e w3 ⟨rfl, hb3⟩)
          go_roundw
          case rel => exact ⟨j + 1, x ++ (32 :: 114 :: Lib.itoa i.f1), by omega, by go_num, congrArg Value.string (by rw [show (⟨#[32, 114]⟩ : ByteArray) = str [32, 114] from rfl, str_append, str_append]; simp), ⟨by rw [HX.out, spaced_take_succ _ _ _ HWj.out, List.append_assoc]⟩, ⟨by have := HXl.out; rw [str_size] at hit; simp; omega⟩, ⟨HV2.out.step hb3⟩⟩
          case measure => simp [intOf]; omega
        · have hc0 := HV2.out.f2
          have hbf2 : -1000000000 ≤ i.f2 := by omega
          have hcf2 : i.f2 ≤ 1000000000 := by omega
          have hwd : opWord i 98 = 114 :: Lib.itoa i.f2 := rfl
          rw [hwd] at hw
          have HWj := Lib.hid hw
          have hit := itoa_short i.f2 (by omega) (by omega)
          clear hw hwd
          go_wp2_with (go_at_call 48; refine (dec_calls i.f2 _ hbf2 hcf2).mono ?_; rintro e w3 ⟨rfl, hb3⟩)
          go_roundw
          case rel => exact ⟨j + 1, x ++ (32 :: 114 :: Lib.itoa i.f2), by omega, by go_num, congrArg Value.string (by rw [show (⟨#[32, 114]⟩ : ByteArray) = str [32, 114] from rfl, str_append, str_append]; simp), ⟨by rw [HX.out, spaced_take_succ _ _ _ HWj.out, List.append_assoc]⟩, ⟨by have := HXl.out; rw [str_size] at hit; simp; omega⟩, ⟨HV2.out.step hb3⟩⟩
          case measure => simp [intOf]; omega
        · have hc0 := HV2.out.f3
          have hbf3 : -1000000000 ≤ i.f3 := by omega
          have hcf3 : i.f3 ≤ 1000000000 := by omega
          have hwd : opWord i 99 = 114 :: Lib.itoa i.f3 := rfl
          rw [hwd] at hw
          have HWj := Lib.hid hw
          have hit := itoa_short i.f3 (by omega) (by omega)
          clear hw hwd
          go_wp2_with (go_at_call 48; refine (dec_calls i.f3 _ hbf3 hcf3).mono ?_; rintro e w3 ⟨rfl, hb3⟩)
          go_roundw
          case rel => exact ⟨j + 1, x ++ (32 :: 114 :: Lib.itoa i.f3), by omega, by go_num, congrArg Value.string (by rw [show (⟨#[32, 114]⟩ : ByteArray) = str [32, 114] from rfl, str_append, str_append]; simp), ⟨by rw [HX.out, spaced_take_succ _ _ _ HWj.out, List.append_assoc]⟩, ⟨by have := HXl.out; rw [str_size] at hit; simp; omega⟩, ⟨HV2.out.step hb3⟩⟩
          case measure => simp [intOf]; omega
        · have hc0 := HV2.out.f4
          have hbf4 : -1000000000 ≤ i.f4 := by omega
          have hcf4 : i.f4 ≤ 1000000000 := by omega
          have hwd : opWord i 105 = Lib.itoa i.f4 := rfl
          rw [hwd] at hw
          have HWj := Lib.hid hw
          have hit := itoa_short i.f4 (by omega) (by omega)
          clear hw hwd
          go_wp2_with (go_at_call 48; refine (dec_calls i.f4 _ hbf4 hcf4).mono ?_; rintro e w3 ⟨rfl, hb3⟩)
          go_roundw
          case rel => exact ⟨j + 1, x ++ (32 :: Lib.itoa i.f4), by omega, by go_num, congrArg Value.string (by rw [show (⟨#[32]⟩ : ByteArray) = str [32] from rfl, str_append, str_append]; simp), ⟨by rw [HX.out, spaced_take_succ _ _ _ HWj.out, List.append_assoc]⟩, ⟨by have := HXl.out; rw [str_size] at hit; simp; omega⟩, ⟨HV2.out.step hb3⟩⟩
          case measure => simp [intOf]; omega
      · have hj4 : j = sh.size := by omega
        subst hj4
        go_wp2
        go_ret
        exact ⟨congrArg (fun z => Ending.returned (.string (str z))) (by rw [HX.out, List.take_of_length_le (by rw [HLen.out]; omega)]; rfl), HV2.out.below⟩
end Go.Proofs.YtmgafakahbanaaaDoor.Pa

namespace Go.Proofs.YtmgafakahbanaaaDoor.Pa
open Go.RowKit Go.Proofs.YtmgafakahbanaaaDoorW.PrintWords Go.Proofs.YtmgafakahbanaaaDoorW.PrintLast Go.Proofs.YtmgafakahbanaaaDoorW.PrintMore
set_option linter.unusedVariables false
set_option linter.unusedSimpArgs false

def regB (x : Int) (u : Bool) : Bool := if u = true then decide (0 ≤ x) && decide (x < 16) else decide (x = 0)
theorem reg_eval (x : Int) (u : Bool) : ontimeref04_reg.f x u = some (regB x u) := by
  unfold ontimeref04_reg.f regB
  by_cases hu : u = true
  · rw [if_pos hu, if_pos hu]
    by_cases h : x ≥ 0
    · rw [if_pos h]; simp; omega
    · rw [if_neg h]; simp; omega
  · rw [if_neg hu, if_neg hu]; simp; exact Bool.beq_eq_decide_eq x 0
theorem reg_calls (x : Int) (u : Bool) (w : World) : Calls Tryd.prog 71 #[.int .i64 x, .bool u] w fun e w' => e = .returned (.bool (regB x u)) ∧ ∃ n, w' = w.drewN n :=
  (ontimeref04_reg.calls x u _ w (reg_eval x u)).mono fun e w' ⟨he, hd⟩ => ⟨he, hd.out⟩
def fmtOf (op : Int) : ByteArray × Int × Int × Bool := (ontimeref04_Format.f 20 op).getD (⟨#[]⟩, 0, 0, false)
def fmtGood (op : Int) : Bool := decide (ontimeref04_Format.f 20 op = some (fmtOf op)) && (fmtOf op).2.2.2 && (hasB (rowOf op).f1 97 == decide (0 < (fmtOf op).1.size)) && (hasB (rowOf op).f1 98 == decide (1 < (fmtOf op).1.size)) && (hasB (rowOf op).f1 99 == decide (2 < (fmtOf op).1.size)) && (hasB (rowOf op).f1 105 == decide ((fmtOf op).2.1 ≤ (fmtOf op).2.2.1)) && (!(hasB (rowOf op).f1 105) || (decide ((rowOf op).f2 = (fmtOf op).2.1) && decide ((rowOf op).f3 = (fmtOf op).2.2.1)))
theorem fmtGood_all : ((List.range 30).all fun n => fmtGood (n : Int)) = true := by kernel_rfl
theorem fmtBad_all : ((List.range 226).all fun n => decide (ontimeref04_Format.f 20 ((n + 30 : Nat) : Int) = some (⟨#[]⟩, 1, 0, false))) = true := by kernel_rfl
theorem fmt_bad (op : Int) (h0 : 30 ≤ op) (h1 : op ≤ 255) : ontimeref04_Format.f 20 op = some (⟨#[]⟩, 1, 0, false) := by
  have h := List.all_eq_true.1 fmtBad_all (op.toNat - 30) (by simp; omega)
  rw [show ((op.toNat - 30 + 30 : Nat) : Int) = op by omega] at h
  simpa using h
theorem fmt_good (op : Int) (h0 : 0 ≤ op) (h1 : op < 30) : ∃ fs lo hi, ontimeref04_Format.f 20 op = some (fs, lo, hi, true) ∧ ∀ i : S48, i.f0 = op → validB i = (regB i.f1 (decide (0 < fs.size)) && (regB i.f2 (decide (1 < fs.size)) && (regB i.f3 (decide (2 < fs.size)) && (if lo ≤ hi then decide (lo ≤ i.f4) && decide (i.f4 ≤ hi) else decide (i.f4 = 0))))) := by
  have h := List.all_eq_true.1 fmtGood_all op.toNat (by simp; omega)
  rw [show ((op.toNat : Nat) : Int) = op by omega] at h
  simp only [fmtGood, Bool.and_eq_true, decide_eq_true_eq, beq_iff_eq] at h
  obtain ⟨⟨⟨⟨⟨⟨ha, hb⟩, h97⟩, h98⟩, h99⟩, h105⟩, hr⟩ := h
  refine ⟨(fmtOf op).1, (fmtOf op).2.1, (fmtOf op).2.2.1, by rw [ha]; conv => rhs; rw [← hb], fun i hi => ?_⟩
  have e16 : ∀ x : Int, decide (x ≤ 15) = decide (x < 16) := fun x => by simp; omega
  unfold validB okTo
  rw [hi]
  have h30 : decide (op < 30) = true := by simpa using h1
  rw [h30]
  have e : List.range 4 = [0, 1, 2, 3] := rfl
  rw [e]
  simp only [List.all_cons, List.all_nil, Bool.and_true, Bool.true_and]
  have c0 : csF 0 = 97 := rfl
  have c1 : csF 1 = 98 := rfl
  have c2 : csF 2 = 99 := rfl
  have c3 : csF 3 = 105 := rfl
  have x0 : xF i 97 = i.f1 := rfl
  have x1 : xF i 98 = i.f2 := rfl
  have x2 : xF i 99 = i.f3 := rfl
  have x3 : xF i 105 = i.f4 := rfl
  rw [c0, c1, c2, c3, x0, x1, x2, x3]
  unfold okF regB
  rw [h97, h98, h99, h105]
  simp only [e16]
  rw [if_neg (show ¬ ((97 : Int) = 105) by decide), if_neg (show ¬ ((98 : Int) = 105) by decide), if_neg (show ¬ ((99 : Int) = 105) by decide)]
  simp only [if_true]
  by_cases hle : (fmtOf op).2.1 ≤ (fmtOf op).2.2.1
  · have : hasB (rowOf op).f1 105 = true := by rw [h105]; simpa using hle
    rw [this] at hr
    simp at hr
    rw [hr.1, hr.2]
    simp [hle]
  · simp [hle]

theorem quiet_add {P : Program} {f : FuncId} {args : Array Value} {w : World} {a n : Nat} {v : Value}
    (h : Calls P f args (w.drewN (a + n)) fun e w' => e = .returned v ∧ ∃ m, w' = (w.drewN (a + n)).drewN m) :
    Calls P f args (w.drewN (a + n)) fun e w'' => e = .returned v ∧ ∃ m, w'' = w.drewN (a + m) :=
  h.mono fun _ _ ⟨he, m, hm⟩ => ⟨he, n + m, by rw [hm, World.drewN_drewN, Nat.add_assoc]⟩
theorem regB_cases (x : Int) (u : Bool) : regB x u = true ∨ regB x u = false := by cases regB x u <;> simp
set_option maxRecDepth 100000 in
set_option maxHeartbeats 2000000 in
theorem valid4_yes (i : S48) (w : World) (h0 : 0 ≤ i.f0) (h1 : i.f0 < 30) :
    Calls Tryd.prog 56 #[.agg #[.int .u8 i.f0, .int .i64 i.f1, .int .i64 i.f2, .int .i64 i.f3, .int .i64 i.f4]] w fun e w' => e = .returned (.bool (validB i)) ∧ Below w.heap.size w w' := by
  obtain ⟨fs, lo, hi, hf, hvv⟩ := fmt_good i.f0 h0 h1
  have hv := hvv i rfl
  have HF := Lib.hid hf
  clear hf hvv
  have hB := Aside0.mk (below_alloc (Below.refl w.heap.size w) (.cells #[.int .u8 i.f0, .int .i64 i.f1, .int .i64 i.f2, .int .i64 i.f3, .int .i64 i.f4] 48))
  have ei2 : regB i.f2 (decide ((1 : Int) < (fs.size : Int))) = regB i.f2 (decide (1 < fs.size)) := congrArg _ (decide_eq_decide.mpr (by omega))
  have ei3 : regB i.f3 (decide ((2 : Int) < (fs.size : Int))) = regB i.f3 (decide (2 < fs.size)) := congrArg _ (decide_eq_decide.mpr (by omega))
  rcases regB_cases i.f1 (decide (0 < fs.size)) with r1 | r1
  · rcases regB_cases i.f2 (decide (1 < fs.size)) with r2 | r2
    · rcases regB_cases i.f3 (decide (2 < fs.size)) with r3 | r3
      · rw [r1, r2, r3] at hv
        rw [r2] at ei2
        rw [r3] at ei3
        simp only [Bool.true_and] at hv
        by_cases g1 : lo ≤ hi
        · rw [if_pos g1] at hv
          by_cases g2 : lo ≤ i.f4
          · have e2 : decide (lo ≤ i.f4) = true := by simpa using g2
            rw [e2, Bool.true_and] at hv
            have HV := Lib.hid hv
            clear hv
            go_enter Tryd.func56, Tryd.ntmps56
            go_wp2_with (first | (go_at_call 70; refine (ontimeref04_Format.calls 20 i.f0 _ _ _ _ _ HF.out).mono ?_; rintro e w1 ⟨rfl, ⟨n1, rfl⟩⟩) | (go_at_call 71; refine (reg_calls _ _ _).mono ?_; rintro e w2 ⟨rfl, n2, rfl⟩))
            go_ret
            exact ⟨by rw [HV.out]; rfl, by repeat (first | (with_reducible exact hB.out) | apply pw_below_drewN)⟩
          · have e2 : decide (lo ≤ i.f4) = false := by simpa using g2
            rw [e2, Bool.false_and] at hv
            have HV := Lib.hid hv
            clear hv
            go_enter Tryd.func56, Tryd.ntmps56
            go_wp2_with (first | (go_at_call 70; refine (ontimeref04_Format.calls 20 i.f0 _ _ _ _ _ HF.out).mono ?_; rintro e w1 ⟨rfl, ⟨n1, rfl⟩⟩) | (go_at_call 71; refine (reg_calls _ _ _).mono ?_; rintro e w2 ⟨rfl, n2, rfl⟩))
            go_ret
            exact ⟨by rw [HV.out]; rfl, by repeat (first | (with_reducible exact hB.out) | apply pw_below_drewN)⟩
        · rw [if_neg g1] at hv
          have e3 : (i.f4 == 0) = decide (i.f4 = 0) := Bool.beq_eq_decide_eq _ _
          have E3 := Lib.hid e3
          clear e3
          have HV := Lib.hid hv
          clear hv
          go_enter Tryd.func56, Tryd.ntmps56
          go_wp2_with (first | (go_at_call 70; refine (ontimeref04_Format.calls 20 i.f0 _ _ _ _ _ HF.out).mono ?_; rintro e w1 ⟨rfl, ⟨n1, rfl⟩⟩) | (go_at_call 71; refine (reg_calls _ _ _).mono ?_; rintro e w2 ⟨rfl, n2, rfl⟩))
          go_ret
          exact ⟨by rw [HV.out, ← E3.out]; rfl, by repeat (first | (with_reducible exact hB.out) | apply pw_below_drewN)⟩
      · rw [r1, r2, r3] at hv
        rw [r2] at ei2
        rw [r3] at ei3
        simp only [Bool.true_and, Bool.false_and] at hv
        have HV := Lib.hid hv
        clear hv
        go_enter Tryd.func56, Tryd.ntmps56
        go_wp2_with (first | (go_at_call 70; refine (ontimeref04_Format.calls 20 i.f0 _ _ _ _ _ HF.out).mono ?_; rintro e w1 ⟨rfl, ⟨n1, rfl⟩⟩) | (go_at_call 71; refine (reg_calls _ _ _).mono ?_; rintro e w2 ⟨rfl, n2, rfl⟩))
        go_ret
        exact ⟨by rw [HV.out]; rfl, by repeat (first | (with_reducible exact hB.out) | apply pw_below_drewN)⟩
    · rw [r1, r2] at hv
      rw [r2] at ei2
      simp only [Bool.true_and, Bool.false_and] at hv
      have HV := Lib.hid hv
      clear hv
      go_enter Tryd.func56, Tryd.ntmps56
      go_wp2_with (first | (go_at_call 70; refine (ontimeref04_Format.calls 20 i.f0 _ _ _ _ _ HF.out).mono ?_; rintro e w1 ⟨rfl, ⟨n1, rfl⟩⟩) | (go_at_call 71; refine (reg_calls _ _ _).mono ?_; rintro e w2 ⟨rfl, n2, rfl⟩))
      go_ret
      exact ⟨by rw [HV.out]; rfl, by repeat (first | (with_reducible exact hB.out) | apply pw_below_drewN)⟩
  · rw [r1] at hv
    simp only [Bool.true_and, Bool.false_and] at hv
    have HV := Lib.hid hv
    clear hv
    go_enter Tryd.func56, Tryd.ntmps56
    go_wp2_with (first | (go_at_call 70; refine (ontimeref04_Format.calls 20 i.f0 _ _ _ _ _ HF.out).mono ?_; rintro e w1 ⟨rfl, ⟨n1, rfl⟩⟩) | (go_at_call 71; refine (reg_calls _ _ _).mono ?_; rintro e w2 ⟨rfl, n2, rfl⟩))
    go_ret
    exact ⟨by rw [HV.out]; rfl, by repeat (first | (with_reducible exact hB.out) | apply pw_below_drewN)⟩

theorem valid4_no (i : S48) (w : World) (h0 : 30 ≤ i.f0) (h1 : i.f0 ≤ 255) :
    Calls Tryd.prog 56 #[.agg #[.int .u8 i.f0, .int .i64 i.f1, .int .i64 i.f2, .int .i64 i.f3, .int .i64 i.f4]] w fun e w' => e = .returned (.bool false) ∧ Below w.heap.size w w' := by
  have HF := Lib.hid (fmt_bad i.f0 h0 h1)
  have hB := Aside0.mk (below_alloc (Below.refl w.heap.size w) (.cells #[.int .u8 i.f0, .int .i64 i.f1, .int .i64 i.f2, .int .i64 i.f3, .int .i64 i.f4] 48))
  go_enter Tryd.func56, Tryd.ntmps56
  go_wp2_with (first | (go_at_call 70; refine (ontimeref04_Format.calls 20 i.f0 _ _ _ _ _ HF.out).mono ?_; rintro e w1 ⟨rfl, ⟨n1, rfl⟩⟩))
  go_ret
  exact ⟨rfl, by repeat (first | (with_reducible exact hB.out) | apply pw_below_drewN)⟩

/-! ### the two functions in the printed form -/
def isa_Valid.f (a0 a1 a2 a3 a4 : Int) : Option Bool := if 0 ≤ a0 ∧ a0 ≤ 255 then some (validB ⟨a0, a1, a2, a3, a4⟩) else none
theorem validB_big (i : S48) (h : 30 ≤ i.f0) : validB i = false := by
  unfold validB
  have : decide (i.f0 < 30) = false := by simpa using h
  rw [this, Bool.false_and]
theorem isa_Valid.calls (a0_0 a0_1 a0_2 a0_3 a0_4 : Int) (r : Bool) (w : World) (h : isa_Valid.f a0_0 a0_1 a0_2 a0_3 a0_4 = some r) :
    Calls Tryd.prog 29 #[.agg #[.int .u8 a0_0, .int .i64 a0_1, .int .i64 a0_2, .int .i64 a0_3, .int .i64 a0_4]] w fun e w' => e = .returned (.bool r) ∧ Below w.heap.size w w' := by
  unfold isa_Valid.f at h
  split at h
  · rename_i hr
    obtain rfl := Option.some.inj h
    by_cases h30 : a0_0 < 30
    · exact isa_Valid_yes ⟨a0_0, a0_1, a0_2, a0_3, a0_4⟩ w hr.1 h30
    · rw [validB_big _ (by show 30 ≤ a0_0; omega)]
      exact isa_Valid_no a0_0 a0_1 a0_2 a0_3 a0_4 w (by omega) hr.2
  · cases h
def ontimeref04_Valid.f (a0 a1 a2 a3 a4 : Int) : Option Bool := if 0 ≤ a0 ∧ a0 ≤ 255 then some (validB ⟨a0, a1, a2, a3, a4⟩) else none
theorem ontimeref04_Valid.calls (a0_0 a0_1 a0_2 a0_3 a0_4 : Int) (r : Bool) (w : World) (h : ontimeref04_Valid.f a0_0 a0_1 a0_2 a0_3 a0_4 = some r) :
    Calls Tryd.prog 56 #[.agg #[.int .u8 a0_0, .int .i64 a0_1, .int .i64 a0_2, .int .i64 a0_3, .int .i64 a0_4]] w fun e w' => e = .returned (.bool r) ∧ Below w.heap.size w w' := by
  unfold ontimeref04_Valid.f at h
  split at h
  · rename_i hr
    obtain rfl := Option.some.inj h
    by_cases h30 : a0_0 < 30
    · exact valid4_yes ⟨a0_0, a0_1, a0_2, a0_3, a0_4⟩ w hr.1 h30
    · rw [validB_big _ (by show 30 ≤ a0_0; omega)]
      exact valid4_no ⟨a0_0, a0_1, a0_2, a0_3, a0_4⟩ w (by show 30 ≤ a0_0; omega) hr.2
  · cases h
end Go.Proofs.YtmgafakahbanaaaDoor.Pa
