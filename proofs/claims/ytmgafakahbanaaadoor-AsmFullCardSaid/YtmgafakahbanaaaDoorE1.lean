import Derived.Test.YtmgafakahbanaaaDoorHb
import Derived.Test.YtmgafakahbanaaaDoorE0
namespace Go.Proofs.YtmgafakahbanaaaDoor.Pa
open Go.RowKit Go.Proofs.YtmgafakahbanaaaDoorW.PrintWords Go.Proofs.YtmgafakahbanaaaDoorW.PrintLast Go.Proofs.YtmgafakahbanaaaDoorW.PrintMore
set_option linter.unusedVariables false
set_option linter.unusedSimpArgs false
/-- What the loop of isa.Encode keeps: the instruction's cells at B, the operands' bytes at S. -/
structure EInv (w : World) (B S : Nat) (i : S48) (cs : ByteArray) (wr : World) : Prop where
  below : Below w.heap.size w wr
  fields : ∀ c, wr.cell? ⟨B, fo c, none⟩ = some (.int .i64 (xF i c))
  cs : ∀ j (hj : j < cs.size), wr.cell? ⟨S, j, none⟩ = some (.int .u8 (cs.data.toList.getD j 0).toNat)
  lt : B < wr.heap.size ∧ S < wr.heap.size
theorem EInv.step {w : World} {B S : Nat} {i : S48} {cs : ByteArray} {wr w1 : World} (h : EInv w B S i cs wr) (hb : Below wr.heap.size wr w1) : EInv w B S i cs w1 := by
  obtain ⟨h1, h2, h3, h4, h5⟩ := h
  refine ⟨below_then h1 h1.size hb, fun c => (hb.cell h4).trans (h2 c), fun j hj => (hb.cell h5).trans (h3 j hj), ?_⟩
  have := hb.size
  omega
theorem einv_start (w w1 : World) (i : S48) (cs : ByteArray) (X : Obj)
    (hb : Below (w.alloc (.cells #[.int .u8 i.f0, .int .i64 i.f1, .int .i64 i.f2, .int .i64 i.f3, .int .i64 i.f4] 48)).heap.size (w.alloc (.cells #[.int .u8 i.f0, .int .i64 i.f1, .int .i64 i.f2, .int .i64 i.f3, .int .i64 i.f4] 48)) w1) :
    EInv w w.heap.size (w1.heap.size + 1) i cs (Lib.bytesWorld (w1.alloc X) 5 cs) := by
  have hsz := hb.size
  simp at hsz
  have hB : Below w.heap.size w (Lib.bytesWorld (w1.alloc X) 5 cs) := below_then (below_alloc (below_then (below_alloc (Below.refl w.heap.size w) _) (by simp) hb) X) (by simp; omega) (bytesWorld_below (w1.alloc X) 5 cs)
  have hold : ∀ j : Nat, (Lib.bytesWorld (w1.alloc X) 5 cs).cell? ⟨w.heap.size, j, none⟩ = (#[.int .u8 i.f0, .int .i64 i.f1, .int .i64 i.f2, .int .i64 i.f3, .int .i64 i.f4] : Array Value)[j]? := by
    intro j
    rw [Lib.bytesWorld_old _ _ _ _ (by simp; omega), World.cell?_alloc_lt _ _ _ (by simp; omega), hb.cell (p := ⟨w.heap.size, j, none⟩) (by simp)]
    exact World.cell?_alloc_mark _ _ _ _ _
  have e : (w1.alloc X).heap.size = w1.heap.size + 1 := by simp
  refine ⟨hB, fun c => ?_, fun j hj => by rw [← e]; exact Lib.bytesWorld_cell (w1.alloc X) 5 cs j hj, ?_⟩
  · unfold fo xF
    by_cases h1 : c = 97
    · rw [if_pos h1, if_pos h1]; exact hold 1
    · rw [if_neg h1, if_neg h1]
      by_cases h2 : c = 98
      · rw [if_pos h2, if_pos h2]; exact hold 2
      · rw [if_neg h2, if_neg h2]
        by_cases h3 : c = 99
        · rw [if_pos h3, if_pos h3]; exact hold 3
        · rw [if_neg h3, if_neg h3]; exact hold 4
  · rw [Lib.bytesWorld_size]
    simp
    omega
theorem bits_and_u32 (a b : Int) : 0 ≤ bits .and .u32 a b ∧ bits .and .u32 a b < 4294967296 := by
  simp only [bits, IntKind.wrap_u32]
  omega
theorem bits_or_u32 (a b : Int) : 0 ≤ bits .or .u32 a b ∧ bits .or .u32 a b < 4294967296 := by
  simp only [bits, IntKind.wrap_u32]
  omega
theorem posF_range (c : Int) : 0 ≤ posF c ∧ posF c ≤ 22 := by
  unfold posF
  split
  · omega
  · split
    · omega
    · split <;> omega
theorem shl_run (v p : Int) (h0 : 0 ≤ p) (h1 : p ≤ 22) (w : World) : Sem.run Tryd.prog (Op.shift .shl .u32 v .i64 p) w = .ok (.int .u32 (v * 2 ^ p.toNat % 4294967296)) w := by
  have e : ¬ p < 0 := by omega
  have e2 : min p.toNat IntKind.u32.bits = p.toNat := by simp [IntKind.bits]; omega
  unfold Op.shift
  rw [if_neg e, e2]
  simp only [IntKind.wrap_u32]
  rfl
def encStep (i : S48) (u c : Int) : Int := bits .or .u32 u ((if c = 105 then bits .and .u32 (xF i c % 4294967296) 262143 else xF i c % 4294967296) * 2 ^ (posF c).toNat % 4294967296)
theorem encW_succ (i : S48) (u : Int) (cs : ByteArray) (j : Nat) (h : j < cs.size) : (nums8 cs).take (j + 1) = (nums8 cs).take j ++ [((cs.data.toList.getD j 0).toNat : Int)] := by
  have hj' : j < cs.data.toList.length := by simpa using h
  have e1 : (nums8 cs)[j]? = some (((cs.data.toList.getD j 0).toNat : Int)) := by
    rw [nums8, List.getElem?_map, List.getD_eq_getElem?_getD, List.getElem?_eq_getElem hj']
    rfl
  rw [List.take_add_one, e1]
  rfl
def encW (i : S48) (u : Int) (l : List Int) : Int := l.foldl (encStep i) u
set_option maxRecDepth 100000 in
set_option maxHeartbeats 1000000 in
theorem encode_no (i : S48) (w : World) (h0 : 0 ≤ i.f0) (h1 : i.f0 ≤ 255) (hv : validB i = false) :
    Calls Tryd.prog 21 #[.agg #[.int .u8 i.f0, .int .i64 i.f1, .int .i64 i.f2, .int .i64 i.f3, .int .i64 i.f4]] w fun e w' => e = .returned (.tuple #[.int .u32 0, .int .i64 3]) ∧ Below w.heap.size w w' := by
  have HV : Hid (isa_Valid.f i.f0 i.f1 i.f2 i.f3 i.f4 = some false) := Lib.hid (by unfold isa_Valid.f; rw [if_pos ⟨h0, h1⟩]; exact congrArg some hv)
  clear hv
  go_enter Tryd.func21, Tryd.ntmps21
  go_wp2_with (go_at_call 29; refine (isa_Valid.calls _ _ _ _ _ _ _ HV.out).mono ?_; rintro e wv ⟨rfl, hbv⟩)
  go_ret2
  exact ⟨rfl, below_then (below_alloc (Below.refl w.heap.size w) _) (by simp) hbv⟩
set_option maxRecDepth 100000 in
set_option maxHeartbeats 1000000 in
theorem encode_yes (i : S48) (w : World) (h0 : 0 ≤ i.f0) (hv : validB i = true) :
    Calls Tryd.prog 21 #[.agg #[.int .u8 i.f0, .int .i64 i.f1, .int .i64 i.f2, .int .i64 i.f3, .int .i64 i.f4]] w fun e w' => e = .returned (.tuple #[.int .u32 (encW i (i.f0 * 67108864) (nums8 (rowOf i.f0).f1)), .int .i64 0]) ∧ Below w.heap.size w w' := by
  have h1 := (valid_parts i hv).1
  have HV : Hid (isa_Valid.f i.f0 i.f1 i.f2 i.f3 i.f4 = some true) := Lib.hid (by unfold isa_Valid.f; rw [if_pos ⟨h0, by omega⟩]; exact congrArg some hv)
  have HF := Lib.hid (find_yes i.f0 h0 h1)
  have hsz := rowOf_short i.f0 h0 h1
  have HVB := Lib.hid hv
  clear hv
  generalize hr : rowOf i.f0 = r at HF hsz ⊢
  have HR := Lib.hid hr
  clear hr
  generalize hcs : r.f1 = cs at HF hsz ⊢
  have HS := Lib.hid hcs
  clear hcs
  have hcv := fun (w : World) => Lib.run_convert_string_bytes (P := Tryd.prog) w 9 36 5 cs Tryd.underlying9 Tryd.underlying36 Tryd.underlying5
  go_enter Tryd.func21, Tryd.ntmps21
  go_wp2_with (first | (go_at_call 29; refine (isa_Valid.calls _ _ _ _ _ _ _ HV.out).mono ?_; rintro e wv ⟨rfl, hbv⟩; have k1 : wv.cell? ⟨w.heap.size, 0, none⟩ = some (.int .u8 i.f0) := (hbv.cell (p := ⟨w.heap.size, 0, none⟩) (by simp)).trans (World.cell?_alloc_mark _ _ _ _ _)) | (go_at_call 37; refine (isa_find.calls 20 i.f0 _ _ _ _ _ _ _ _ HF.out).mono ?_; rintro e w1 ⟨rfl, hb1⟩; have k2 : w1.cell? ⟨w.heap.size, 0, none⟩ = some (.int .u8 i.f0) := (hb1.cell (p := ⟨w.heap.size, 0, none⟩) (by have := hbv.size; simp at this ⊢; omega)).trans k1; have k3 : ∀ X, (w1.alloc X).cell? ⟨w.heap.size, 0, none⟩ = some (.int .u8 i.f0) := fun X => (World.cell?_alloc_lt _ _ _ (by have := hbv.size; have := hb1.size; simp at *; omega)).trans k2))
  have hI : EInv w w.heap.size (w1.heap.size + 1) i cs (Lib.bytesWorld (w1.alloc (.cells #[.string r.f0, .string cs, .int .i64 r.f2, .int .i64 r.f3, .string r.f4, .string r.f5] 76)) 5 cs) := einv_start w w1 i cs _ (below_then hbv hbv.size hb1)
  have HI := Aside0.mk hI
  clear hI hb1 hbv k1 k2 k3
  go_loopw [6, 27] (fun u v wr => ∃ (j : Nat) (x : Int), j ≤ cs.size ∧ v = .int .i64 j ∧ u = .int .u32 x ∧ 0 ≤ x ∧ x < 4294967296 ∧ Aside0 (x = encW i (i.f0 * 67108864) ((nums8 cs).take j)) ∧ Aside0 (EInv w w.heap.size (w1.heap.size + 1) i cs wr)) (fun _ v _ => cs.size - (intOf v).toNat)
  case atStart => exact ⟨0, i.f0 * 67108864, by omega, rfl, rfl, by omega, by omega, ⟨rfl⟩, HI⟩
  case round =>
    obtain ⟨j, x, hj, rfl, rfl, hx0, hx1, HX, HV2⟩ := hrel
    clear HI
    by_cases hlt : j < cs.size
    · have hcell := HV2.out.cs j hlt
      generalize hcc : ((cs.data.toList.getD j 0).toNat : Int) = c at hcell
      have hc01 : 0 ≤ c ∧ c ≤ 255 := by rw [← hcc]; have := (cs.data.toList.getD j 0).toNat_lt; omega
      have HC := Lib.hid hcc
      clear hcc
      have hf := HV2.out.fields c
      have HX2 : Hid (encW i (i.f0 * 67108864) ((nums8 cs).take (j + 1)) = encStep i x c) := Lib.hid (by rw [encW_succ i 0 cs j hlt, HC.out, encW, List.foldl_append, HX.out]; rfl)
      have hpos := fun w => position_calls c w hc01.1 hc01.2
      have hpr := posF_range c
      have HS2 : Hid (encStep i x c = bits .or .u32 x ((if c = 105 then bits .and .u32 (xF i c % 4294967296) 262143 else xF i c % 4294967296) * 2 ^ (posF c).toNat % 4294967296)) := Lib.hid rfl
      generalize encStep i x c = x2 at HX2 HS2
      generalize posF c = p at hpos hpr HS2
      have HP := Lib.hid hpos
      clear hpos
      have hsh := fun (v : Int) (w : World) => shl_run v p hpr.1 hpr.2 w
      generalize xF i c = y at hf HS2
      by_cases h105 : c = 105
      · subst h105
        have hx2 := HS2.out
        rw [if_pos rfl] at hx2
        have hbr := bits_or_u32 x (bits .and .u32 (y % 4294967296) 262143 * 2 ^ p.toNat % 4294967296)
        rw [← hx2] at hbr
        have HX3 := Lib.hid hx2
        clear hx2
        go_wp2_with (first | (go_at_call 38; refine (isa_field.calls _ _ _).mono ?_; rintro e w' ⟨rfl, rfl⟩) | (go_at_call 39; refine (HP.out _).mono ?_; rintro e w3 ⟨rfl, hb3⟩))
        rw [← HX3.out]
        go_roundw
        case rel => exact ⟨j + 1, x2, by omega, by go_num, rfl, hbr.1, hbr.2, ⟨HX2.out.symm⟩, ⟨HV2.out.step hb3⟩⟩
        case measure => simp [intOf]; omega
      · have hx2 := HS2.out
        rw [if_neg h105] at hx2
        have hbr := bits_or_u32 x (y % 4294967296 * 2 ^ p.toNat % 4294967296)
        rw [← hx2] at hbr
        have HX3 := Lib.hid hx2
        clear hx2
        go_wp2_with (first | (go_at_call 38; refine (isa_field.calls _ _ _).mono ?_; rintro e w' ⟨rfl, rfl⟩) | (go_at_call 39; refine (HP.out _).mono ?_; rintro e w3 ⟨rfl, hb3⟩))
        rw [← HX3.out]
        go_roundw
        case rel => exact ⟨j + 1, x2, by omega, by go_num, rfl, hbr.1, hbr.2, ⟨HX2.out.symm⟩, ⟨HV2.out.step hb3⟩⟩
        case measure => simp [intOf]; omega
    · have hj4 : j = cs.size := by omega
      subst hj4
      go_wp2
      go_ret2
      exact ⟨by rw [HX.out, List.take_of_length_le (by rw [nums8_len]; exact Nat.le_refl _)]; rfl, HV2.out.below⟩
def encF (i : S48) : Int × Int := if validB i = true then (encW i (i.f0 * 67108864) (nums8 (rowOf i.f0).f1), 0) else (0, 3)
theorem encode_calls (i : S48) (w : World) (h0 : 0 ≤ i.f0) (h1 : i.f0 ≤ 255) :
    Calls Tryd.prog 21 #[.agg #[.int .u8 i.f0, .int .i64 i.f1, .int .i64 i.f2, .int .i64 i.f3, .int .i64 i.f4]] w fun e w' => e = .returned (.tuple #[.int .u32 (encF i).1, .int .i64 (encF i).2]) ∧ Below w.heap.size w w' := by
  unfold encF
  by_cases hv : validB i = true
  · rw [if_pos hv]
    exact encode_yes i w h0 hv
  · rw [if_neg hv]
    exact encode_no i w h0 h1 (by simpa using hv)
end Go.Proofs.YtmgafakahbanaaaDoor.Pa
