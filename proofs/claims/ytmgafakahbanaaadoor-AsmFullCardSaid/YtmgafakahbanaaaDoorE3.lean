import Derived.Test.YtmgafakahbanaaaDoorE2
namespace Go.Proofs.YtmgafakahbanaaaDoor.Pa
open Go.RowKit Go.Proofs.YtmgafakahbanaaaDoorW.PrintWords Go.Proofs.YtmgafakahbanaaaDoorW.PrintLast Go.Proofs.YtmgafakahbanaaaDoorW.PrintMore
set_option linter.unusedVariables false
set_option linter.unusedSimpArgs false
theorem decode_calls (x : Int) (w : World) (h0 : 0 ≤ x) (h1 : x < 4294967296) :
    Calls Tryd.prog 23 #[.int .u32 x] w fun e w' => e = .returned (.tuple #[.agg #[.int .u8 (decF x).1.f0, .int .i64 (decF x).1.f1, .int .i64 (decF x).1.f2, .int .i64 (decF x).1.f3, .int .i64 (decF x).1.f4], .int .i64 (decF x).2]) ∧ Below w.heap.size w w' := by
  by_cases h : x / 67108864 < 30
  · exact decode_yes x w h0 h1 h
  · have e : decF x = (⟨0, 0, 0, 0, 0⟩, 3) := by unfold decF; rw [if_neg h]
    rw [e]
    exact decode_no x w h0 h1 (by omega)
def isa_Encode.f (a0 a1 a2 a3 a4 : Int) : Option (Int × Int) := if 0 ≤ a0 ∧ a0 ≤ 255 then some (encF ⟨a0, a1, a2, a3, a4⟩) else none
theorem isa_Encode.calls (a0_0 a0_1 a0_2 a0_3 a0_4 : Int) (r1 r2 : Int) (w : World) (h : isa_Encode.f a0_0 a0_1 a0_2 a0_3 a0_4 = some (r1, r2)) :
    Calls Tryd.prog 21 #[.agg #[.int .u8 a0_0, .int .i64 a0_1, .int .i64 a0_2, .int .i64 a0_3, .int .i64 a0_4]] w fun e w' => e = .returned (.tuple #[.int .u32 r1, .int .i64 r2]) ∧ Below w.heap.size w w' := by
  unfold isa_Encode.f at h
  split at h
  · rename_i hr
    have hc := encode_calls ⟨a0_0, a0_1, a0_2, a0_3, a0_4⟩ w hr.1 hr.2
    rw [Option.some.inj h] at hc
    exact hc
  · cases h
def isa_Decode.f (a0 : Int) : Option (Int × Int × Int × Int × Int × Int) := if 0 ≤ a0 ∧ a0 < 4294967296 then some ((decF a0).1.f0, (decF a0).1.f1, (decF a0).1.f2, (decF a0).1.f3, (decF a0).1.f4, (decF a0).2) else none
theorem isa_Decode.calls (a0 : Int) (r1 r2 r3 r4 r5 r6 : Int) (w : World) (h : isa_Decode.f a0 = some (r1, r2, r3, r4, r5, r6)) :
    Calls Tryd.prog 23 #[.int .u32 a0] w fun e w' => e = .returned (.tuple #[.agg #[.int .u8 r1, .int .i64 r2, .int .i64 r3, .int .i64 r4, .int .i64 r5], .int .i64 r6]) ∧ Below w.heap.size w w' := by
  unfold isa_Decode.f at h
  split at h
  · rename_i hr
    have hc := decode_calls a0 w hr.1 hr.2
    have hp := Option.some.inj h
    simp only [Prod.mk.injEq] at hp
    obtain ⟨rfl, rfl, rfl, rfl, rfl, rfl⟩ := hp
    exact hc
  · cases h
end Go.Proofs.YtmgafakahbanaaaDoor.Pa
