/- The law ScriptParses holds: whatever the input, it returns true; the input reads as before. Conditions: the row's own (the listed tables of Go's library). -/
import Derived.Test.YtmciflmlpnpkaaaDoorR0
import Derived.Test.YtmciflmlpnpkaaaDoorQp
import Derived.Test.YtmciflmlpnpkaaaDoorTie
import Derived.Test.YtmciflmlpnpkaaaDoorCards
import Derived.SevenTiedAt
import Derived.Lay
namespace Go.Proofs.YtmciflmlpnpkaaaDoor.ScriptParses
open Go.RowKit Go.Proofs.YtmciflmlpnpkaaaDoorW.PrintWords
open Go.ChangeShapes Go.WideShapes Go.ChangeAt
open Go.ChangeMaps (open_string shut_string)
open Go.Proofs.YtmciflmlpnpkaaaDoor.Pa
set_option linter.unusedVariables false
set_option linter.unusedSimpArgs false

theorem laidOut : laidOutB Tryd.prog = true := by kernel_rfl
set_option maxRecDepth 100000 in
theorem lifted (os : Os) (started : os.Started) (H : Type) (enc : TypeId × Value → H) :
    ReturnsInHanded {} Tryd.checked os 6 .any (fun w args => (Rows.scriptParsesSpec.pre enc Tryd.prog Tryd.f6 [] false w args ∧ laidMetH Tryd.prog laidAll w) ∧ sizedMet enc Tryd.prog Tryd.f6 (OpenSpec.ofChange Rows.scriptParsesSpec) false w args)
      (Rows.scriptParsesSpec.post enc Tryd.prog Tryd.f6 false true false false) := by
  refine returnsInHanded_of_calls seatOwn started (by kernel_rfl)
    (ChangeSpec.witness_shaped (enc := enc) (C := Tryd.checked) (os := os) (X := fun w _ => laidMetH Tryd.prog laidAll w) false (World.laidAll Tryd.prog os laidAll) #[.string ByteArray.empty] 8 (World.laidAll_os _ _ _) (World.shaped_of_ZipB (by kernel_rfl) (by kernel_rfl)) (by kernel_rfl) (by kernel_rfl) (by kernel_rfl) (door_met os _)) ?_
  intro w0 tape i0 _ hsh _ hok hpre _
  obtain ⟨_, _, _, fn', hfn', _, _, _, _, hval0⟩ := hok
  have efn : fn' = Tryd.f6 := Option.some.inj (hfn'.symm.trans Tryd.func6)
  subst efn
  obtain ⟨⟨⟨ds, gs, before, hw0, hcx0⟩, hx⟩, hz⟩ := hpre
  have hW : DataW.Whole enc Tryd.prog Tryd.f6.params.toList Rows.scriptParsesSpec.vars false (w0.forCall tape i0) i0.args.toList ds gs before := DataW.Whole.of_heap (w' := w0.forCall tape i0) (by rfl) hw0
  have hsz0 := hz.weights hw0
  have hL : laidMetH Tryd.prog laidAll (w0.forCall tape i0) := hx.of_heap (by rfl)
  have hE : EnvW (w0.forCall tape i0) := env_of_laid hL hsh
  generalize w0.heap.size = base at hval0
  generalize i0.args = args at *
  have goal : Calls Tryd.prog 6 args (w0.forCall tape i0) fun e W' => ∃ v, e = .returned v ∧ Rows.scriptParsesSpec.post enc Tryd.prog Tryd.f6 false true false false (w0.forCall tape i0) args v W' := by
    generalize w0.forCall tape i0 = W at *
    have hsz : (DataW.weightsEach Tryd.prog (Tryd.f6.params.toList ++ Rows.scriptParsesSpec.plain.varTypes Tryd.prog) (ds ++ gs)).all (· ≤ reachBytes) = true := hsz0
    have hval : ∀ (j : Nat) t v, Tryd.f6.params[j]? = some t → args[j]? = some v → Value.okWide Tryd.prog W .any base t v := hval0
    have hW' := hW
    obtain ⟨p, q, hA0, hV, rfl, hfz, hnd⟩ := hW
    have hA : DataW.TrodAll enc Tryd.prog W 0 (fun _ => true) true Tryd.f6.params.toList args.toList ds p := hA0
    rw [Tryd.params6] at hA hval hsz
    obtain ⟨v0, vs0, d0, ds0, p0, q0, hargs, rfl, rfl, h0, r0⟩ := trodAll_cons hA
    obtain ⟨rfl, rfl, rfl⟩ := trodAll_nil r0
    obtain rfl : args = #[v0] := by cases args; simp_all
    obtain ⟨rfl, rfl⟩ := trodVars_none hV
    obtain ⟨a0, rfl, rfl, rfl, y0⟩ := open_string Tryd.underlying9 (hval 0 9 v0 rfl rfl) h0
    obtain ⟨k, hk⟩ := ScriptParses_pure a0 
    refine (ontimelaw51_ScriptParses.calls k a0 true W  hk hE).mono fun e W' ⟨he, bel⟩ => ?_
    subst he
    exact ⟨_, rfl, _, _, _, [], _, [], hW', trodAll_mk1 (shut_bool Tryd.underlying4 _), (trodAll_cons_mk (shut_string Tryd.underlying9 y0) trodAll_mk0), rfl, bel.frame _, fun h => by cases h⟩
  refine goal.mono fun e W' ⟨v, he, hp⟩ => ?_
  subst he
  exact ChangeSpec.post_blind hp
theorem over : Rows.ScriptParsesSaid :=
  OpenClaim.holds_of_wide 6 Tryd.f6 rfl rfl rfl rfl rfl rfl rfl ⟨rfl, rfl, rfl, rfl, rfl⟩ rfl rfl rfl rfl rfl (by kernel_rfl) Tryd.func6 (by kernel_rfl)
    (of_decide_eq_true (by kernel_rfl)) (by unfold Func.isWrapper; first | (rw [if_pos (by decide +kernel)]; kernel_rfl) | (rw [if_neg (by decide +kernel)]; exact ⟨rfl, rfl⟩))
    (fun os started H enc _ => lifted os started H enc)
theorem card : Rows.ScriptParsesCardSaid :=
  Claim7.holds_tied_plain_at .later [] [.data, .data, .data, .data, .sentinel, .sentinel, .listed, .data, .widerDeep, .pinned] true (true, "217f61546466e929466509ad7bb03e576ba21001b6cda600bfb62c025cb0faaa") true
    over (fun _ h => by cases h) (by kernel_rfl) (fun _ h => by cases h) scriptParses_row_tie rfl ⟨rfl, rfl⟩ (by kernel_rfl) rfl
    (fun f fn hf hfn => by
      obtain rfl : f = 6 := Option.some.inj ((show Tryd.prog.funcNamed "ontime/ontimelaw51.ScriptParses" = some 6 by kernel_rfl).symm.trans hf) |>.symm
      obtain rfl : fn = Tryd.f6 := (Option.some.inj (Tryd.func6.symm.trans hfn)).symm
      exact ⟨by kernel_rfl, fun j t ht => by
        rw [Tryd.params6] at ht
        have hm : t ∈ [9] := by simpa using Array.mem_of_getElem? ht
        have hall : ([9].all fun u => !Tryd.prog.wantsStandIn u) = true := by kernel_rfl
        exact (show Tryd.prog.wantsStandIn t = false by simpa using List.all_eq_true.1 hall t hm)⟩)
    (by kernel_rfl)
end Go.Proofs.YtmciflmlpnpkaaaDoor.ScriptParses
namespace Go.Proofs.YtmciflmlpnpkaaaDoor
/-- ScriptParses: the tied card. -/
theorem scriptParses_card : Rows.ScriptParsesCardSaid := ScriptParses.card
end Go.Proofs.YtmciflmlpnpkaaaDoor
