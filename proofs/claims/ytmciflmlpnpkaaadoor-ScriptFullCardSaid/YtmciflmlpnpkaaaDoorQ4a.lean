import Derived.Test.YtmciflmlpnpkaaaDoorQ3
namespace Go.Proofs.YtmciflmlpnpkaaaDoor.Pa
open Go.RowKit Go.Proofs.YtmciflmlpnpkaaaDoorW.PrintWords Go.Proofs.YtmciflmlpnpkaaaDoorW.PrintLast Go.Proofs.YtmciflmlpnpkaaaDoorW.PrintMore
set_option linter.unusedVariables false
set_option linter.unusedSimpArgs false
set_option maxRecDepth 100000
def aw0 : List UInt8 := [115, 111, 117, 114, 99, 101, 32, 49, 10, 115, 104, 97, 114, 101, 100, 32, 115, 91, 50, 93, 59, 10, 114, 117, 110, 32, 52, 48, 10, 115, 104, 111, 119, 32, 116, 10]
def aw1 : List UInt8 := [114, 117, 110, 32, 52, 48, 10, 115, 104, 111, 119, 32, 116, 10]
def aw2 : List UInt8 := [115, 104, 111, 119, 32, 116, 10]
theorem aw0_one : oneL aw0 = .ok ⟨1, ⟨#[]⟩, [], ⟨#[115, 104, 97, 114, 101, 100, 32, 115, 91, 50, 93, 59, 10]⟩⟩ 1 aw1 := by kernel_rfl
theorem aw1_one : oneL aw1 = .ok ⟨8, ⟨#[]⟩, [40], ⟨#[]⟩⟩ 0 aw2 := by kernel_rfl
theorem aw2_one : oneL aw2 = .ok ⟨11, ⟨#[116]⟩, [], ⟨#[]⟩⟩ 0 [] := by kernel_rfl
theorem aw_steps : Steps aw0 [⟨1, ⟨#[]⟩, [], ⟨#[115, 104, 97, 114, 101, 100, 32, 115, 91, 50, 93, 59, 10]⟩⟩, ⟨8, ⟨#[]⟩, [40], ⟨#[]⟩⟩, ⟨11, ⟨#[116]⟩, [], ⟨#[]⟩⟩] 4 [] := .cons aw0_one (.cons aw1_one (.cons aw2_one (.nil _)))
theorem eq_loop (a b : List Int) (hl : a.length = b.length) (hn : a.length ≤ 1000000) : ∀ (k d j : Nat), j + d = a.length → d + 1 ≤ k → slices_Equal_int_int.l0 k a b (a.length : Int) (j : Int) = some (decide (a.drop j = b.drop j))
  | 0, d, j, h1, h2 => absurd h2 (by omega)
  | k + 1, d, j, h1, h2 => by
    rw [slices_Equal_int_int.l0]
    by_cases hlt : j < a.length
    · have hb : j < b.length := by omega
      have e1 : rd a (j : Int) = a[j] := by simp [rd, List.getD_eq_getElem?_getD, hlt]
      have e2 : rd b (j : Int) = b[j] := by simp [rd, List.getD_eq_getElem?_getD, hb]
      rw [if_pos (by omega), if_pos (by omega), if_pos (by omega), if_pos (by omega)]
      rw [e1, e2, List.drop_eq_getElem_cons hlt, List.drop_eq_getElem_cons hb, wrap_one j (by omega), eq_loop a b hl hn k (d - 1) (j + 1) (by omega) (by omega)]
      by_cases h : a[j] = b[j]
      · rw [if_pos h, h]
        simp only [List.cons.injEq, true_and]
      · rw [if_neg h, decide_eq_false]
        intro e
        injection e with e _
        exact h e
    · rw [if_neg (by omega), List.drop_of_length_le (by omega), List.drop_of_length_le (by omega)]
      simp
theorem eq_eval (a b : List Int) (hn : a.length ≤ 1000000) (k : Nat) (hk : a.length + 1 ≤ k) : slices_Equal_int_int.f k a b = some (decide (a = b)) := by
  unfold slices_Equal_int_int.f
  by_cases hl : a.length = b.length
  · rw [if_pos (by omega)]
    have := eq_loop a b hl hn k a.length 0 (by omega) hk
    simpa using this
  · rw [if_neg (by omega), decide_eq_false (fun e => hl (by rw [e]))]
theorem awake_pos (k : Nat) (hk : 100 ≤ k) : ontimelaw51_awake.f k = some true := by
  have h := parse_ok aw0 _ _ aw_steps (by decide) (by decide) k (by show 36 + 4 + 3 ≤ k; omega)
  unfold ontimelaw51_awake.f
  show (script_Parse.f k (str aw0)).bind _ = _
  rw [h, Option.bind_some]
  have he : slices_Equal_int_int.f k [40] [40] = some true := eq_eval _ _ (by decide) k (by show 2 ≤ k; omega)
  have e0 : rd_T31 [(⟨1, ⟨#[]⟩, [], ⟨#[115, 104, 97, 114, 101, 100, 32, 115, 91, 50, 93, 59, 10]⟩⟩ : S31), ⟨8, ⟨#[]⟩, [40], ⟨#[]⟩⟩, ⟨11, ⟨#[116]⟩, [], ⟨#[]⟩⟩] 1 = ⟨8, ⟨#[]⟩, [40], ⟨#[]⟩⟩ := rfl
  simp only []
  rw [if_pos trivial, if_pos trivial, if_pos (by rfl), if_pos (by decide), if_pos (by rw [ByteArray.toList_eq]; rfl), if_pos (by decide), e0, if_pos rfl, he, Option.bind_some, if_pos rfl, if_pos (by decide)]
  congr 1
  rw [ByteArray.toList_eq]
  rfl
end Go.Proofs.YtmciflmlpnpkaaaDoor.Pa
