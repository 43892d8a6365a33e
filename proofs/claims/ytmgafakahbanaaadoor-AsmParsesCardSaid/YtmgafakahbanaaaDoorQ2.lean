import Derived.Test.YtmgafakahbanaaaDoorQ1
namespace Go.Proofs.YtmgafakahbanaaaDoor.Pa
open Go.RowKit Go.Proofs.YtmgafakahbanaaaDoorW.PrintWords Go.Proofs.YtmgafakahbanaaaDoorW.PrintLast Go.Proofs.YtmgafakahbanaaaDoorW.PrintMore
set_option linter.unusedVariables false
set_option linter.unusedSimpArgs false

/-! ### the reference's words -/
theorem str_empty_iff (l : List UInt8) : (str l).toList = [] ↔ l = [] := by
  rw [ByteArray.toList_eq]
  rfl
theorem extract_one (x : ByteArray) (i : Nat) (h : i < x.size) : x.extract i (i + 1) = str [x.data.toList.getD i 0] := by
  have e : (x.extract i (i + 1)).data.toList = [x.data.toList.getD i 0] := by
    rw [Lib.extract_data, drop_cons x i h, show i + 1 - i = 1 by omega]
    rfl
  exact ByteArray.ext (Array.toList_inj.1 (by rw [e]; rfl))
theorem words_j1_true (x : ByteArray) (i : Nat) (hi : i ≤ x.size) (hx : x.size ≤ 1000000) (out : List ByteArray) (cur : List UInt8) (ho : out.length ≤ i) (k : Nat) (rest : List ByteArray)
    (h : ∀ out', out'.length ≤ i + 1 → ontimeref05_words.l0 k x out' (str []) (((i + 1 : Nat)) : Int) = some (out' ++ rest)) :
    ontimeref05_words.j1 (k + 1) x out (str cur) (i : Int) true = some (out ++ ((if cur = [] then [] else [str cur]) ++ rest)) := by
  have hw : wrap64 ((i : Int) + 1) = ((i + 1 : Nat) : Int) := wrap_next i (x.size + 1) (by omega) (by omega)
  simp only [ontimeref05_words.j1, if_true]
  rw [hw]
  by_cases hc : cur = []
  · rw [if_pos ((str_empty_iff cur).2 hc), if_pos hc, List.nil_append]
    exact h out (by omega)
  · rw [if_neg (fun e => hc ((str_empty_iff cur).1 e)), if_neg hc, if_pos (by omega)]
    have := h (out ++ [str cur]) (by simp; omega)
    rw [List.append_assoc] at this
    exact this
theorem words_loop (x : ByteArray) (hx : x.size ≤ 1000000) : ∀ (d k i : Nat) (out : List ByteArray) (cur : List UInt8), i + d = x.size → 2 * d + 4 ≤ k → out.length ≤ i → cur.length ≤ i →
    ontimeref05_words.l0 k x out (str cur) (i : Int) = some (out ++ (fieldsGo cur (x.data.toList.drop i)).map str) := by
  have hl := size_len x
  intro d
  induction d with
  | zero =>
    intro k i out cur hi hk ho hcur
    obtain ⟨k, rfl⟩ : ∃ m, k = m + 3 := ⟨k - 3, by omega⟩
    simp only [ontimeref05_words.l0]
    rw [if_pos (by omega), if_pos (by omega), words_j1_true x i (by omega) hx out cur ho (k + 1) [] ?_]
    · have hd : x.data.toList.drop i = [] := List.drop_of_length_le (by omega)
      rw [hd, fieldsGo, List.append_nil]
      by_cases hc : cur = []
      · rw [if_pos hc, if_pos hc]; rfl
      · rw [if_neg hc, if_neg hc]; rfl
    · intro out' _
      simp only [ontimeref05_words.l0]
      rw [if_neg (by omega), List.append_nil]
  | succ d ih =>
    intro k i out cur hi hk ho hcur
    obtain ⟨k, rfl⟩ : ∃ m, k = m + 2 := ⟨k - 2, by omega⟩
    have hlt : i < x.size := by omega
    have hw : wrap64 ((i : Int) + 1) = ((i + 1 : Nat) : Int) := wrap_next i x.size hlt (by omega)
    have hrest : ∀ out', out'.length ≤ i + 1 → ontimeref05_words.l0 k x out' (str []) (((i + 1 : Nat)) : Int) = some (out' ++ (fieldsGo [] (x.data.toList.drop (i + 1))).map str) := fun out' ho' => ih k (i + 1) out' [] (by omega) (by omega) ho' (by simp)
    have hblank : blankB (x.data.toList.getD i 0) = true → some (out ++ ((if cur = [] then [] else [str cur]) ++ (fieldsGo [] (x.data.toList.drop (i + 1))).map str)) = some (out ++ (fieldsGo cur (x.data.toList.drop i)).map str) := fun hb => by
      rw [drop_cons x i hlt, fieldsGo, if_pos hb]
      by_cases hc : cur = []
      · rw [if_pos hc, if_pos hc]; rfl
      · rw [if_neg hc, if_neg hc]; rfl
    simp only [ontimeref05_words.l0]
    rw [if_pos (by omega), if_neg (by omega), if_pos (by omega), if_pos (by omega), bt_list x i hlt]
    by_cases h1 : x.data.toList.getD i 0 = 32
    · rw [if_pos (by rw [h1]; rfl), words_j1_true x i (by omega) hx out cur ho k _ hrest]
      exact hblank (by rw [h1]; rfl)
    · rw [if_neg (fun e => h1 (UInt8.toNat_inj.1 (by have : (32 : UInt8).toNat = 32 := rfl; omega)))]
      by_cases h2 : x.data.toList.getD i 0 = 9
      · have e9 : (((x.data.toList.getD i 0).toNat : Int) == 9) = true := by rw [h2]; rfl
        rw [e9, words_j1_true x i (by omega) hx out cur ho k _ hrest]
        exact hblank (by rw [h2]; rfl)
      · have e9 : (((x.data.toList.getD i 0).toNat : Int) == 9) = false := by
          rw [beq_eq_false_iff_ne]
          exact fun e => h2 (UInt8.toNat_inj.1 (by have : (9 : UInt8).toNat = 9 := rfl; omega))
        have hnb : blankB (x.data.toList.getD i 0) = false := by
          unfold blankB
          rw [Bool.or_eq_false_iff]
          exact ⟨beq_eq_false_iff_ne.2 h1, beq_eq_false_iff_ne.2 h2⟩
        have hsz : (x.extract i (i + 1)).size = 1 := by rw [extract_one x i hlt]; rfl
        rw [e9]
        simp only [ontimeref05_words.j1]
        rw [if_neg (by simp), hw, if_pos (by omega), if_pos (by omega), if_pos (by omega)]
        simp only [Int.toNat_natCast]
        rw [if_pos (by rw [hsz, str_size]; omega), extract_one x i hlt, str_append, ih k (i + 1) out _ (by omega) (by omega) (by omega) (by simp; omega), drop_cons x i hlt, fieldsGo, if_neg (by rw [hnb]; simp)]
theorem words_eval (x : ByteArray) (hx : x.size ≤ 1000000) (k : Nat) (hk : 2 * x.size + 4 ≤ k) : ontimeref05_words.f k x = some ((fieldsGo [] x.data.toList).map str) := by
  have := words_loop x hx x.size k 0 [] [] (by omega) hk (by simp) (by simp)
  rw [List.drop_zero, List.nil_append] at this
  exact this

/-! ### the reference's operands -/
def readR (ws : List (List UInt8)) : Int × Int × Int × Int × Int × Int := match decO ws with
  | some i => (i.f0, i.f1, i.f2, i.f3, i.f4, 1)
  | none => (0, 0, 0, 0, 0, -1)
structure PartR (ws : List ByteArray) (op : Int) (k : Nat) (cur : S48) : Prop where
  same : cur.f0 = op
  got : ∀ j c, j < k → (shapeI op)[j]? = some c → ∃ x, ws[j + 1]? = some x ∧ opR c x.data.toList = (xF cur c, true)
  rest : ∀ c, (c = 97 ∨ c = 98 ∨ c = 99 ∨ c = 105) → c ∉ (shapeI op).take k → xF cur c = 0
theorem PartR.start (ws : List ByteArray) (op : Int) : PartR ws op 0 ⟨op, 0, 0, 0, 0⟩ :=
  ⟨rfl, fun j c hj => by omega, fun c hc _ => by rcases hc with rfl | rfl | rfl | rfl <;> rfl⟩
theorem PartR.step {ws : List ByteArray} {op : Int} {k : Nat} {cur : S48} (h : PartR ws op k cur) (h0 : 0 ≤ op) (h1 : op < 30) (c v : Int) (x : ByteArray) (hs : (shapeI op)[k]? = some c) (hx : ws[k + 1]? = some x) (hv : opR c x.data.toList = (v, true)) : PartR ws op (k + 1) (setF cur c v) := by
  have hcs := (cls_facts op h0 h1).2.2.2.2.1
  have hnd := shape_nodup op h0 h1
  have hc := hcs c (List.mem_of_getElem? hs)
  refine ⟨h.same, fun j d hj hd => ?_, fun d hd hn => ?_⟩
  · by_cases e : j = k
    · subst e
      rw [hs] at hd
      obtain rfl := Option.some.inj hd
      exact ⟨x, hx, by rw [setF_same _ _ _ hc]; exact hv⟩
    · obtain ⟨y, hy, hyv⟩ := h.got j d (by omega) hd
      refine ⟨y, hy, ?_⟩
      rw [setF_far _ _ _ _ hc (hcs d (List.mem_of_getElem? hd))]
      · exact hyv
      · rintro rfl
        obtain ⟨hk, hk2⟩ := List.getElem?_eq_some_iff.1 hs
        obtain ⟨hl, hl2⟩ := List.getElem?_eq_some_iff.1 hd
        exact e ((List.getElem_inj hnd).1 (hl2.trans hk2.symm))
  · have hk : (shapeI op).take (k + 1) = (shapeI op).take k ++ [c] := by
      rw [List.take_add_one, hs]; rfl
    rw [hk] at hn
    have h2 : c ≠ d := fun e => hn (by simp [e])
    rw [setF_far _ _ _ _ hc hd h2]
    exact h.rest d hd (fun e => hn (by simp [e]))
theorem decR_word {ws : List ByteArray} {i' : S48} (hd : Dec (bytesOf ws) i') (j : Nat) (c : Int) (hs : (shapeI i'.f0)[j]? = some c) (x : ByteArray) (hx : ws[j + 1]? = some x) : x.data.toList = wordOf c (xF i' c) ∧ opR c x.data.toList = (xF i' c, true) := by
  obtain ⟨h0, hv, he⟩ := hd
  have h1 := (valid_parts i' hv).1
  have hcs := (cls_facts i'.f0 h0 h1).2.2.2.2.1
  have hc := hcs c (List.mem_of_getElem? hs)
  have e1 : (bytesOf ws)[j + 1]? = some x.data.toList := by simp [bytesOf, hx]
  rw [he] at e1
  simp only [List.getElem?_cons_succ, opWords, List.getElem?_map, hs, Option.map_some, Option.some.injEq] at e1
  rw [opWord_eq i' c hc] at e1
  refine ⟨e1.symm, ?_⟩
  rw [← e1]
  have hb := valid_bound i' h0 hv c
  have h8 := itoa_len6 (xF i' c) hb.1 hb.2
  unfold opR wordOf
  by_cases h105 : c = 105
  · rw [if_pos h105, if_pos h105]
    exact numR_itoa _ h8
  · rw [if_neg h105, if_neg h105]
    have hm : c ∈ shapeI i'.f0 := List.mem_of_getElem? hs
    have hnn : 0 ≤ xF i' c := by
      have hin : hasB (rowOf i'.f0).f1 c = true := by
        unfold hasB
        have : c ∈ nums8 (rowOf i'.f0).f1 := hm
        simpa using this
      obtain ⟨_, a, b, d, e⟩ := valid_parts i' hv
      rcases hc with rfl | rfl | rfl | rfl
      · unfold okF at a; rw [if_pos hin, if_neg (by omega)] at a; simp at a; exact a.1
      · unfold okF at b; rw [if_pos hin, if_neg (by omega)] at b; simp at b; exact b.1
      · unfold okF at d; rw [if_pos hin, if_neg (by omega)] at d; simp at d; exact d.1
      · exact absurd rfl h105
    obtain ⟨u, hu⟩ : ∃ u : Nat, xF i' c = (u : Int) := ⟨(xF i' c).toNat, by omega⟩
    rw [hu] at h8 ⊢
    exact regR_itoa u h8
theorem partR_cur {ws : List ByteArray} {op : Int} {cur i' : S48} (hp : PartR ws op (shapeI op).length cur) (h0 : 0 ≤ op) (h1 : op < 30) (hd : Dec (bytesOf ws) i') (ho : i'.f0 = op) : cur = i' := by
  have g := id hd
  obtain ⟨g0, hv, he⟩ := g
  refine xF_ext _ _ (hp.same.trans ho.symm) (fun c hc => ?_)
  by_cases hm : c ∈ shapeI op
  · obtain ⟨j, hj, hj2⟩ := List.getElem_of_mem hm
    have hs : (shapeI op)[j]? = some c := by rw [List.getElem?_eq_getElem hj, hj2]
    obtain ⟨x, hx, hxv⟩ := hp.got j c hj hs
    rw [← ho] at hs
    have h2 := (decR_word hd j c hs x hx).2
    rw [hxv] at h2
    exact congrArg Prod.fst h2
  · rw [hp.rest c hc (by rw [List.take_length]; exact hm)]
    obtain ⟨_, a, b, d, e⟩ := valid_parts i' hv
    rw [ho] at a b d e
    rcases hc with rfl | rfl | rfl | rfl
    · exact (okF_absent op 97 _ hm a).symm
    · exact (okF_absent op 98 _ hm b).symm
    · exact (okF_absent op 99 _ hm d).symm
    · exact (okF_absent op 105 _ hm e).symm
theorem partR_dec {ws : List ByteArray} {op : Int} {cur : S48} {x0 : ByteArray} (hp : PartR ws op (shapeI op).length cur) (h0 : 0 ≤ op) (h1 : op < 30) (hx : ws[0]? = some x0) (hx0 : x0.data.toList = mnem op) (hlen : ws.length = (shapeI op).length + 1) (hv : validB cur = true) : Dec (bytesOf ws) cur := by
  have hf := hp.same
  have hcs := (cls_facts op h0 h1).2.2.2.2.1
  refine ⟨by omega, hv, ?_⟩
  apply List.ext_getElem?
  intro j
  cases j with
  | zero => simp [bytesOf, hx, hx0, hf]
  | succ j =>
    simp only [List.getElem?_cons_succ, opWords, List.getElem?_map, bytesOf]
    rw [hf]
    by_cases hj : j < (shapeI op).length
    · have hs : (shapeI op)[j]? = some (shapeI op)[j] := List.getElem?_eq_getElem hj
      obtain ⟨x, hxj, hxv⟩ := hp.got j _ hj hs
      have := opR_ok _ _ (by rw [hxv])
      rw [hxv] at this
      rw [hxj, hs, Option.map_some, Option.map_some, this, opWord_eq cur _ (hcs _ (List.mem_of_getElem? hs))]
    · rw [List.getElem?_eq_none (by omega), List.getElem?_eq_none (by omega)]
      rfl
theorem readR_none {ws : List (List UInt8)} (h : ∀ i, ¬ Dec ws i) : readR ws = (0, 0, 0, 0, 0, -1) := by
  unfold readR
  rw [decO_none.2 h]
theorem readR_some {ws : List (List UInt8)} {i : S48} (h : Dec ws i) : readR ws = (i.f0, i.f1, i.f2, i.f3, i.f4, 1) := by
  unfold readR
  rw [decO_some.2 h]
theorem rdOf_at (ws : List ByteArray) (j : Nat) (x : ByteArray) (h : ws[j]? = some x) : rdOf ByteArray.empty ws (j : Int) = x := by
  simp [rdOf, List.getD, h]
theorem setF_a (i : S48) (v : Int) : setF i 97 v = ⟨i.f0, v, i.f2, i.f3, i.f4⟩ := by simp [setF]
theorem setF_b (i : S48) (v : Int) : setF i 98 v = ⟨i.f0, i.f1, v, i.f3, i.f4⟩ := by simp [setF]
theorem setF_c (i : S48) (v : Int) : setF i 99 v = ⟨i.f0, i.f1, i.f2, v, i.f4⟩ := by simp [setF]
theorem setF_i (i : S48) (v : Int) : setF i 105 v = ⟨i.f0, i.f1, i.f2, i.f3, v⟩ := by simp [setF]
theorem bt_shape (op : Int) (j : Nat) (c : Int) (h : (shapeI op)[j]? = some c) : bt (rowOf op).f1 (j : Int) = c := by
  have h2 : (nums8 (rowOf op).f1)[j]? = some c := h
  have hlt : j < (rowOf op).f1.size := by rw [← nums8_len]; exact (List.getElem?_eq_some_iff.1 h2).1
  rw [bt_list _ _ hlt]
  rw [nums8, List.getElem?_map] at h2
  rw [List.getD_eq_getElem?_getD]
  cases he : (rowOf op).f1.data.toList[j]? with
  | none => rw [he] at h2; simp at h2
  | some b => rw [he] at h2; simpa using h2
theorem l2_loop (ws : List ByteArray) (op : Int) (h0 : 0 ≤ op) (h1 : op < 30) (sh : ByteArray) (hsh : sh.size = (shapeI op).length) (hbs : Hid (∀ (j : Nat) (c : Int), (shapeI op)[j]? = some c → bt sh (j : Int) = c)) (x0 : ByteArray) (hx0 : ws[0]? = some x0) (hm : x0.data.toList = mnem op) (hlen : ws.length = (shapeI op).length + 1) (hsz : ∀ x ∈ ws, x.size ≤ 1000000) :
    ∀ (d k j : Nat) (cur : S48), j + d = (shapeI op).length → 2 * d + 30 ≤ k → PartR ws op j cur →
    ontimeref05_Read.l2 k ws sh (j : Int) cur.f0 cur.f1 cur.f2 cur.f3 cur.f4 = some (readR (bytesOf ws)) := by
  have hl3 := (cls_facts op h0 h1).2.2.2.1
  have hcs := (cls_facts op h0 h1).2.2.2.2.1
  intro d
  induction d with
  | zero =>
    intro k j cur hj hk hp
    obtain ⟨k, rfl⟩ : ∃ m, k = m + 1 := ⟨k - 1, by omega⟩
    have ej : j = (shapeI op).length := by omega
    subst ej
    have hf := hp.same
    simp only [ontimeref05_Read.l2]
    rw [if_neg (by omega), ontimeref04_Valid.f, if_pos (by omega), Option.bind_some]
    by_cases hv : validB cur = true
    · rw [if_pos hv, readR_some (partR_dec hp h0 h1 hx0 hm hlen hv)]
    · rw [if_neg hv, readR_none]
      intro i' hd
      obtain ⟨a, b, c, _⟩ := dec_op hd hx0
      have := partR_cur hp h0 h1 hd (mnem_inj _ _ b c h0 h1 (a.trans hm))
      subst this
      exact hv hd.2.1
  | succ d ih =>
    intro k j cur hj hk hp
    obtain ⟨k, rfl⟩ : ∃ m, k = m + 2 := ⟨k - 2, by omega⟩
    have hlt : j < (shapeI op).length := by omega
    have hs : (shapeI op)[j]? = some (shapeI op)[j] := List.getElem?_eq_getElem hlt
    have hcl := hcs _ (List.mem_of_getElem? hs)
    have hbt := hbs.out j _ hs
    generalize (shapeI op)[j] = c at hs hcl hbt
    have HBt := Lib.hid hbt
    clear hbt
    obtain ⟨x, hx⟩ : ∃ x, ws[j + 1]? = some x := ⟨ws[j + 1]'(by omega), List.getElem?_eq_getElem _⟩
    have hxs := hsz x (List.mem_of_getElem? hx)
    have hw : wrap64 ((j : Int) + 1) = ((j + 1 : Nat) : Int) := wrap_next j 4 (by omega) (by omega)
    have hno : (opR c x.data.toList).2 = false → readR (bytesOf ws) = (0, 0, 0, 0, 0, -1) := fun hf => readR_none (fun i' hd => by
      obtain ⟨a, b, cc, _⟩ := dec_op hd hx0
      have ho := mnem_inj _ _ b cc h0 h1 (a.trans hm)
      have := (decR_word hd j c (by rw [ho]; exact hs) x hx).2
      rw [this] at hf
      cases hf)
    have hgo : ∀ v ok, opR c x.data.toList = (v, ok) → ontimeref05_Read.j4 (k + 1) ws sh (j : Int) v ok cur.f0 cur.f1 cur.f2 cur.f3 cur.f4 = some (readR (bytesOf ws)) := by
      intro v ok he
      simp only [ontimeref05_Read.j4]
      cases ok with
      | false => rw [if_neg (by simp), hno (by rw [he])]
      | true =>
        have hst := ih k (j + 1) (setF cur c v) (by omega) (by omega) (hp.step h0 h1 c v x hs hx he)
        rw [if_pos rfl, if_pos (by omega), if_pos (by omega), HBt.out, hw]
        rcases hcl with rfl | rfl | rfl | rfl
        · rw [setF_a] at hst
          rw [if_pos rfl]; exact hst
        · rw [setF_b] at hst
          rw [if_neg (by decide), if_pos rfl]; exact hst
        · rw [setF_c] at hst
          rw [if_neg (by decide), if_neg (by decide), if_pos rfl]; exact hst
        · rw [setF_i] at hst
          rw [if_neg (by decide), if_neg (by decide), if_neg (by decide)]; exact hst
    simp only [ontimeref05_Read.l2]
    rw [if_pos (by omega), hw, if_pos (by omega), if_pos (by omega), rdOf_at ws (j + 1) x hx, register_eval x hxs (k + 1) (by omega), Option.bind_some, if_pos (by omega), HBt.out]
    by_cases h105 : c = 105
    · rw [if_pos h105, number_eval x hxs (k + 1) (by omega), Option.bind_some]
      exact hgo _ _ (by unfold opR; rw [if_pos h105])
    · rw [if_neg h105]
      exact hgo _ _ (by unfold opR; rw [if_neg h105])
theorem l1_loop (ws : List ByteArray) (hN : ws.length ≤ 1000000) (x0 : ByteArray) (hx0 : ws[0]? = some x0) (hsz : ∀ x ∈ ws, x.size ≤ 1000000) :
    ∀ (d k j : Nat), j + d = 30 → d + 50 ≤ k → (∀ q : Nat, q < j → mnem (q : Int) ≠ x0.data.toList) →
    ontimeref05_Read.l1 k ws namesTab (j : Int) = some (readR (bytesOf ws)) := by
  have hnl := namesTab_len
  have hpos : 0 < ws.length := (List.getElem?_eq_some_iff.1 hx0).1
  intro d
  induction d with
  | zero =>
    intro k j hj hk hq
    obtain ⟨k, rfl⟩ : ∃ m, k = m + 1 := ⟨k - 1, by omega⟩
    simp only [ontimeref05_Read.l1]
    rw [if_neg (by omega), readR_none]
    intro i' hd
    obtain ⟨a, b, c, _⟩ := dec_op hd hx0
    refine hq i'.f0.toNat (by omega) ?_
    rw [show ((i'.f0.toNat : Nat) : Int) = i'.f0 by omega]
    exact a
  | succ d ih =>
    intro k j hj hk hq
    obtain ⟨k, rfl⟩ : ∃ m, k = m + 1 := ⟨k - 1, by omega⟩
    have hlt : j < 30 := by omega
    have hrow : namesTab[j]? = some (rowOf (j : Int)).f0 := by
      have hl2 := rowTab_len
      rw [names_rows, List.getElem?_map, List.getElem?_eq_getElem (by omega)]
      simp [rowOf, rd_T76, List.getD, List.getElem?_eq_getElem (show j < rowTab.length by omega)]
    have hr0 : rdOf ByteArray.empty ws 0 = x0 := rdOf_at ws 0 x0 hx0
    have hm8 : ((j : Int)) % 256 = (j : Int) := by omega
    simp only [ontimeref05_Read.l1]
    rw [if_pos (by omega), if_pos (by omega), if_pos (by omega), rdOf_at namesTab j _ hrow, hr0, ByteArray.toList_eq, ByteArray.toList_eq]
    by_cases he : (rowOf (j : Int)).f0.data.toList = x0.data.toList
    · have hsp : ontimeref05_Shape.f k (j : Int) = some (rowOf (j : Int)).f1 := raise_to (fun k => ontimeref05_Shape.f k (j : Int)) (fun k => ontimeref05_Shape.mono _ k) (shape_eval (j : Int) (by omega) (by omega)) k (by omega)
      have hsh : (rowOf (j : Int)).f1.size = (shapeI (j : Int)).length := (nums8_len _).symm
      have hl3 := (cls_facts (j : Int) (by omega) (by omega)).2.2.2.1
      have hw : wrap64 (((rowOf (j : Int)).f1.size : Int) + 1) = (((shapeI (j : Int)).length + 1 : Nat) : Int) := by rw [hsh]; exact wrap_next _ 4 (by omega) (by omega)
      rw [if_pos he, hm8, hsp, Option.bind_some, hw]
      by_cases hlen : ws.length = (shapeI (j : Int)).length + 1
      · rw [if_pos (by omega)]
        exact l2_loop ws (j : Int) (by omega) (by omega) _ hsh (Lib.hid (bt_shape _)) x0 hx0 he.symm hlen hsz (shapeI (j : Int)).length k 0 ⟨(j : Int), 0, 0, 0, 0⟩ (by omega) (by omega) (PartR.start ws _)
      · rw [if_neg (by omega), readR_none]
        intro i' hd
        obtain ⟨a, b, c, e⟩ := dec_op hd hx0
        have ho := mnem_inj _ _ b c (by omega) (by omega) (a.trans he.symm)
        rw [ho] at e
        exact hlen e
    · rw [if_neg he, wrap_next j 30 hlt (by omega)]
      refine ih k (j + 1) (by omega) (by omega) (fun q hq2 => ?_)
      by_cases e : q = j
      · subst e; exact he
      · exact hq q (by omega)
theorem j1_eval (x : ByteArray) (hx : x.size ≤ 100000) (k : Nat) (hk : 2 * x.size + 100 ≤ k) :
    ontimeref05_Read.j1 k x = some (if fieldsGo [] x.data.toList = [] then (0, 0, 0, 0, 0, 0) else readR (fieldsGo [] x.data.toList)) := by
  obtain ⟨k, rfl⟩ : ∃ m, k = m + 1 := ⟨k - 1, by omega⟩
  have hl := size_len x
  have hfs := fieldsGo_size x.data.toList []
  have hb : bytesOf ((fieldsGo [] x.data.toList).map str) = fieldsGo [] x.data.toList := by
    unfold bytesOf
    rw [List.map_map]
    exact List.map_id'' (fun _ => rfl) _
  simp only [ontimeref05_Read.j1]
  rw [words_eval x (by omega) k (by omega), Option.bind_some]
  simp only [List.length_nil, Nat.add_zero] at hfs
  generalize fieldsGo [] x.data.toList = F at hfs hb
  cases F with
  | nil => rfl
  | cons w F =>
    rw [if_neg (by simp; omega), names_eq, Option.bind_some, if_neg (by simp)]
    have hsz : ∀ y ∈ (w :: F).map str, y.size ≤ 1000000 := by
      intro y hy
      obtain ⟨l, hl2, rfl⟩ := List.mem_map.1 hy
      have := flat_mem _ _ hl2
      rw [str_size]
      omega
    have := l1_loop ((w :: F).map str) (by rw [List.length_map]; omega) (str w) rfl hsz 30 k 0 (by omega) (by omega) (fun q hq => by omega)
    rw [hb] at this
    exact this
theorem read_loop (x : ByteArray) (hx : x.size ≤ 100000) (r : Int × Int × Int × Int × Int × Int) (K : Nat) (hr : ∀ k, K ≤ k → ontimeref05_Read.j1 k (str (codeL x.data.toList)) = some r) :
    ∀ (d k i : Nat), i + d = x.size → K + d + 1 ≤ k → (59 : UInt8) ∉ x.data.toList.take i → ontimeref05_Read.l0 k x (i : Int) = some r := by
  have hl := size_len x
  intro d
  induction d with
  | zero =>
    intro k i hi hk hn
    obtain ⟨k, rfl⟩ : ∃ m, k = m + 1 := ⟨k - 1, by omega⟩
    simp only [ontimeref05_Read.l0]
    rw [if_neg (by omega)]
    rw [List.take_of_length_le (by omega)] at hn
    have e : str (codeL x.data.toList) = x := by
      unfold codeL
      rw [takeWhile_all 59 _ hn]
      rfl
    rw [e] at hr
    exact hr k (by omega)
  | succ d ih =>
    intro k i hi hk hn
    obtain ⟨k, rfl⟩ : ∃ m, k = m + 1 := ⟨k - 1, by omega⟩
    have hlt : i < x.size := by omega
    simp only [ontimeref05_Read.l0]
    rw [if_pos (by omega), if_pos (by omega), bt_list x i hlt]
    by_cases h59 : x.data.toList.getD i 0 = 59
    · rw [if_pos (by rw [h59]; rfl), if_pos (by omega)]
      have e : x.extract 0 i = str (codeL x.data.toList) := by
        have h1 : (x.extract 0 i).data.toList = codeL x.data.toList := by
          rw [Lib.extract_data, List.drop_zero, Nat.sub_zero]
          unfold codeL
          have hsp : x.data.toList = x.data.toList.take i ++ 59 :: x.data.toList.drop (i + 1) := by
            conv => lhs; rw [← List.take_append_drop i x.data.toList]
            rw [drop_cons x i hlt, h59]
          conv => rhs; rw [hsp]
          rw [List.takeWhile_append_of_pos (fun b hb => by simp only [bne_iff_ne, ne_eq]; rintro rfl; exact hn hb)]
          simp
        exact ByteArray.ext (Array.toList_inj.1 (by rw [h1]; rfl))
      simp only [Int.toNat_natCast]
      rw [e]
      exact hr k (by omega)
    · rw [if_neg (fun e => h59 (UInt8.toNat_inj.1 (by have : (59 : UInt8).toNat = 59 := rfl; omega))), wrap_next i x.size hlt (by omega)]
      refine ih k (i + 1) (by omega) (by omega) (fun hm => ?_)
      rw [List.take_add_one, List.getElem?_eq_getElem (by omega)] at hm
      rcases List.mem_append.1 hm with hm | hm
      · exact hn hm
      · apply h59
        rw [List.getD_eq_getElem?_getD, List.getElem?_eq_getElem (by omega)]
        simp at hm
        exact hm.symm
/-- What the reference's Read answers of a line. -/
def lineR (l : List UInt8) : Int × Int × Int × Int × Int × Int := if wordsL l = [] then (0, 0, 0, 0, 0, 0) else readR (wordsL l)
theorem read_eval (x : ByteArray) (hx : x.size ≤ 100000) (k : Nat) (hk : 3 * x.size + 110 ≤ k) : ontimeref05_Read.f k x = some (lineR x.data.toList) := by
  have hc := codeL_len x.data.toList
  have hl := size_len x
  have := read_loop x hx (lineR x.data.toList) (2 * x.size + 100) (fun k hk => j1_eval (str (codeL x.data.toList)) (by rw [str_size]; omega) k (by rw [str_size]; omega)) x.size k 0 (by omega) (by omega) (by simp)
  exact this
end Go.Proofs.YtmgafakahbanaaaDoor.Pa
