/- UnitFormat answers true. -/
import Derived.Test.YtmpadildchphgaaGreatDoorVUQ
import Derived.ChangeMaps5
namespace Go.Proofs.YtmpadildchphgaaGreatDoor
open Go.ChangeShapes Go.WideShapes Go.ChangeAt Go.RowKit Go.Joins
open Go.ChangeMaps (open_string)
theorem fmt_no32 (z : Int) : (32 : UInt8) ∉ fmt z := by
  rw [fmt_split]
  intro h
  rcases List.mem_append.1 h with h | h
  · split at h
    · simp at h
    · cases h
  · exact udec_nd _ (by decide) h
theorem fmtQ_no32 (q : Rat) : (32 : UInt8) ∉ fmtQ q := by
  unfold fmtQ
  split
  · exact fmt_no32 _
  · intro h
    rcases List.mem_append.1 h with h | h
    · exact fmt_no32 _ h
    · rcases List.mem_cons.1 h with h | h
      · cases h
      · exact fmt_no32 _ h
theorem split32 {c : UInt8} : ∀ {a b s t : List UInt8}, c ∉ a → c ∉ b → a ++ c :: s = b ++ c :: t → a = b ∧ s = t
  | [], [], s, t, _, _, h => ⟨rfl, by simpa using h⟩
  | [], y :: b, s, t, _, hb, h => by simp at h; exact absurd h.1.symm (fun e => hb (by simp [e]))
  | x :: a, [], s, t, ha, _, h => by simp at h; exact absurd h.1 (fun e => ha (by simp [e]))
  | x :: a, y :: b, s, t, ha, hb, h => by
    simp at h
    obtain ⟨rfl, h⟩ := h
    obtain ⟨rfl, h2⟩ := split32 (fun e => ha (by simp [e])) (fun e => hb (by simp [e])) h
    exact ⟨rfl, h2⟩
theorem fmtQ_inj {a b : Rat} {j k : Nat} (h : SzQ j a) (h' : SzQ k b) (hj : j ≤ 1000) (hk : k ≤ 1000) (e : fmtQ a = fmtQ b) : a = b := by
  have h1 := parse_fmtQ (q := a) (by have := fmtQ_len h; omega)
  have h2 := parse_fmtQ (q := b) (by have := fmtQ_len h'; omega)
  rw [e, h2] at h1
  exact (Option.some.inj h1).symm
def sfx (p : Int) : List UInt8 := if p = 0 then [] else if p = 1 then [32, 109, 109] else [32, 109, 109, 94] ++ fmt p
theorem fmtQt_sfx (a : Rat) (p : Int) : fmtQt a p = fmtQ a ++ sfx p := by
  unfold fmtQt sfx
  split
  · simp
  · split
    · rfl
    · rw [List.append_assoc]
theorem fmt_inj4 {p p' : Int} (h : inP p = true) (h' : inP p' = true) (e : fmt p = fmt p') : p = p' := by
  have b1 := (fmtQt_len (a := ((0 : Int) : Rat)) s_zero h).2
  have b2 := (fmtQt_len (a := ((0 : Int) : Rat)) s_zero h').2
  have h1 := pz_fmt (z := p) (by omega)
  have h2 := pz_fmt (z := p') (by omega)
  rw [e, h2] at h1
  exact (Prod.mk.inj h1).1.symm
theorem sfx_form (p : Int) : sfx p = [] ∧ p = 0 ∨ ∃ r, sfx p = 32 :: r ∧ p ≠ 0 := by
  unfold sfx
  split
  · exact .inl ⟨rfl, by assumption⟩
  · split
    · exact .inr ⟨_, rfl, by assumption⟩
    · exact .inr ⟨_, rfl, by assumption⟩
theorem fmtQt_inj {a b : Rat} {p p' : Int} (h : SzQ 4 a) (h' : SzQ 4 b) (hp : inP p = true) (hp' : inP p' = true) (e : fmtQt a p = fmtQt b p') : p = p' ∧ a = b := by
  rw [fmtQt_sfx, fmtQt_sfx] at e
  rcases sfx_form p with ⟨e1, e2⟩ | ⟨r, e1, e2⟩ <;> rcases sfx_form p' with ⟨e1', e2'⟩ | ⟨r', e1', e2'⟩
  · rw [e1, e1', List.append_nil, List.append_nil] at e
    exact ⟨e2.trans e2'.symm, fmtQ_inj h h' (by decide) (by decide) e⟩
  · rw [e1, e1', List.append_nil] at e
    exact absurd (show (32 : UInt8) ∈ fmtQ a by rw [e]; simp) (fmtQ_no32 a)
  · rw [e1, e1', List.append_nil] at e
    exact absurd (show (32 : UInt8) ∈ fmtQ b by rw [← e]; simp) (fmtQ_no32 b)
  · rw [e1, e1'] at e
    obtain ⟨h1, h2⟩ := split32 (fmtQ_no32 a) (fmtQ_no32 b) e
    refine ⟨?_, fmtQ_inj h h' (by decide) (by decide) h1⟩
    have e3 : sfx p = sfx p' := by rw [e1, e1', h2]
    unfold sfx at e3
    rw [if_neg e2, if_neg e2'] at e3
    split at e3
    · split at e3
      · rename_i a1 a2; exact a1.trans a2.symm
      · simp at e3
    · split at e3
      · simp at e3
      · simp at e3; exact fmt_inj4 hp hp' e3
set_option maxHeartbeats 2000000 in
theorem okl_UnitFormat {na nb : Bool} {xs ys : List Nat} {p : Int} {ma mb : Bool} {us vs : List Nat} {p' : Int} (hw : Wd xs) (hw' : Wd ys) (_ : -9223372036854775808 ≤ p) (_ : p ≤ 9223372036854775807) (hu : Wd us) (hu' : Wd vs) (_ : -9223372036854775808 ≤ p') (_ : p' ≤ 9223372036854775807) : CallOK Tryz.prog 5 [dI3 na xs nb ys p, dI3 ma us mb vs p'] (.one (dB true)) := by
  cases hf : fewQt na xs nb ys p
  · refine callOK_of TT_ok mixT Tryz.func5 rfl rfl (Nat.le_of_ble_eq_true rfl) ?_
    repeat (first | refine r_op rfl rfl rfl rfl ?_ | refine r_skip rfl rfl rfl ?_ | refine .done ?_ | refine r_seq (T := TT) ?_ | refine r_region (T := TT) rfl ?_ | refine r_block (T := TT) ?_ | refine r_then (T := TT) rfl ?_ | refine r_else (T := TT) rfl ?_)
    refine r_call (ok_l23_awake) rfl rfl rfl rfl rfl rfl rfl ?_
    repeat (first | refine r_op rfl rfl rfl rfl ?_ | refine r_skip rfl rfl rfl ?_ | refine .done ?_ | refine r_seq (T := TT) ?_ | refine r_region (T := TT) rfl ?_ | refine r_block (T := TT) ?_ | refine r_then (T := TT) rfl ?_ | refine r_else (T := TT) rfl ?_)
    refine r_call (ok_r23_Valid hw hw' hf) rfl rfl rfl rfl rfl rfl rfl ?_
    repeat (first | refine r_op rfl rfl rfl rfl ?_ | refine r_skip rfl rfl rfl ?_ | refine .done ?_ | refine r_seq (T := TT) ?_ | refine r_region (T := TT) rfl ?_ | refine r_block (T := TT) ?_ | refine r_then (T := TT) rfl ?_ | refine r_else (T := TT) rfl ?_)
    refine r_call (ok_l23_awake) rfl rfl rfl rfl rfl rfl rfl ?_
    repeat (first | refine r_op rfl rfl rfl rfl ?_ | refine r_skip rfl rfl rfl ?_ | refine .done ?_ | refine r_seq (T := TT) ?_ | refine r_region (T := TT) rfl ?_ | refine r_block (T := TT) ?_ | refine r_then (T := TT) rfl ?_ | refine r_else (T := TT) rfl ?_)
    exact r_fin (T := TT) rfl rfl
  cases hg : fewQt ma us mb vs p'
  · refine callOK_of TT_ok mixT Tryz.func5 rfl rfl (Nat.le_of_ble_eq_true rfl) ?_
    repeat (first | refine r_op rfl rfl rfl rfl ?_ | refine r_skip rfl rfl rfl ?_ | refine .done ?_ | refine r_seq (T := TT) ?_ | refine r_region (T := TT) rfl ?_ | refine r_block (T := TT) ?_ | refine r_then (T := TT) rfl ?_ | refine r_else (T := TT) rfl ?_)
    refine r_call (ok_l23_awake) rfl rfl rfl rfl rfl rfl rfl ?_
    repeat (first | refine r_op rfl rfl rfl rfl ?_ | refine r_skip rfl rfl rfl ?_ | refine .done ?_ | refine r_seq (T := TT) ?_ | refine r_region (T := TT) rfl ?_ | refine r_block (T := TT) ?_ | refine r_then (T := TT) rfl ?_ | refine r_else (T := TT) rfl ?_)
    refine r_call (ok_r23_Valid hw hw' hf) rfl rfl rfl rfl rfl rfl rfl ?_
    repeat (first | refine r_op rfl rfl rfl rfl ?_ | refine r_skip rfl rfl rfl ?_ | refine .done ?_ | refine r_seq (T := TT) ?_ | refine r_region (T := TT) rfl ?_ | refine r_block (T := TT) ?_ | refine r_then (T := TT) rfl ?_ | refine r_else (T := TT) rfl ?_)
    refine r_call (ok_r23_Valid hu hu' hg) rfl rfl rfl rfl rfl rfl rfl ?_
    repeat (first | refine r_op rfl rfl rfl rfl ?_ | refine r_skip rfl rfl rfl ?_ | refine .done ?_ | refine r_seq (T := TT) ?_ | refine r_region (T := TT) rfl ?_ | refine r_block (T := TT) ?_ | refine r_then (T := TT) rfl ?_ | refine r_else (T := TT) rfl ?_)
    refine r_call (ok_l23_awake) rfl rfl rfl rfl rfl rfl rfl ?_
    repeat (first | refine r_op rfl rfl rfl rfl ?_ | refine r_skip rfl rfl rfl ?_ | refine .done ?_ | refine r_seq (T := TT) ?_ | refine r_region (T := TT) rfl ?_ | refine r_block (T := TT) ?_ | refine r_then (T := TT) rfl ?_ | refine r_else (T := TT) rfl ?_)
    exact r_fin (T := TT) rfl rfl
  have v1 := ok_r23_Valid hw hw' hf
  have v2 := ok_r23_Valid hu hu' hg
  obtain ⟨a, ea, sa, pa⟩ := few_qt hw hw' hf
  obtain ⟨b, eb, sb, pb⟩ := few_qt hu hu' hg
  rw [ea] at v1 ⊢
  rw [eb] at v2 ⊢
  have f1 := ok_u_Format sa (by decide) pa rfl
  have f2 := ok_r23_Format sa (by decide) pa rfl
  have f3 := ok_u_Format sb (by decide) pb rfl
  have k := ok_r23_Same (p := p) (p' := p') (b := b) sa (by decide) (t := decide (fmtQt a p = fmtQt b p')) (by
    by_cases e : fmtQt a p = fmtQt b p'
    · obtain ⟨e1, e2⟩ := fmtQt_inj sa sb pa pb e
      rw [decide_eq_true e, decide_eq_true e1, decide_eq_true e2]; rfl
    · rw [decide_eq_false e]
      by_cases e1 : p = p'
      · by_cases e2 : a = b
        · subst e1 e2; exact absurd rfl e
        · rw [decide_eq_false e2]; simp
      · rw [decide_eq_false e1]; rfl)
  refine callOK_of TT_ok mixT Tryz.func5 rfl rfl (Nat.le_of_ble_eq_true rfl) ?_
  repeat (first | refine r_op rfl rfl rfl rfl ?_ | refine r_skip rfl rfl rfl ?_ | refine .done ?_ | refine r_seq (T := TT) ?_ | refine r_region (T := TT) rfl ?_ | refine r_block (T := TT) ?_ | refine r_then (T := TT) rfl ?_ | refine r_else (T := TT) rfl ?_)
  refine r_call (ok_l23_awake) rfl rfl rfl rfl rfl rfl rfl ?_
  repeat (first | refine r_op rfl rfl rfl rfl ?_ | refine r_skip rfl rfl rfl ?_ | refine .done ?_ | refine r_seq (T := TT) ?_ | refine r_region (T := TT) rfl ?_ | refine r_block (T := TT) ?_ | refine r_then (T := TT) rfl ?_ | refine r_else (T := TT) rfl ?_)
  refine r_call (v1) rfl rfl rfl rfl rfl rfl rfl ?_
  repeat (first | refine r_op rfl rfl rfl rfl ?_ | refine r_skip rfl rfl rfl ?_ | refine .done ?_ | refine r_seq (T := TT) ?_ | refine r_region (T := TT) rfl ?_ | refine r_block (T := TT) ?_ | refine r_then (T := TT) rfl ?_ | refine r_else (T := TT) rfl ?_)
  refine r_call (v2) rfl rfl rfl rfl rfl rfl rfl ?_
  repeat (first | refine r_op rfl rfl rfl rfl ?_ | refine r_skip rfl rfl rfl ?_ | refine .done ?_ | refine r_seq (T := TT) ?_ | refine r_region (T := TT) rfl ?_ | refine r_block (T := TT) ?_ | refine r_then (T := TT) rfl ?_ | refine r_else (T := TT) rfl ?_)
  refine r_call (f1) rfl rfl rfl rfl rfl rfl rfl ?_
  iterate 1 (first | refine r_op rfl rfl rfl rfl ?_ | refine r_skip rfl rfl rfl ?_)
  refine r_call (f2) rfl rfl rfl rfl rfl rfl rfl ?_
  refine r_bin rfl rfl rfl rfl rfl rfl rfl (binV_eqT (a := fmtQt a p) (b := fmtQt a p) rfl) ?_
  iterate 2 (first | refine r_op rfl rfl rfl rfl ?_ | refine r_skip rfl rfl rfl ?_)
  refine r_call (f1) rfl rfl rfl rfl rfl rfl rfl ?_
  iterate 1 (first | refine r_op rfl rfl rfl rfl ?_ | refine r_skip rfl rfl rfl ?_)
  refine r_call (f3) rfl rfl rfl rfl rfl rfl rfl ?_
  refine r_bin rfl rfl rfl rfl rfl rfl rfl (binV_eqS (a := fmtQt a p) (b := fmtQt b p')) ?_
  iterate 2 (first | refine r_op rfl rfl rfl rfl ?_ | refine r_skip rfl rfl rfl ?_)
  refine r_call (k) rfl rfl rfl rfl rfl rfl rfl ?_
  refine r_eq (v' := .bool true) rfl rfl rfl rfl ?_ ?_
  · exact congrArg Value.bool ((by simp))
  repeat (first | refine r_op rfl rfl rfl rfl ?_ | refine r_skip rfl rfl rfl ?_ | refine .done ?_ | refine r_seq (T := TT) ?_ | refine r_region (T := TT) rfl ?_ | refine r_block (T := TT) ?_ | refine r_then (T := TT) rfl ?_ | refine r_else (T := TT) rfl ?_)
  exact r_fin (T := TT) rfl rfl
set_option maxRecDepth 100000 in
theorem unitFormat_lifted (os : Os) (started : os.Started) (H : Type) (enc : TypeId × Value → H) :
    ReturnsInHanded {} Tryz.checked os 5 .any (fun w args => (Rows.unitFormatSpec.pre enc Tryz.prog Tryz.f5 [] false w args ∧ laidMetH Tryz.prog Rows.unitFormatRow.laid w) ∧ sizedMet enc Tryz.prog Tryz.f5 (OpenSpec.ofChange Rows.unitFormatSpec) false w args)
      (Rows.unitFormatSpec.post enc Tryz.prog Tryz.f5 false true false false) := by
  refine returnsInHanded_of_change_and (C := Tryz.checked) (X := fun w _ => laidMetH Tryz.prog Rows.unitFormatRow.laid w) (fun _ _ _ hh h => h.of_heap hh) Tryz.own started (by kernel_rfl) Tryz.func5
    (ChangeSpec.witness_shaped (enc := enc) (C := Tryz.checked) (os := os) (X := fun w _ => laidMetH Tryz.prog Rows.unitFormatRow.laid w) false (World.laidAll Tryz.prog os Rows.unitFormatRow.laid) #[.agg #[.bool false, .slice none 0 0, .bool false, .slice none 0 0, .int .i64 0], .agg #[.bool false, .slice none 0 0, .bool false, .slice none 0 0, .int .i64 0]] 8 (World.laidAll_os _ _ _) (World.shaped_of_ZipB (by kernel_rfl) (by kernel_rfl)) (by kernel_rfl) (by kernel_rfl) (by kernel_rfl)
      (by rw [MakeChecks.laidMetH_plain _ _ _ (by kernel_rfl)]; exact laidMet_laidAll _ (by kernel_rfl) (by kernel_rfl))) ?_
  intro W base args ds gs before hval0 hW _ _ hL _
  have htab : NoWord (fun _ => False) W := tabs_of (by kernel_rfl) (by unfold Rows.unitFormatRow; simp) (by unfold Rows.unitFormatRow; simp) hL
  have hval : ∀ (j : Nat) t v, Tryz.f5.params[j]? = some t → args[j]? = some v → Value.okWide Tryz.prog W .any base t v := hval0
  have hW' := hW
  obtain ⟨p, q, hA0, hV, rfl, hfz, hnd⟩ := hW
  have hA : DataW.TrodAll enc Tryz.prog W 0 (fun _ => true) true Tryz.f5.params.toList args.toList ds p := hA0
  rw [Tryz.params5] at hA hval
  obtain ⟨v0, v1, d0, d1, p0, p1, rfl, rfl, rfl, h0, h1⟩ := trodAll_two hA
  obtain ⟨n0, x0, m0, y0, p0, a0, w0, u0, b0, c0⟩ := open_qty (hval 0 28 v0 rfl rfl) h0
  obtain ⟨n1, x1, m1, y1, p1, a1, w1, u1, b1, c1⟩ := open_qty (hval 1 28 v1 rfl rfl) h1
  refine (law_calls (okl_UnitFormat w0 u0 b0 c0 w1 u1 b1 c1) htab (vs := [v0, v1]) ⟨a0, a1, trivial⟩).mono fun e W' ⟨he, hB⟩ => ?_
  subst he
  exact ⟨_, rfl, law_post hW' rfl (by kernel_rfl) (by kernel_rfl) (fun ds hl => by
    match ds, hl with
    | [_, _], _ => rfl) hB⟩
theorem unitFormat_holds : Rows.UnitFormatSaid :=
  OpenClaim.holds_of_wide 5 Tryz.f5 rfl rfl rfl rfl rfl rfl rfl ⟨rfl, rfl, rfl, rfl, rfl⟩ rfl rfl rfl rfl rfl (by kernel_rfl) Tryz.func5 (by kernel_rfl)
    (of_decide_eq_true (by kernel_rfl)) (by unfold Func.isWrapper; rw [if_neg (of_decide_eq_false (by kernel_rfl))]; exact ⟨rfl, rfl⟩)
    (fun os started H enc _ => unitFormat_lifted os started H enc)
theorem unitFormat_card : Rows.UnitFormatCardSaid :=
  Claim7.holds_tied_plain_at .later [] [.data, .data, .data, .data] true (true, "c85a1a535918bc2545e059ab9f24f5f9242015ab5fd3d2e0e636bf26319e3cb4") false
    unitFormat_holds (fun _ h => by cases h) (by kernel_rfl) (fun _ h => by cases h) unitFormat_row_tie rfl ⟨rfl, rfl⟩ (by kernel_rfl) rfl
    (fun f fn hf hfn => by
      obtain rfl : f = 5 := Option.some.inj ((show Tryz.prog.funcNamed "setsquare/setsquarelaw23.UnitFormat" = some 5 by kernel_rfl).symm.trans hf) |>.symm
      obtain rfl : fn = Tryz.f5 := (Option.some.inj (Tryz.func5.symm.trans hfn)).symm
      exact ⟨by kernel_rfl, fun j t ht => by
        rw [Tryz.params5] at ht
        have hm : t ∈ [28] := by simpa using Array.mem_of_getElem? ht
        have hall : ([28].all fun u => !Tryz.prog.wantsStandIn u) = true := by kernel_rfl
        exact (show Tryz.prog.wantsStandIn t = false by simpa using List.all_eq_true.1 hall t hm)⟩)
    (by kernel_rfl)
end Go.Proofs.YtmpadildchphgaaGreatDoor
