/- UnitEval answers true. -/
import Derived.Test.YtmpadildchphgaaGreatDoorEZ6
import Derived.ChangeMaps5
namespace Go.Proofs.YtmpadildchphgaaGreatDoor
open Go.ChangeShapes Go.WideShapes Go.ChangeAt Go.RowKit Go.Joins
open Go.ChangeMaps (open_string)
set_option maxHeartbeats 2000000 in
theorem okl_UnitEval {x : Rx} {ns : List (List UInt8)} {vs : List Rq} (hx : WdX x) (hw : ∀ v ∈ vs, WdQ v) : CallOK Tryz.prog 4 [dR x, dEnv ns vs] (.one (dB true)) := by
  have c2 := ok_l23_small x hx 60 (by decide)
  have hnd := ndX_le x 60
  by_cases hR : ns.length = vs.length ∧ ns.length ≤ 12 ∧ ∀ i, GoodR ns vs i
  · have c1 := ok_Right hw (ns := ns) (b := true) ⟨fun _ => hR, fun _ => rfl⟩
    obtain ⟨l, hE, hlen, hS, hv⟩ := right_env hw hR.1 hR.2.2
    rw [hE] at c1 ⊢
    cases hsm : (decide (ndX x 60 ≤ 60) && (decide (ndX x 120 ≤ 120) && ltX x)) with
    | false =>
      rw [hsm] at c2
      obtain ⟨o1, na1, xs1, nb1, ys1, nm1, n1, cs1, hA⟩ := aR_form x
      rw [show dR x = .agg (cell7 o1 na1 xs1 nb1 ys1 nm1 n1 cs1) from congrArg DV.agg hA] at c2 ⊢
      refine callOK_of TT_ok mixT Tryz.func4 rfl rfl (Nat.le_of_ble_eq_true rfl) ?_
      repeat (first | refine r_op rfl rfl rfl rfl ?_ | refine r_skip rfl rfl rfl ?_ | refine .done ?_ | refine r_seq (T := TT) ?_ | refine r_region (T := TT) rfl ?_ | refine r_block (T := TT) ?_ | refine r_then (T := TT) rfl ?_ | refine r_else (T := TT) rfl ?_)
      refine r_call (ok_l23_awake) rfl rfl rfl rfl rfl rfl rfl ?_
      repeat (first | refine r_op rfl rfl rfl rfl ?_ | refine r_skip rfl rfl rfl ?_ | refine .done ?_ | refine r_seq (T := TT) ?_ | refine r_region (T := TT) rfl ?_ | refine r_block (T := TT) ?_ | refine r_then (T := TT) rfl ?_ | refine r_else (T := TT) rfl ?_)
      refine r_call (c1) rfl rfl rfl rfl rfl rfl rfl ?_
      repeat (first | refine r_op rfl rfl rfl rfl ?_ | refine r_skip rfl rfl rfl ?_ | refine .done ?_ | refine r_seq (T := TT) ?_ | refine r_region (T := TT) rfl ?_ | refine r_block (T := TT) ?_ | refine r_then (T := TT) rfl ?_ | refine r_else (T := TT) rfl ?_)
      refine r_call (c2) rfl rfl rfl rfl rfl rfl rfl ?_
      repeat (first | refine r_op rfl rfl rfl rfl ?_ | refine r_skip rfl rfl rfl ?_ | refine .done ?_ | refine r_seq (T := TT) ?_ | refine r_region (T := TT) rfl ?_ | refine r_block (T := TT) ?_ | refine r_then (T := TT) rfl ?_ | refine r_else (T := TT) rfl ?_)
      refine r_call (ok_l23_awake) rfl rfl rfl rfl rfl rfl rfl ?_
      repeat (first | refine r_op rfl rfl rfl rfl ?_ | refine r_skip rfl rfl rfl ?_ | refine .done ?_ | refine r_seq (T := TT) ?_ | refine r_region (T := TT) rfl ?_ | refine r_block (T := TT) ?_ | refine r_then (T := TT) rfl ?_ | refine r_else (T := TT) rfl ?_)
      exact r_fin (T := TT) rfl rfl
    | true =>
      rw [hsm] at c2
      simp only [Bool.and_eq_true, decide_eq_true_eq] at hsm
      obtain ⟨m1, m2, m3⟩ := hsm
      have hsz := hnd.2.2 m1
      obtain ⟨v, c3, h3⟩ := ok_r22_Valid x hx m3 (by omega)
      by_cases hv0 : v = 0
      · obtain ⟨e, rfl, he, _⟩ := h3 hv0
        subst hv0
        have hwt := wt_sz e
        have hv8 : ∀ x ∈ l, SzQ 8 x.2.1 ∧ inP x.2.2 = true := fun x hx => ⟨(hv x hx).1.mono (by decide), (hv x hx).2⟩
        have c4 := ok_u_Eval hS (by omega) hv8 e he (by omega)
        have c5 := ok_r23_Eval (l := l) (by omega) hv8 e he (by omega)
        have c6 := ok_l23_sameR (k := wtE e) (r := evE (envF l) e) (fun x h => (ev_ok (env_of hv8) he h).1) (by omega) (fun z h => ev_err h)
        rw [toRV_eq] at c4 c5
        obtain ⟨o1, na1, xs1, nb1, ys1, nm1, n1, cs1, hA⟩ := aR_form (rx e)
        have c2 : CallOK Tryz.prog 20 [.agg (aR (rx e)), _] _ := c2
        have c3 : CallOK Tryz.prog 21 [.agg (aR (rx e))] _ := c3
        have c4 : CallOK Tryz.prog 22 [.agg (aR (rx e)), _, _] _ := c4
        have c5 : CallOK Tryz.prog 23 [.agg (aR (rx e)), _, _] _ := c5
        show CallOK Tryz.prog _ [.agg (aR (rx e)), _] _
        rw [hA] at c2 c3 c4 c5 ⊢
        generalize evE (envF l) e = R at *
        refine callOK_of TT_ok mixT Tryz.func4 rfl rfl (Nat.le_of_ble_eq_true rfl) ?_
        repeat (first | refine r_op rfl rfl rfl rfl ?_ | refine r_skip rfl rfl rfl ?_ | refine .done ?_ | refine r_seq (T := TT) ?_ | refine r_region (T := TT) rfl ?_ | refine r_block (T := TT) ?_ | refine r_then (T := TT) rfl ?_ | refine r_else (T := TT) rfl ?_)
        refine r_call (ok_l23_awake) rfl rfl rfl rfl rfl rfl rfl ?_
        repeat (first | refine r_op rfl rfl rfl rfl ?_ | refine r_skip rfl rfl rfl ?_ | refine .done ?_ | refine r_seq (T := TT) ?_ | refine r_region (T := TT) rfl ?_ | refine r_block (T := TT) ?_ | refine r_then (T := TT) rfl ?_ | refine r_else (T := TT) rfl ?_)
        refine r_call (c1) rfl rfl rfl rfl rfl rfl rfl ?_
        repeat (first | refine r_op rfl rfl rfl rfl ?_ | refine r_skip rfl rfl rfl ?_ | refine .done ?_ | refine r_seq (T := TT) ?_ | refine r_region (T := TT) rfl ?_ | refine r_block (T := TT) ?_ | refine r_then (T := TT) rfl ?_ | refine r_else (T := TT) rfl ?_)
        refine r_call (c2) rfl rfl rfl rfl rfl rfl rfl ?_
        repeat (first | refine r_op rfl rfl rfl rfl ?_ | refine r_skip rfl rfl rfl ?_ | refine .done ?_ | refine r_seq (T := TT) ?_ | refine r_region (T := TT) rfl ?_ | refine r_block (T := TT) ?_ | refine r_then (T := TT) rfl ?_ | refine r_else (T := TT) rfl ?_)
        refine r_call (c3) rfl rfl rfl rfl rfl rfl rfl ?_
        repeat (first | refine r_op rfl rfl rfl rfl ?_ | refine r_skip rfl rfl rfl ?_ | refine .done ?_ | refine r_seq (T := TT) ?_ | refine r_region (T := TT) rfl ?_ | refine r_block (T := TT) ?_ | refine r_then (T := TT) rfl ?_ | refine r_else (T := TT) rfl ?_)
        refine r_call (c4) rfl rfl rfl rfl rfl rfl rfl ?_
        repeat (first | refine r_op rfl rfl rfl rfl ?_ | refine r_skip rfl rfl rfl ?_ | refine .done ?_ | refine r_seq (T := TT) ?_ | refine r_region (T := TT) rfl ?_ | refine r_block (T := TT) ?_ | refine r_then (T := TT) rfl ?_ | refine r_else (T := TT) rfl ?_)
        refine r_call (c5) rfl rfl rfl rfl rfl rfl rfl ?_
        repeat (first | refine r_op rfl rfl rfl rfl ?_ | refine r_skip rfl rfl rfl ?_ | refine .done ?_ | refine r_seq (T := TT) ?_ | refine r_region (T := TT) rfl ?_ | refine r_block (T := TT) ?_ | refine r_then (T := TT) rfl ?_ | refine r_else (T := TT) rfl ?_)
        refine r_call (c6) rfl rfl rfl rfl rfl rfl rfl ?_
        repeat (first | refine r_op rfl rfl rfl rfl ?_ | refine r_skip rfl rfl rfl ?_ | refine .done ?_ | refine r_seq (T := TT) ?_ | refine r_region (T := TT) rfl ?_ | refine r_block (T := TT) ?_ | refine r_then (T := TT) rfl ?_ | refine r_else (T := TT) rfl ?_)
        exact r_fin (T := TT) rfl rfl
      · obtain ⟨o1, na1, xs1, nb1, ys1, nm1, n1, cs1, hA⟩ := aR_form x
        rw [show dR x = .agg (cell7 o1 na1 xs1 nb1 ys1 nm1 n1 cs1) from congrArg DV.agg hA] at c2 c3 ⊢
        refine callOK_of TT_ok mixT Tryz.func4 rfl rfl (Nat.le_of_ble_eq_true rfl) ?_
        repeat (first | refine r_op rfl rfl rfl rfl ?_ | refine r_skip rfl rfl rfl ?_ | refine .done ?_ | refine r_seq (T := TT) ?_ | refine r_region (T := TT) rfl ?_ | refine r_block (T := TT) ?_ | refine r_then (T := TT) rfl ?_ | refine r_else (T := TT) rfl ?_)
        refine r_call (ok_l23_awake) rfl rfl rfl rfl rfl rfl rfl ?_
        repeat (first | refine r_op rfl rfl rfl rfl ?_ | refine r_skip rfl rfl rfl ?_ | refine .done ?_ | refine r_seq (T := TT) ?_ | refine r_region (T := TT) rfl ?_ | refine r_block (T := TT) ?_ | refine r_then (T := TT) rfl ?_ | refine r_else (T := TT) rfl ?_)
        refine r_call (c1) rfl rfl rfl rfl rfl rfl rfl ?_
        repeat (first | refine r_op rfl rfl rfl rfl ?_ | refine r_skip rfl rfl rfl ?_ | refine .done ?_ | refine r_seq (T := TT) ?_ | refine r_region (T := TT) rfl ?_ | refine r_block (T := TT) ?_ | refine r_then (T := TT) rfl ?_ | refine r_else (T := TT) rfl ?_)
        refine r_call (c2) rfl rfl rfl rfl rfl rfl rfl ?_
        repeat (first | refine r_op rfl rfl rfl rfl ?_ | refine r_skip rfl rfl rfl ?_ | refine .done ?_ | refine r_seq (T := TT) ?_ | refine r_region (T := TT) rfl ?_ | refine r_block (T := TT) ?_ | refine r_then (T := TT) rfl ?_ | refine r_else (T := TT) rfl ?_)
        refine r_call (c3) rfl rfl rfl rfl rfl rfl rfl ?_
        refine r_eq (v' := .bool true) rfl rfl rfl rfl ?_ ?_
        · exact congrArg Value.bool ((by simpa using hv0))
        repeat (first | refine r_op rfl rfl rfl rfl ?_ | refine r_skip rfl rfl rfl ?_ | refine .done ?_ | refine r_seq (T := TT) ?_ | refine r_region (T := TT) rfl ?_ | refine r_block (T := TT) ?_ | refine r_then (T := TT) rfl ?_ | refine r_else (T := TT) rfl ?_)
        refine r_call (ok_l23_awake) rfl rfl rfl rfl rfl rfl rfl ?_
        repeat (first | refine r_op rfl rfl rfl rfl ?_ | refine r_skip rfl rfl rfl ?_ | refine .done ?_ | refine r_seq (T := TT) ?_ | refine r_region (T := TT) rfl ?_ | refine r_block (T := TT) ?_ | refine r_then (T := TT) rfl ?_ | refine r_else (T := TT) rfl ?_)
        exact r_fin (T := TT) rfl rfl
  · have c1 := ok_Right hw (ns := ns) (b := false) ⟨fun h => (by cases h), fun h => absurd h hR⟩
    have hE : dEnv ns vs = .agg [.sl ns.length (aNs ns), .sl vs.length (aRqs vs)] := rfl
    rw [hE] at c1 ⊢
    obtain ⟨o1, na1, xs1, nb1, ys1, nm1, n1, cs1, hA⟩ := aR_form x
    rw [show dR x = .agg (cell7 o1 na1 xs1 nb1 ys1 nm1 n1 cs1) from congrArg DV.agg hA]
    refine callOK_of TT_ok mixT Tryz.func4 rfl rfl (Nat.le_of_ble_eq_true rfl) ?_
    repeat (first | refine r_op rfl rfl rfl rfl ?_ | refine r_skip rfl rfl rfl ?_ | refine .done ?_ | refine r_seq (T := TT) ?_ | refine r_region (T := TT) rfl ?_ | refine r_block (T := TT) ?_ | refine r_then (T := TT) rfl ?_ | refine r_else (T := TT) rfl ?_)
    refine r_call (ok_l23_awake) rfl rfl rfl rfl rfl rfl rfl ?_
    repeat (first | refine r_op rfl rfl rfl rfl ?_ | refine r_skip rfl rfl rfl ?_ | refine .done ?_ | refine r_seq (T := TT) ?_ | refine r_region (T := TT) rfl ?_ | refine r_block (T := TT) ?_ | refine r_then (T := TT) rfl ?_ | refine r_else (T := TT) rfl ?_)
    refine r_call (c1) rfl rfl rfl rfl rfl rfl rfl ?_
    repeat (first | refine r_op rfl rfl rfl rfl ?_ | refine r_skip rfl rfl rfl ?_ | refine .done ?_ | refine r_seq (T := TT) ?_ | refine r_region (T := TT) rfl ?_ | refine r_block (T := TT) ?_ | refine r_then (T := TT) rfl ?_ | refine r_else (T := TT) rfl ?_)
    refine r_call (ok_l23_awake) rfl rfl rfl rfl rfl rfl rfl ?_
    repeat (first | refine r_op rfl rfl rfl rfl ?_ | refine r_skip rfl rfl rfl ?_ | refine .done ?_ | refine r_seq (T := TT) ?_ | refine r_region (T := TT) rfl ?_ | refine r_block (T := TT) ?_ | refine r_then (T := TT) rfl ?_ | refine r_else (T := TT) rfl ?_)
    exact r_fin (T := TT) rfl rfl
set_option maxRecDepth 100000 in
theorem unitEval_lifted (os : Os) (started : os.Started) (H : Type) (enc : TypeId × Value → H) :
    ReturnsInHanded {} Tryz.checked os 4 .any (fun w args => (Rows.unitEvalSpec.pre enc Tryz.prog Tryz.f4 [] false w args ∧ laidMetH Tryz.prog Rows.unitEvalRow.laid w) ∧ sizedMet enc Tryz.prog Tryz.f4 (OpenSpec.ofChange Rows.unitEvalSpec) false w args)
      (Rows.unitEvalSpec.post enc Tryz.prog Tryz.f4 false true false false) := by
  refine returnsInHanded_of_change_and (C := Tryz.checked) (X := fun w _ => laidMetH Tryz.prog Rows.unitEvalRow.laid w) (fun _ _ _ hh h => h.of_heap hh) Tryz.own started (by kernel_rfl) Tryz.func4
    (ChangeSpec.witness_shaped (enc := enc) (C := Tryz.checked) (os := os) (X := fun w _ => laidMetH Tryz.prog Rows.unitEvalRow.laid w) false (World.laidAll Tryz.prog os Rows.unitEvalRow.laid) #[.agg #[.int .i64 0, .bool false, .slice none 0 0, .bool false, .slice none 0 0, .string ByteArray.empty, .slice none 0 0], .agg #[.slice none 0 0, .slice none 0 0]] 8 (World.laidAll_os _ _ _) (World.shaped_of_ZipB (by kernel_rfl) (by kernel_rfl)) (by kernel_rfl) (by kernel_rfl) (by kernel_rfl)
      (by rw [MakeChecks.laidMetH_plain _ _ _ (by kernel_rfl)]; exact laidMet_laidAll _ (by kernel_rfl) (by kernel_rfl))) ?_
  intro W base args ds gs before hval0 hW _ _ hL _
  have htab : NoWord (fun _ => False) W := tabs_of (by kernel_rfl) (by unfold Rows.unitEvalRow; simp) (by unfold Rows.unitEvalRow; simp) hL
  have hval : ∀ (j : Nat) t v, Tryz.f4.params[j]? = some t → args[j]? = some v → Value.okWide Tryz.prog W .any base t v := hval0
  have hW' := hW
  obtain ⟨p, q, hA0, hV, rfl, hfz, hnd⟩ := hW
  have hA : DataW.TrodAll enc Tryz.prog W 0 (fun _ => true) true Tryz.f4.params.toList args.toList ds p := hA0
  rw [Tryz.params4] at hA hval
  obtain ⟨v0, v1, d0, d1, p0, p1, rfl, rfl, rfl, h0, h1⟩ := trodAll_two hA
  obtain ⟨x0, a0, w0⟩ := open_expr (hval 0 38 v0 rfl rfl) h0
  obtain ⟨x1, y1, a1, w1⟩ := open_env (hval 1 42 v1 rfl rfl) h1
  refine (law_calls (okl_UnitEval w0 w1) htab (vs := [v0, v1]) ⟨a0, a1, trivial⟩).mono fun e W' ⟨he, hB⟩ => ?_
  subst he
  exact ⟨_, rfl, law_post hW' rfl (by kernel_rfl) (by kernel_rfl) (fun ds hl => by
    match ds, hl with
    | [_, _], _ => rfl) hB⟩
theorem unitEval_holds : Rows.UnitEvalSaid :=
  OpenClaim.holds_of_wide 4 Tryz.f4 rfl rfl rfl rfl rfl rfl rfl ⟨rfl, rfl, rfl, rfl, rfl⟩ rfl rfl rfl rfl rfl (by kernel_rfl) Tryz.func4 (by kernel_rfl)
    (of_decide_eq_true (by kernel_rfl)) (by unfold Func.isWrapper; rw [if_neg (of_decide_eq_false (by kernel_rfl))]; exact ⟨rfl, rfl⟩)
    (fun os started H enc _ => unitEval_lifted os started H enc)
theorem unitEval_card : Rows.UnitEvalCardSaid :=
  Claim7.holds_tied_plain_at .later [] [.data, .data, .data, .data] true (true, "c85a1a535918bc2545e059ab9f24f5f9242015ab5fd3d2e0e636bf26319e3cb4") false
    unitEval_holds (fun _ h => by cases h) (by kernel_rfl) (fun _ h => by cases h) unitEval_row_tie rfl ⟨rfl, rfl⟩ (by kernel_rfl) rfl
    (fun f fn hf hfn => by
      obtain rfl : f = 4 := Option.some.inj ((show Tryz.prog.funcNamed "setsquare/setsquarelaw23.UnitEval" = some 4 by kernel_rfl).symm.trans hf) |>.symm
      obtain rfl : fn = Tryz.f4 := (Option.some.inj (Tryz.func4.symm.trans hfn)).symm
      exact ⟨by kernel_rfl, fun j t ht => by
        rw [Tryz.params4] at ht
        have hm : t ∈ [38, 42] := by simpa using Array.mem_of_getElem? ht
        have hall : ([38, 42].all fun u => !Tryz.prog.wantsStandIn u) = true := by kernel_rfl
        exact (show Tryz.prog.wantsStandIn t = false by simpa using List.all_eq_true.1 hall t hm)⟩)
    (by kernel_rfl)
end Go.Proofs.YtmpadildchphgaaGreatDoor
