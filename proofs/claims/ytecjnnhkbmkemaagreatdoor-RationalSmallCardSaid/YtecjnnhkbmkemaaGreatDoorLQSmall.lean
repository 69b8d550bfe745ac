/- RationalSmall answers true. -/
import Derived.Test.YtecjnnhkbmkemaaGreatDoorQc
namespace Go.Proofs.YtecjnnhkbmkemaaGreatDoor
open Go.ChangeShapes Go.WideShapes Go.ChangeAt Go.RowKit Go.Joins
open Go.ChangeMaps (open_string)

set_option maxHeartbeats 1000000 in
theorem okl_RationalSmall (n : Int) (hn : -9223372036854775808 ≤ n ∧ n ≤ 9223372036854775807) (d : Int) (hd : -9223372036854775808 ≤ d ∧ d ≤ 9223372036854775807) {na nb : Bool} {xs ys : List Nat} (hw : Wd xs) (hw' : Wd ys) : CallOK Tryz.prog 8 [dN .i64 n, dN .i64 d, dI2 na xs nb ys] (.one (dB true)) := by
  by_cases h1 : xs.length ≤ 20
  · by_cases h2 : ys.length ≤ 20
    · have s1 : SzQ 2 (n : Rat) := ⟨show Sz 2 n from Sz.i64 hn.1 (by omega), (Sz.small (z := 1) (by decide)).mono (by decide)⟩
      have s2 : SzQ 2 (Rat.divInt n d) := by
        by_cases h0 : d = 0
        · subst h0
          rw [divInt_zero']
          exact ⟨(Sz.small (z := 0) (by decide)).mono (by decide), (Sz.small (z := 1) (by decide)).mono (by decide)⟩
        · exact .divInt (Sz.i64 hn.1 (by omega)) (Sz.i64 hd.1 (by omega)) h0
      cases hv : validQ na xs nb ys
      · refine callOK_of TT_ok mixT Tryz.func8 rfl rfl (Nat.le_of_ble_eq_true rfl) ?_
        repeat (first | refine r_op rfl rfl rfl rfl ?_ | refine r_skip rfl rfl rfl ?_ | refine .done ?_ | refine r_seq (T := TT) ?_ | refine r_region (T := TT) rfl ?_ | refine r_block (T := TT) ?_ | refine r_then (T := TT) rfl ?_ | refine r_else (T := TT) rfl ?_)
        refine r_call (ok_l2_awake) rfl rfl rfl rfl rfl rfl rfl ?_
        iterate 6 (first | refine r_op rfl rfl rfl rfl ?_ | refine r_skip rfl rfl rfl ?_)
        refine r_eq (v' := .bool false) rfl rfl rfl rfl ?_ ?_
        · exact congrArg Value.bool (decide_eq_false (by omega))
        iterate 6 (first | refine r_op rfl rfl rfl rfl ?_ | refine r_skip rfl rfl rfl ?_)
        refine r_eq (v' := .bool false) rfl rfl rfl rfl ?_ ?_
        · exact congrArg Value.bool (decide_eq_false (by omega))
        repeat (first | refine r_op rfl rfl rfl rfl ?_ | refine r_skip rfl rfl rfl ?_ | refine .done ?_ | refine r_seq (T := TT) ?_ | refine r_region (T := TT) rfl ?_ | refine r_block (T := TT) ?_ | refine r_then (T := TT) rfl ?_ | refine r_else (T := TT) rfl ?_)
        refine r_call (ok_q_FromInt n hn.1 (by omega) rfl) rfl rfl rfl rfl rfl rfl rfl ?_
        repeat (first | refine r_op rfl rfl rfl rfl ?_ | refine r_skip rfl rfl rfl ?_ | refine .done ?_ | refine r_seq (T := TT) ?_ | refine r_region (T := TT) rfl ?_ | refine r_block (T := TT) ?_ | refine r_then (T := TT) rfl ?_ | refine r_else (T := TT) rfl ?_)
        refine r_call (ok_r2_FromInt n hn.1 (by omega) rfl) rfl rfl rfl rfl rfl rfl rfl ?_
        repeat (first | refine r_op rfl rfl rfl rfl ?_ | refine r_skip rfl rfl rfl ?_ | refine .done ?_ | refine r_seq (T := TT) ?_ | refine r_region (T := TT) rfl ?_ | refine r_block (T := TT) ?_ | refine r_then (T := TT) rfl ?_ | refine r_else (T := TT) rfl ?_)
        refine r_call (same_t s1 (by decide) rfl) rfl rfl rfl rfl rfl rfl rfl ?_
        repeat (first | refine r_op rfl rfl rfl rfl ?_ | refine r_skip rfl rfl rfl ?_ | refine .done ?_ | refine r_seq (T := TT) ?_ | refine r_region (T := TT) rfl ?_ | refine r_block (T := TT) ?_ | refine r_then (T := TT) rfl ?_ | refine r_else (T := TT) rfl ?_)
        refine r_call (ok_q_Frac n d hn.1 (by omega) hd.1 (by omega) rfl) rfl rfl rfl rfl rfl rfl rfl ?_
        repeat (first | refine r_op rfl rfl rfl rfl ?_ | refine r_skip rfl rfl rfl ?_ | refine .done ?_ | refine r_seq (T := TT) ?_ | refine r_region (T := TT) rfl ?_ | refine r_block (T := TT) ?_ | refine r_then (T := TT) rfl ?_ | refine r_else (T := TT) rfl ?_)
        refine r_call (ok_r2_Frac n d hn.1 (by omega) hd.1 (by omega) rfl) rfl rfl rfl rfl rfl rfl rfl ?_
        repeat (first | refine r_op rfl rfl rfl rfl ?_ | refine r_skip rfl rfl rfl ?_ | refine .done ?_ | refine r_seq (T := TT) ?_ | refine r_region (T := TT) rfl ?_ | refine r_block (T := TT) ?_ | refine r_then (T := TT) rfl ?_ | refine r_else (T := TT) rfl ?_)
        refine r_call (same_t s2 (by decide) rfl) rfl rfl rfl rfl rfl rfl rfl ?_
        repeat (first | refine r_op rfl rfl rfl rfl ?_ | refine r_skip rfl rfl rfl ?_ | refine .done ?_ | refine r_seq (T := TT) ?_ | refine r_region (T := TT) rfl ?_ | refine r_block (T := TT) ?_ | refine r_then (T := TT) rfl ?_ | refine r_else (T := TT) rfl ?_)
        refine r_call (ok_l2_own (na := na) (nb := nb) hw hw' (by omega) (by omega)) rfl rfl rfl rfl rfl rfl rfl ?_
        repeat (first | refine r_op rfl rfl rfl rfl ?_ | refine r_skip rfl rfl rfl ?_ | refine .done ?_ | refine r_seq (T := TT) ?_ | refine r_region (T := TT) rfl ?_ | refine r_block (T := TT) ?_ | refine r_then (T := TT) rfl ?_ | refine r_else (T := TT) rfl ?_)
        refine r_call (ok_q_Valid' (na := na) (nb := nb) hw hw' (by unfold Fit; omega) (by unfold Fit; omega) hv) rfl rfl rfl rfl rfl rfl rfl ?_
        repeat (first | refine r_op rfl rfl rfl rfl ?_ | refine r_skip rfl rfl rfl ?_ | refine .done ?_ | refine r_seq (T := TT) ?_ | refine r_region (T := TT) rfl ?_ | refine r_block (T := TT) ?_ | refine r_then (T := TT) rfl ?_ | refine r_else (T := TT) rfl ?_)
        refine r_call (ok_r2_Valid' (na := na) (nb := nb) hw hw' (by unfold Fit; omega) (by unfold Fit; omega) hv) rfl rfl rfl rfl rfl rfl rfl ?_
        repeat (first | refine r_op rfl rfl rfl rfl ?_ | refine r_skip rfl rfl rfl ?_ | refine .done ?_ | refine r_seq (T := TT) ?_ | refine r_region (T := TT) rfl ?_ | refine r_block (T := TT) ?_ | refine r_then (T := TT) rfl ?_ | refine r_else (T := TT) rfl ?_)
        exact r_fin (T := TT) rfl rfl

      · refine callOK_of TT_ok mixT Tryz.func8 rfl rfl (Nat.le_of_ble_eq_true rfl) ?_
        repeat (first | refine r_op rfl rfl rfl rfl ?_ | refine r_skip rfl rfl rfl ?_ | refine .done ?_ | refine r_seq (T := TT) ?_ | refine r_region (T := TT) rfl ?_ | refine r_block (T := TT) ?_ | refine r_then (T := TT) rfl ?_ | refine r_else (T := TT) rfl ?_)
        refine r_call (ok_l2_awake) rfl rfl rfl rfl rfl rfl rfl ?_
        iterate 6 (first | refine r_op rfl rfl rfl rfl ?_ | refine r_skip rfl rfl rfl ?_)
        refine r_eq (v' := .bool false) rfl rfl rfl rfl ?_ ?_
        · exact congrArg Value.bool (decide_eq_false (by omega))
        iterate 6 (first | refine r_op rfl rfl rfl rfl ?_ | refine r_skip rfl rfl rfl ?_)
        refine r_eq (v' := .bool false) rfl rfl rfl rfl ?_ ?_
        · exact congrArg Value.bool (decide_eq_false (by omega))
        repeat (first | refine r_op rfl rfl rfl rfl ?_ | refine r_skip rfl rfl rfl ?_ | refine .done ?_ | refine r_seq (T := TT) ?_ | refine r_region (T := TT) rfl ?_ | refine r_block (T := TT) ?_ | refine r_then (T := TT) rfl ?_ | refine r_else (T := TT) rfl ?_)
        refine r_call (ok_q_FromInt n hn.1 (by omega) rfl) rfl rfl rfl rfl rfl rfl rfl ?_
        repeat (first | refine r_op rfl rfl rfl rfl ?_ | refine r_skip rfl rfl rfl ?_ | refine .done ?_ | refine r_seq (T := TT) ?_ | refine r_region (T := TT) rfl ?_ | refine r_block (T := TT) ?_ | refine r_then (T := TT) rfl ?_ | refine r_else (T := TT) rfl ?_)
        refine r_call (ok_r2_FromInt n hn.1 (by omega) rfl) rfl rfl rfl rfl rfl rfl rfl ?_
        repeat (first | refine r_op rfl rfl rfl rfl ?_ | refine r_skip rfl rfl rfl ?_ | refine .done ?_ | refine r_seq (T := TT) ?_ | refine r_region (T := TT) rfl ?_ | refine r_block (T := TT) ?_ | refine r_then (T := TT) rfl ?_ | refine r_else (T := TT) rfl ?_)
        refine r_call (same_t s1 (by decide) rfl) rfl rfl rfl rfl rfl rfl rfl ?_
        repeat (first | refine r_op rfl rfl rfl rfl ?_ | refine r_skip rfl rfl rfl ?_ | refine .done ?_ | refine r_seq (T := TT) ?_ | refine r_region (T := TT) rfl ?_ | refine r_block (T := TT) ?_ | refine r_then (T := TT) rfl ?_ | refine r_else (T := TT) rfl ?_)
        refine r_call (ok_q_Frac n d hn.1 (by omega) hd.1 (by omega) rfl) rfl rfl rfl rfl rfl rfl rfl ?_
        repeat (first | refine r_op rfl rfl rfl rfl ?_ | refine r_skip rfl rfl rfl ?_ | refine .done ?_ | refine r_seq (T := TT) ?_ | refine r_region (T := TT) rfl ?_ | refine r_block (T := TT) ?_ | refine r_then (T := TT) rfl ?_ | refine r_else (T := TT) rfl ?_)
        refine r_call (ok_r2_Frac n d hn.1 (by omega) hd.1 (by omega) rfl) rfl rfl rfl rfl rfl rfl rfl ?_
        repeat (first | refine r_op rfl rfl rfl rfl ?_ | refine r_skip rfl rfl rfl ?_ | refine .done ?_ | refine r_seq (T := TT) ?_ | refine r_region (T := TT) rfl ?_ | refine r_block (T := TT) ?_ | refine r_then (T := TT) rfl ?_ | refine r_else (T := TT) rfl ?_)
        refine r_call (same_t s2 (by decide) rfl) rfl rfl rfl rfl rfl rfl rfl ?_
        repeat (first | refine r_op rfl rfl rfl rfl ?_ | refine r_skip rfl rfl rfl ?_ | refine .done ?_ | refine r_seq (T := TT) ?_ | refine r_region (T := TT) rfl ?_ | refine r_block (T := TT) ?_ | refine r_then (T := TT) rfl ?_ | refine r_else (T := TT) rfl ?_)
        refine r_call (ok_l2_own (na := na) (nb := nb) hw hw' (by omega) (by omega)) rfl rfl rfl rfl rfl rfl rfl ?_
        repeat (first | refine r_op rfl rfl rfl rfl ?_ | refine r_skip rfl rfl rfl ?_ | refine .done ?_ | refine r_seq (T := TT) ?_ | refine r_region (T := TT) rfl ?_ | refine r_block (T := TT) ?_ | refine r_then (T := TT) rfl ?_ | refine r_else (T := TT) rfl ?_)
        refine r_call (ok_q_Valid' (na := na) (nb := nb) hw hw' (by unfold Fit; omega) (by unfold Fit; omega) hv) rfl rfl rfl rfl rfl rfl rfl ?_
        repeat (first | refine r_op rfl rfl rfl rfl ?_ | refine r_skip rfl rfl rfl ?_ | refine .done ?_ | refine r_seq (T := TT) ?_ | refine r_region (T := TT) rfl ?_ | refine r_block (T := TT) ?_ | refine r_then (T := TT) rfl ?_ | refine r_else (T := TT) rfl ?_)
        refine r_call (ok_r2_Valid' (na := na) (nb := nb) hw hw' (by unfold Fit; omega) (by unfold Fit; omega) hv) rfl rfl rfl rfl rfl rfl rfl ?_
        repeat (first | refine r_op rfl rfl rfl rfl ?_ | refine r_skip rfl rfl rfl ?_ | refine .done ?_ | refine r_seq (T := TT) ?_ | refine r_region (T := TT) rfl ?_ | refine r_block (T := TT) ?_ | refine r_then (T := TT) rfl ?_ | refine r_else (T := TT) rfl ?_)
        exact r_fin (T := TT) rfl rfl

    · refine callOK_of TT_ok mixT Tryz.func8 rfl rfl (Nat.le_of_ble_eq_true rfl) ?_
      repeat (first | refine r_op rfl rfl rfl rfl ?_ | refine r_skip rfl rfl rfl ?_ | refine .done ?_ | refine r_seq (T := TT) ?_ | refine r_region (T := TT) rfl ?_ | refine r_block (T := TT) ?_ | refine r_then (T := TT) rfl ?_ | refine r_else (T := TT) rfl ?_)
      refine r_call (ok_l2_awake) rfl rfl rfl rfl rfl rfl rfl ?_
      iterate 6 (first | refine r_op rfl rfl rfl rfl ?_ | refine r_skip rfl rfl rfl ?_)
      refine r_eq (v' := .bool false) rfl rfl rfl rfl ?_ ?_
      · exact congrArg Value.bool (decide_eq_false (by omega))
      iterate 6 (first | refine r_op rfl rfl rfl rfl ?_ | refine r_skip rfl rfl rfl ?_)
      refine r_eq (v' := .bool true) rfl rfl rfl rfl ?_ ?_
      · exact congrArg Value.bool (decide_eq_true (by omega))
      repeat (first | refine r_op rfl rfl rfl rfl ?_ | refine r_skip rfl rfl rfl ?_ | refine .done ?_ | refine r_seq (T := TT) ?_ | refine r_region (T := TT) rfl ?_ | refine r_block (T := TT) ?_ | refine r_then (T := TT) rfl ?_ | refine r_else (T := TT) rfl ?_)
      refine r_call (ok_l2_awake) rfl rfl rfl rfl rfl rfl rfl ?_
      repeat (first | refine r_op rfl rfl rfl rfl ?_ | refine r_skip rfl rfl rfl ?_ | refine .done ?_ | refine r_seq (T := TT) ?_ | refine r_region (T := TT) rfl ?_ | refine r_block (T := TT) ?_ | refine r_then (T := TT) rfl ?_ | refine r_else (T := TT) rfl ?_)
      exact r_fin (T := TT) rfl rfl
  · refine callOK_of TT_ok mixT Tryz.func8 rfl rfl (Nat.le_of_ble_eq_true rfl) ?_
    repeat (first | refine r_op rfl rfl rfl rfl ?_ | refine r_skip rfl rfl rfl ?_ | refine .done ?_ | refine r_seq (T := TT) ?_ | refine r_region (T := TT) rfl ?_ | refine r_block (T := TT) ?_ | refine r_then (T := TT) rfl ?_ | refine r_else (T := TT) rfl ?_)
    refine r_call (ok_l2_awake) rfl rfl rfl rfl rfl rfl rfl ?_
    iterate 6 (first | refine r_op rfl rfl rfl rfl ?_ | refine r_skip rfl rfl rfl ?_)
    refine r_eq (v' := .bool true) rfl rfl rfl rfl ?_ ?_
    · exact congrArg Value.bool (decide_eq_true (by omega))
    repeat (first | refine r_op rfl rfl rfl rfl ?_ | refine r_skip rfl rfl rfl ?_ | refine .done ?_ | refine r_seq (T := TT) ?_ | refine r_region (T := TT) rfl ?_ | refine r_block (T := TT) ?_ | refine r_then (T := TT) rfl ?_ | refine r_else (T := TT) rfl ?_)
    refine r_call (ok_l2_awake) rfl rfl rfl rfl rfl rfl rfl ?_
    repeat (first | refine r_op rfl rfl rfl rfl ?_ | refine r_skip rfl rfl rfl ?_ | refine .done ?_ | refine r_seq (T := TT) ?_ | refine r_region (T := TT) rfl ?_ | refine r_block (T := TT) ?_ | refine r_then (T := TT) rfl ?_ | refine r_else (T := TT) rfl ?_)
    exact r_fin (T := TT) rfl rfl

set_option maxRecDepth 100000 in
theorem rationalSmall_lifted (os : Os) (started : os.Started) (H : Type) (enc : TypeId × Value → H) :
    ReturnsInHanded {} Tryz.checked os 8 .any (fun w args => (Rows.rationalSmallSpec.pre enc Tryz.prog Tryz.f8 [] false w args ∧ laidMetH Tryz.prog Rows.rationalSmallRow.laid w) ∧ sizedMet enc Tryz.prog Tryz.f8 (OpenSpec.ofChange Rows.rationalSmallSpec) false w args)
      (Rows.rationalSmallSpec.post enc Tryz.prog Tryz.f8 false true false false) := by
  refine returnsInHanded_of_change_and (C := Tryz.checked) (X := fun w _ => laidMetH Tryz.prog Rows.rationalSmallRow.laid w) (fun _ _ _ hh h => h.of_heap hh) Tryz.own started (by kernel_rfl) Tryz.func8
    (ChangeSpec.witness_shaped (enc := enc) (C := Tryz.checked) (os := os) (X := fun w _ => laidMetH Tryz.prog Rows.rationalSmallRow.laid w) false (World.laidAll Tryz.prog os Rows.rationalSmallRow.laid) #[.int .i64 0, .int .i64 0, .agg #[.bool false, .slice none 0 0, .bool false, .slice none 0 0]] 8 (World.laidAll_os _ _ _) (World.shaped_of_ZipB (by kernel_rfl) (by kernel_rfl)) (by kernel_rfl) (by kernel_rfl) (by kernel_rfl)
      (by rw [MakeChecks.laidMetH_plain _ _ _ (by kernel_rfl)]; exact laidMet_laidAll _ (by kernel_rfl) (by kernel_rfl))) ?_
  intro W base args ds gs before hval0 hW _ _ hL _
  have htab : TabG W := tabs_of (by kernel_rfl) (by unfold Rows.rationalSmallRow; simp) hL
  have hval : ∀ (j : Nat) t v, Tryz.f8.params[j]? = some t → args[j]? = some v → Value.okWide Tryz.prog W .any base t v := hval0
  have hW' := hW
  obtain ⟨p, q, hA0, hV, rfl, hfz, hnd⟩ := hW
  have hA : DataW.TrodAll enc Tryz.prog W 0 (fun _ => true) true Tryz.f8.params.toList args.toList ds p := hA0
  rw [Tryz.params8] at hA hval
  obtain ⟨v0, v1, v2, d0, d1, d2, p0, p1, p2, rfl, rfl, rfl, h0, h1, h2⟩ := trodAll_three hA
  obtain ⟨x0, rfl, rfl, rfl, a0⟩ := open_int Tryz.underlying2 (hval 0 2 v0 rfl rfl) h0
  obtain ⟨x1, rfl, rfl, rfl, a1⟩ := open_int Tryz.underlying2 (hval 1 2 v1 rfl rfl) h1
  obtain ⟨n2, x2, m2, y2, a2⟩ := open_rat (hval 2 26 v2 rfl rfl) h2
  refine (law_calls (okl_RationalSmall x0 (bounds_i64 a0) x1 (bounds_i64 a1) (ratR_wd a2).1 (ratR_wd a2).2) htab (vs := [_, _, v2]) ⟨AV.M.val rfl, AV.M.val rfl, dI2_of (noS W htab) a2, trivial⟩).mono fun e W' ⟨he, hB⟩ => ?_
  subst he
  exact ⟨_, rfl, law_post hW' rfl (by kernel_rfl) (by kernel_rfl) (fun ds hl => by
    match ds, hl with
    | [_, _, _], _ => rfl) hB⟩

/-- the row -/
theorem rationalSmall_holds : Rows.RationalSmallSaid :=
  OpenClaim.holds_of_wide 8 Tryz.f8 rfl rfl rfl rfl rfl rfl rfl ⟨rfl, rfl, rfl, rfl, rfl⟩ rfl rfl rfl rfl rfl (by kernel_rfl) Tryz.func8 (by kernel_rfl)
    (of_decide_eq_true (by kernel_rfl)) (by unfold Func.isWrapper; rw [if_neg (of_decide_eq_false (by kernel_rfl))]; exact ⟨rfl, rfl⟩)
    (fun os started H enc _ => rationalSmall_lifted os started H enc)

/-- **the given statement: the tied card** -/
theorem rationalSmall_card : Rows.RationalSmallCardSaid :=
  Claim7.holds_tied_plain_at .later [] [.data, .data, .data, .data, .pinned] true (true, "df384f189231cf02a8903b65f52d1e773c5f3381cd4bb6cae65e13789325afb1") false
    rationalSmall_holds (fun _ h => by cases h) (by kernel_rfl) (fun _ h => by cases h) rationalSmall_row_tie rfl ⟨rfl, rfl⟩ (by kernel_rfl) rfl
    (fun f fn hf hfn => by
      obtain rfl : f = 8 := Option.some.inj ((show Tryz.prog.funcNamed "setsquare/setsquarelaw02.RationalSmall" = some 8 by kernel_rfl).symm.trans hf) |>.symm
      obtain rfl : fn = Tryz.f8 := (Option.some.inj (Tryz.func8.symm.trans hfn)).symm
      exact ⟨by kernel_rfl, fun j t ht => by
        rw [Tryz.params8] at ht
        have hm : t ∈ [2, 26] := by simpa using Array.mem_of_getElem? ht
        have hall : ([2, 26].all fun u => !Tryz.prog.wantsStandIn u) = true := by kernel_rfl
        exact (show Tryz.prog.wantsStandIn t = false by simpa using List.all_eq_true.1 hall t hm)⟩)
    (by kernel_rfl)

end Go.Proofs.YtecjnnhkbmkemaaGreatDoor
