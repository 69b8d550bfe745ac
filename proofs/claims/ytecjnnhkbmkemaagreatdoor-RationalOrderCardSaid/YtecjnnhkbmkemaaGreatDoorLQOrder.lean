/- RationalOrder answers true. -/
import Derived.Test.YtecjnnhkbmkemaaGreatDoorQc
namespace Go.Proofs.YtecjnnhkbmkemaaGreatDoor
open Go.ChangeShapes Go.WideShapes Go.ChangeAt Go.RowKit Go.Joins

theorem sgQ_abs (q : Rat) : -1 ≤ sgQ q ∧ sgQ q ≤ 1 := sign_abs q.num
set_option maxHeartbeats 2000000 in
theorem okl_RationalOrder {na nb nc nd ne nf : Bool} {xs ys us vs ps qs : List Nat} (h1 : Wd xs) (h2 : Wd ys) (h3 : Wd us) (h4 : Wd vs) (h5 : Wd ps) (h6 : Wd qs) : CallOK Tryz.prog 11 [dI2 na xs nb ys, dI2 nc us nd vs, dI2 ne ps nf qs] (.one (dB true)) := by
  cases hs : ([(na, xs, nb, ys), (nc, us, nd, vs), (ne, ps, nf, qs)] : List RP).all fewP
  · refine callOK_of TT_ok mixT Tryz.func11 rfl rfl (Nat.le_of_ble_eq_true rfl) ?_
    repeat (first | refine r_op rfl rfl rfl rfl ?_ | refine r_skip rfl rfl rfl ?_ | refine .done ?_ | refine r_seq (T := TT) ?_ | refine r_region (T := TT) rfl ?_ | refine r_block (T := TT) ?_ | refine r_then (T := TT) rfl ?_ | refine r_else (T := TT) rfl ?_)
    refine r_call (ok_l2_awake) rfl rfl rfl rfl rfl rfl rfl ?_
    repeat (first | refine r_op rfl rfl rfl rfl ?_ | refine r_skip rfl rfl rfl ?_ | refine .done ?_ | refine r_seq (T := TT) ?_ | refine r_region (T := TT) rfl ?_ | refine r_block (T := TT) ?_ | refine r_then (T := TT) rfl ?_ | refine r_else (T := TT) rfl ?_)
    refine r_call (ok_l2_few [(na, xs, nb, ys), (nc, us, nd, vs), (ne, ps, nf, qs)] (wdl3 ⟨h1, h2⟩ ⟨h3, h4⟩ ⟨h5, h6⟩) (by simp) hs) rfl rfl rfl rfl rfl rfl rfl ?_
    repeat (first | refine r_op rfl rfl rfl rfl ?_ | refine r_skip rfl rfl rfl ?_ | refine .done ?_ | refine r_seq (T := TT) ?_ | refine r_region (T := TT) rfl ?_ | refine r_block (T := TT) ?_ | refine r_then (T := TT) rfl ?_ | refine r_else (T := TT) rfl ?_)
    refine r_call (ok_l2_awake) rfl rfl rfl rfl rfl rfl rfl ?_
    repeat (first | refine r_op rfl rfl rfl rfl ?_ | refine r_skip rfl rfl rfl ?_ | refine .done ?_ | refine r_seq (T := TT) ?_ | refine r_region (T := TT) rfl ?_ | refine r_block (T := TT) ?_ | refine r_then (T := TT) rfl ?_ | refine r_else (T := TT) rfl ?_)
    exact r_fin (T := TT) rfl rfl
  have hs' : fewP (na, xs, nb, ys) = true ∧ fewP (nc, us, nd, vs) = true ∧ fewP (ne, ps, nf, qs) = true := by simpa using hs
  obtain ⟨a, ea, sa⟩ := few_rat (p := (na, xs, nb, ys)) ⟨h1, h2⟩ hs'.1
  obtain ⟨b, eb, sb⟩ := few_rat (p := (nc, us, nd, vs)) ⟨h3, h4⟩ hs'.2.1
  obtain ⟨c, ec, sc⟩ := few_rat (p := (ne, ps, nf, qs)) ⟨h5, h6⟩ hs'.2.2
  rw [show dI2 na xs nb ys = dQ a from congrArg DV.agg ea, show dI2 nc us nd vs = dQ b from congrArg DV.agg eb, show dI2 ne ps nf qs = dQ c from congrArg DV.agg ec]
  have sgn1 := sgQ_abs (a - b)
  have sgn2 := sgQ_abs c
  have eab : sgQ (a + c - (b + c)) = sgQ (a - b) := by congr 1; grind
  have emu : sgQ (a * c - b * c) = sgQ (a - b) * sgQ c := by rw [← sg_mul]; congr 1; grind
  have esw : sgQ (b - a) = -sgQ (a - b) := sg_swap a b
  have cs : CallOK Tryz.prog 49 [dQ (a - b)] (.one (dN .i64 (sgQ (a - b)))) := ok_q_Sign (a - b)
  have cc : CallOK Tryz.prog 49 [dQ c] (.one (dN .i64 (sgQ c))) := ok_q_Sign c
  have ca1 : CallOK Tryz.prog 49 [dQ a] (.one (dN .i64 (sgQ a))) := ok_q_Sign a
  have ca2 : CallOK Tryz.prog 28 [dQ a] (.one (dN .i64 (sgQ a))) := ok_r2_Sign a
  have k1 : CallOK Tryz.prog 50 [dQ a, dQ b] (.one (dN .i64 (sgQ (a - b)))) := ok_q_Cmp sa sb (by decide) rfl
  have k2 : CallOK Tryz.prog 20 [dQ a, dQ b] (.one (dN .i64 (sgQ (a - b)))) := ok_r2_Cmp sa sb (by decide) rfl
  have k3 : CallOK Tryz.prog 50 [dQ b, dQ a] (.one (dN .i64 (-sgQ (a - b)))) := ok_q_Cmp sb sa (by decide) esw
  have k4 : CallOK Tryz.prog 50 [dQ (a + c), dQ (b + c)] (.one (dN .i64 (sgQ (a - b)))) := ok_q_Cmp (sa.add sc) (sb.add sc) (by decide) eab
  have k5 : CallOK Tryz.prog 50 [dQ (a * c), dQ (b * c)] (.one (dN .i64 (sgQ (a - b) * sgQ c))) := ok_q_Cmp (sa.mul sc) (sb.mul sc) (by decide) emu
  generalize sgQ (a - b) = s at *
  generalize sgQ c = t at *
  generalize sgQ a = r at *
  have hst : -1 ≤ s * t ∧ s * t ≤ 1 := by
    obtain ⟨p1, p2⟩ := sgn1
    obtain ⟨p3, p4⟩ := sgn2
    rcases (show s = -1 ∨ s = 0 ∨ s = 1 by omega) with rfl | rfl | rfl <;> omega
  refine callOK_of TT_ok mixT Tryz.func11 rfl rfl (Nat.le_of_ble_eq_true rfl) ?_
  repeat (first | refine r_op rfl rfl rfl rfl ?_ | refine r_skip rfl rfl rfl ?_ | refine .done ?_ | refine r_seq (T := TT) ?_ | refine r_region (T := TT) rfl ?_ | refine r_block (T := TT) ?_ | refine r_then (T := TT) rfl ?_ | refine r_else (T := TT) rfl ?_)
  refine r_call (ok_l2_awake) rfl rfl rfl rfl rfl rfl rfl ?_
  repeat (first | refine r_op rfl rfl rfl rfl ?_ | refine r_skip rfl rfl rfl ?_ | refine .done ?_ | refine r_seq (T := TT) ?_ | refine r_region (T := TT) rfl ?_ | refine r_block (T := TT) ?_ | refine r_then (T := TT) rfl ?_ | refine r_else (T := TT) rfl ?_)
  refine r_call (ok_l2_few [rpQ a, rpQ b, rpQ c] (wdl3 (wdQ a) (wdQ b) (wdQ c)) (by simp) (few3 sa sb sc)) rfl rfl rfl rfl rfl rfl rfl ?_
  repeat (first | refine r_op rfl rfl rfl rfl ?_ | refine r_skip rfl rfl rfl ?_ | refine .done ?_ | refine r_seq (T := TT) ?_ | refine r_region (T := TT) rfl ?_ | refine r_block (T := TT) ?_ | refine r_then (T := TT) rfl ?_ | refine r_else (T := TT) rfl ?_)
  refine r_call (k1) rfl rfl rfl rfl rfl rfl rfl ?_
  repeat (first | refine r_op rfl rfl rfl rfl ?_ | refine r_skip rfl rfl rfl ?_ | refine .done ?_ | refine r_seq (T := TT) ?_ | refine r_region (T := TT) rfl ?_ | refine r_block (T := TT) ?_ | refine r_then (T := TT) rfl ?_ | refine r_else (T := TT) rfl ?_)
  refine r_call (ca1) rfl rfl rfl rfl rfl rfl rfl ?_
  repeat (first | refine r_op rfl rfl rfl rfl ?_ | refine r_skip rfl rfl rfl ?_ | refine .done ?_ | refine r_seq (T := TT) ?_ | refine r_region (T := TT) rfl ?_ | refine r_block (T := TT) ?_ | refine r_then (T := TT) rfl ?_ | refine r_else (T := TT) rfl ?_)
  refine r_call (ca2) rfl rfl rfl rfl rfl rfl rfl ?_
  refine r_eq (v' := .bool false) rfl rfl rfl rfl ?_ ?_
  · exact congrArg Value.bool ((by simp))
  repeat (first | refine r_op rfl rfl rfl rfl ?_ | refine r_skip rfl rfl rfl ?_ | refine .done ?_ | refine r_seq (T := TT) ?_ | refine r_region (T := TT) rfl ?_ | refine r_block (T := TT) ?_ | refine r_then (T := TT) rfl ?_ | refine r_else (T := TT) rfl ?_)
  refine r_call (k2) rfl rfl rfl rfl rfl rfl rfl ?_
  refine r_eq (v' := .bool false) rfl rfl rfl rfl ?_ ?_
  · exact congrArg Value.bool ((by simp))
  repeat (first | refine r_op rfl rfl rfl rfl ?_ | refine r_skip rfl rfl rfl ?_ | refine .done ?_ | refine r_seq (T := TT) ?_ | refine r_region (T := TT) rfl ?_ | refine r_block (T := TT) ?_ | refine r_then (T := TT) rfl ?_ | refine r_else (T := TT) rfl ?_)
  refine r_call (k3) rfl rfl rfl rfl rfl rfl rfl ?_
  refine r_eq (v' := .int .i64 (s)) rfl rfl rfl rfl ?_ ?_
  · exact congrArg (Value.int .i64) (by rw [IntWalk.i64_in _ (by omega)]; omega)
  refine r_eq (v' := .bool false) rfl rfl rfl rfl ?_ ?_
  · exact congrArg Value.bool ((by simp))
  repeat (first | refine r_op rfl rfl rfl rfl ?_ | refine r_skip rfl rfl rfl ?_ | refine .done ?_ | refine r_seq (T := TT) ?_ | refine r_region (T := TT) rfl ?_ | refine r_block (T := TT) ?_ | refine r_then (T := TT) rfl ?_ | refine r_else (T := TT) rfl ?_)
  refine r_call (ok_q_Sub sa sb (by decide) rfl) rfl rfl rfl rfl rfl rfl rfl ?_
  repeat (first | refine r_op rfl rfl rfl rfl ?_ | refine r_skip rfl rfl rfl ?_ | refine .done ?_ | refine r_seq (T := TT) ?_ | refine r_region (T := TT) rfl ?_ | refine r_block (T := TT) ?_ | refine r_then (T := TT) rfl ?_ | refine r_else (T := TT) rfl ?_)
  refine r_call (cs) rfl rfl rfl rfl rfl rfl rfl ?_
  refine r_eq (v' := .bool false) rfl rfl rfl rfl ?_ ?_
  · exact congrArg Value.bool ((by simp))
  repeat (first | refine r_op rfl rfl rfl rfl ?_ | refine r_skip rfl rfl rfl ?_ | refine .done ?_ | refine r_seq (T := TT) ?_ | refine r_region (T := TT) rfl ?_ | refine r_block (T := TT) ?_ | refine r_then (T := TT) rfl ?_ | refine r_else (T := TT) rfl ?_)
  refine r_call (ok_q_Add sa sc (by decide) rfl) rfl rfl rfl rfl rfl rfl rfl ?_
  repeat (first | refine r_op rfl rfl rfl rfl ?_ | refine r_skip rfl rfl rfl ?_ | refine .done ?_ | refine r_seq (T := TT) ?_ | refine r_region (T := TT) rfl ?_ | refine r_block (T := TT) ?_ | refine r_then (T := TT) rfl ?_ | refine r_else (T := TT) rfl ?_)
  refine r_call (ok_q_Add sb sc (by decide) rfl) rfl rfl rfl rfl rfl rfl rfl ?_
  repeat (first | refine r_op rfl rfl rfl rfl ?_ | refine r_skip rfl rfl rfl ?_ | refine .done ?_ | refine r_seq (T := TT) ?_ | refine r_region (T := TT) rfl ?_ | refine r_block (T := TT) ?_ | refine r_then (T := TT) rfl ?_ | refine r_else (T := TT) rfl ?_)
  refine r_call (k4) rfl rfl rfl rfl rfl rfl rfl ?_
  iterate 1 (first | refine r_op rfl rfl rfl rfl ?_ | refine r_skip rfl rfl rfl ?_)
  refine r_eq (v' := .bool true) rfl rfl rfl rfl ?_ ?_
  · exact congrArg Value.bool ((by simp))
  repeat (first | refine r_op rfl rfl rfl rfl ?_ | refine r_skip rfl rfl rfl ?_ | refine .done ?_ | refine r_seq (T := TT) ?_ | refine r_region (T := TT) rfl ?_ | refine r_block (T := TT) ?_ | refine r_then (T := TT) rfl ?_ | refine r_else (T := TT) rfl ?_)
  refine r_call (ok_q_Mul sa sc (by decide) rfl) rfl rfl rfl rfl rfl rfl rfl ?_
  repeat (first | refine r_op rfl rfl rfl rfl ?_ | refine r_skip rfl rfl rfl ?_ | refine .done ?_ | refine r_seq (T := TT) ?_ | refine r_region (T := TT) rfl ?_ | refine r_block (T := TT) ?_ | refine r_then (T := TT) rfl ?_ | refine r_else (T := TT) rfl ?_)
  refine r_call (ok_q_Mul sb sc (by decide) rfl) rfl rfl rfl rfl rfl rfl rfl ?_
  repeat (first | refine r_op rfl rfl rfl rfl ?_ | refine r_skip rfl rfl rfl ?_ | refine .done ?_ | refine r_seq (T := TT) ?_ | refine r_region (T := TT) rfl ?_ | refine r_block (T := TT) ?_ | refine r_then (T := TT) rfl ?_ | refine r_else (T := TT) rfl ?_)
  refine r_call (k5) rfl rfl rfl rfl rfl rfl rfl ?_
  iterate 2 (first | refine r_op rfl rfl rfl rfl ?_ | refine r_skip rfl rfl rfl ?_)
  refine r_call (cc) rfl rfl rfl rfl rfl rfl rfl ?_
  refine r_eq (v' := .int .i64 (s * t)) rfl rfl rfl rfl ?_ ?_
  · exact congrArg (Value.int .i64) (by rw [IntWalk.i64_in _ (by omega)])
  refine r_eq (v' := .bool true) rfl rfl rfl rfl ?_ ?_
  · exact congrArg Value.bool ((by simp))
  repeat (first | refine r_op rfl rfl rfl rfl ?_ | refine r_skip rfl rfl rfl ?_ | refine .done ?_ | refine r_seq (T := TT) ?_ | refine r_region (T := TT) rfl ?_ | refine r_block (T := TT) ?_ | refine r_then (T := TT) rfl ?_ | refine r_else (T := TT) rfl ?_)
  exact r_fin (T := TT) rfl rfl

set_option maxRecDepth 100000 in
theorem rationalOrder_lifted (os : Os) (started : os.Started) (H : Type) (enc : TypeId × Value → H) :
    ReturnsInHanded {} Tryz.checked os 11 .any (fun w args => (Rows.rationalOrderSpec.pre enc Tryz.prog Tryz.f11 [] false w args ∧ laidMetH Tryz.prog Rows.rationalOrderRow.laid w) ∧ sizedMet enc Tryz.prog Tryz.f11 (OpenSpec.ofChange Rows.rationalOrderSpec) false w args)
      (Rows.rationalOrderSpec.post enc Tryz.prog Tryz.f11 false true false false) := by
  refine returnsInHanded_of_change_and (C := Tryz.checked) (X := fun w _ => laidMetH Tryz.prog Rows.rationalOrderRow.laid w) (fun _ _ _ hh h => h.of_heap hh) Tryz.own started (by kernel_rfl) Tryz.func11
    (ChangeSpec.witness_shaped (enc := enc) (C := Tryz.checked) (os := os) (X := fun w _ => laidMetH Tryz.prog Rows.rationalOrderRow.laid w) false (World.laidAll Tryz.prog os Rows.rationalOrderRow.laid) #[.agg #[.bool false, .slice none 0 0, .bool false, .slice none 0 0], .agg #[.bool false, .slice none 0 0, .bool false, .slice none 0 0], .agg #[.bool false, .slice none 0 0, .bool false, .slice none 0 0]] 8 (World.laidAll_os _ _ _) (World.shaped_of_ZipB (by kernel_rfl) (by kernel_rfl)) (by kernel_rfl) (by kernel_rfl) (by kernel_rfl)
      (by rw [MakeChecks.laidMetH_plain _ _ _ (by kernel_rfl)]; exact laidMet_laidAll _ (by kernel_rfl) (by kernel_rfl))) ?_
  intro W base args ds gs before hval0 hW _ _ hL _
  have htab : TabG W := tabs_of (by kernel_rfl) (by unfold Rows.rationalOrderRow; simp) hL
  have hval : ∀ (j : Nat) t v, Tryz.f11.params[j]? = some t → args[j]? = some v → Value.okWide Tryz.prog W .any base t v := hval0
  have hW' := hW
  obtain ⟨p, q, hA0, hV, rfl, hfz, hnd⟩ := hW
  have hA : DataW.TrodAll enc Tryz.prog W 0 (fun _ => true) true Tryz.f11.params.toList args.toList ds p := hA0
  rw [Tryz.params11] at hA hval
  obtain ⟨v0, v1, v2, d0, d1, d2, p0, p1, p2, rfl, rfl, rfl, h0, h1, h2⟩ := trodAll_three hA
  obtain ⟨n0, x0, m0, y0, a0⟩ := open_rat (hval 0 26 v0 rfl rfl) h0
  obtain ⟨n1, x1, m1, y1, a1⟩ := open_rat (hval 1 26 v1 rfl rfl) h1
  obtain ⟨n2, x2, m2, y2, a2⟩ := open_rat (hval 2 26 v2 rfl rfl) h2
  refine (law_calls (okl_RationalOrder (ratR_wd a0).1 (ratR_wd a0).2 (ratR_wd a1).1 (ratR_wd a1).2 (ratR_wd a2).1 (ratR_wd a2).2) htab (vs := [v0, v1, v2]) ⟨dI2_of (noS W htab) a0, dI2_of (noS W htab) a1, dI2_of (noS W htab) a2, trivial⟩).mono fun e W' ⟨he, hB⟩ => ?_
  subst he
  exact ⟨_, rfl, law_post hW' rfl (by kernel_rfl) (by kernel_rfl) (fun ds hl => by
    match ds, hl with
    | [_, _, _], _ => rfl) hB⟩

/-- the row -/
theorem rationalOrder_holds : Rows.RationalOrderSaid :=
  OpenClaim.holds_of_wide 11 Tryz.f11 rfl rfl rfl rfl rfl rfl rfl ⟨rfl, rfl, rfl, rfl, rfl⟩ rfl rfl rfl rfl rfl (by kernel_rfl) Tryz.func11 (by kernel_rfl)
    (of_decide_eq_true (by kernel_rfl)) (by unfold Func.isWrapper; rw [if_neg (of_decide_eq_false (by kernel_rfl))]; exact ⟨rfl, rfl⟩)
    (fun os started H enc _ => rationalOrder_lifted os started H enc)

/-- **the given statement: the tied card** -/
theorem rationalOrder_card : Rows.RationalOrderCardSaid :=
  Claim7.holds_tied_plain_at .later [] [.data, .data, .data, .data, .pinned] true (true, "df384f189231cf02a8903b65f52d1e773c5f3381cd4bb6cae65e13789325afb1") false
    rationalOrder_holds (fun _ h => by cases h) (by kernel_rfl) (fun _ h => by cases h) rationalOrder_row_tie rfl ⟨rfl, rfl⟩ (by kernel_rfl) rfl
    (fun f fn hf hfn => by
      obtain rfl : f = 11 := Option.some.inj ((show Tryz.prog.funcNamed "setsquare/setsquarelaw02.RationalOrder" = some 11 by kernel_rfl).symm.trans hf) |>.symm
      obtain rfl : fn = Tryz.f11 := (Option.some.inj (Tryz.func11.symm.trans hfn)).symm
      exact ⟨by kernel_rfl, fun j t ht => by
        rw [Tryz.params11] at ht
        have hm : t ∈ [26] := by simpa using Array.mem_of_getElem? ht
        have hall : ([26].all fun u => !Tryz.prog.wantsStandIn u) = true := by kernel_rfl
        exact (show Tryz.prog.wantsStandIn t = false by simpa using List.all_eq_true.1 hall t hm)⟩)
    (by kernel_rfl)

end Go.Proofs.YtecjnnhkbmkemaaGreatDoor
