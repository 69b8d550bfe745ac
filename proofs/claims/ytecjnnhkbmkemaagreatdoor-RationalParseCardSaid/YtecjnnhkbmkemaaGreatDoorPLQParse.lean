/- RationalParse answers true. -/
import Derived.Test.YtecjnnhkbmkemaaGreatDoorPQc
import Derived.Test.YtecjnnhkbmkemaaGreatDoorPRQPrs
import Derived.ChangeMaps5
namespace Go.Proofs.YtecjnnhkbmkemaaGreatDoor
open Go.ChangeShapes Go.WideShapes Go.ChangeAt Go.RowKit Go.Joins
open Go.ChangeMaps (open_string)
theorem posQ_sz {t : List UInt8} {q : Rat} (hl : t.length ≤ 65536) (h : posQ t = some q) : SzQ 131080 q := by
  by_cases hok : okT false (dpre t)
  · rw [posQ_sw hok] at h
    have hpl := dpre_len t
    have hrl : (drst t).length ≤ t.length := by
      have := congrArg List.length (dpre_rst t)
      rw [List.length_append] at this
      omega
    have sp : Sz 65536 (num (dpre t) : Int) := (sz_num (dpre_isD t)).mono (by omega)
    generalize drst t = r at h hrl
    generalize num (dpre t) = n at h sp
    cases r with
    | nil =>
      have : q = ((n : Int) : Rat) := by
        have h : some ((n : Int) : Rat) = some q := h
        exact (Option.some.inj h).symm
      subst this
      exact ⟨sp.mono (by decide), (Sz.small (z := 1) (by decide)).mono (by decide)⟩
    | cons c b =>
      have hbl : b.length ≤ 65535 := by simp at hrl; omega
      by_cases h46 : c = 46
      · by_cases hb : b ≠ [] ∧ ∀ x ∈ b, isD x
        · rw [sw_46t h46 hb] at h
          cases h
          have sN : Sz 131080 ((n * 10 ^ b.length + num b : Nat) : Int) := by
            have h1 : Sz 131073 ((n : Int) * 10 ^ b.length) := Sz.of_pow sp (by omega)
            have h2 := Sz.add h1 ((sz_num hb.2).mono (by omega))
            have h3 : Sz 131080 ((n : Int) * 10 ^ b.length + (num b : Int)) := Sz.mono h2 (by decide)
            rw [Int.natCast_add, Int.natCast_mul, Int.natCast_pow]
            exact h3
          have sD : Sz 131080 ((10 ^ b.length : Nat) : Int) := sz_p10 (by omega)
          have : 0 < 10 ^ b.length := Nat.pow_pos (by decide)
          exact .divInt sN sD (by omega)
        · rw [sw_46 h46 hb] at h; cases h
      · by_cases h47 : c = 47
        · by_cases hb : okT false b ∧ num b ≠ 0 ∧ num b ≠ 1 ∧ Nat.gcd n (num b) = 1
          · rw [sw_47t h47 hb] at h
            cases h
            exact .divInt (sp.mono (by decide)) ((sz_num hb.1.2.1).mono (by omega)) (by have := hb.2.1; omega)
          · rw [sw_47 h47 hb] at h; cases h
        · rw [sw_no h46 h47] at h; cases h
  · unfold posQ at h
    rw [if_neg hok] at h
    cases h
theorem parseQ_sz {s : List UInt8} {q : Rat} (h : parseQ s = some q) : SzQ 131080 q := by
  unfold parseQ at h
  split at h
  · rename_i hl
    have hd := pds_len s
    cases hp : posQ (pds s) with
    | none => rw [hp] at h; simp at h
    | some r =>
      have hs := posQ_sz (by omega) hp
      rw [hp] at h
      simp only at h
      split at h
      · split at h
        · cases h
        · cases h; exact hs.neg
      · cases h; exact hs
  · cases h
set_option maxHeartbeats 1000000 in
theorem okl_RationalParse (s : ByteArray) : CallOK Tryz.prog 6 [dS s] (.one (dB true)) := by
  obtain ⟨l, rfl⟩ : ∃ l, Bs l = s := ⟨_, Bs_of s⟩
  show CallOK Tryz.prog _ [dL l] _
  have hsz := Bs_size l
  by_cases h : l.length > 200
  · refine callOK_of TT_ok mixT Tryz.func6 rfl rfl (Nat.le_of_ble_eq_true rfl) ?_
    repeat (first | refine r_op rfl rfl rfl rfl ?_ | refine r_skip rfl rfl rfl ?_ | refine .done ?_ | refine r_seq (T := TT) ?_ | refine r_region (T := TT) rfl ?_ | refine r_block (T := TT) ?_ | refine r_then (T := TT) rfl ?_ | refine r_else (T := TT) rfl ?_)
    refine r_call (ok_l2_awake) rfl rfl rfl rfl rfl rfl rfl ?_
    iterate 5 (first | refine r_op rfl rfl rfl rfl ?_ | refine r_skip rfl rfl rfl ?_)
    refine r_eq (v' := .bool true) rfl rfl rfl rfl ?_ ?_
    · exact congrArg Value.bool (decide_eq_true (by omega))
    repeat (first | refine r_op rfl rfl rfl rfl ?_ | refine r_skip rfl rfl rfl ?_ | refine .done ?_ | refine r_seq (T := TT) ?_ | refine r_region (T := TT) rfl ?_ | refine r_block (T := TT) ?_ | refine r_then (T := TT) rfl ?_ | refine r_else (T := TT) rfl ?_)
    refine r_call (ok_l2_awake) rfl rfl rfl rfl rfl rfl rfl ?_
    repeat (first | refine r_op rfl rfl rfl rfl ?_ | refine r_skip rfl rfl rfl ?_ | refine .done ?_ | refine r_seq (T := TT) ?_ | refine r_region (T := TT) rfl ?_ | refine r_block (T := TT) ?_ | refine r_then (T := TT) rfl ?_ | refine r_else (T := TT) rfl ?_)
    exact r_fin (T := TT) rfl rfl
  · cases hq : parseQ l with
    | none =>
      have c1 := ok_r2_Parse l
      rw [prR_none hq] at c1
      refine callOK_of TT_ok mixT Tryz.func6 rfl rfl (Nat.le_of_ble_eq_true rfl) ?_
      repeat (first | refine r_op rfl rfl rfl rfl ?_ | refine r_skip rfl rfl rfl ?_ | refine .done ?_ | refine r_seq (T := TT) ?_ | refine r_region (T := TT) rfl ?_ | refine r_block (T := TT) ?_ | refine r_then (T := TT) rfl ?_ | refine r_else (T := TT) rfl ?_)
      refine r_call (ok_l2_awake) rfl rfl rfl rfl rfl rfl rfl ?_
      iterate 5 (first | refine r_op rfl rfl rfl rfl ?_ | refine r_skip rfl rfl rfl ?_)
      refine r_eq (v' := .bool false) rfl rfl rfl rfl ?_ ?_
      · exact congrArg Value.bool (decide_eq_false (by omega))
      repeat (first | refine r_op rfl rfl rfl rfl ?_ | refine r_skip rfl rfl rfl ?_ | refine .done ?_ | refine r_seq (T := TT) ?_ | refine r_region (T := TT) rfl ?_ | refine r_block (T := TT) ?_ | refine r_then (T := TT) rfl ?_ | refine r_else (T := TT) rfl ?_)
      refine r_call (ok_q_ParseN hq) rfl rfl rfl rfl rfl rfl rfl ?_
      repeat (first | refine r_op rfl rfl rfl rfl ?_ | refine r_skip rfl rfl rfl ?_ | refine .done ?_ | refine r_seq (T := TT) ?_ | refine r_region (T := TT) rfl ?_ | refine r_block (T := TT) ?_ | refine r_then (T := TT) rfl ?_ | refine r_else (T := TT) rfl ?_)
      refine r_call (c1) rfl rfl rfl rfl rfl rfl rfl ?_
      repeat (first | refine r_op rfl rfl rfl rfl ?_ | refine r_skip rfl rfl rfl ?_ | refine .done ?_ | refine r_seq (T := TT) ?_ | refine r_region (T := TT) rfl ?_ | refine r_block (T := TT) ?_ | refine r_then (T := TT) rfl ?_ | refine r_else (T := TT) rfl ?_)
      exact r_fin (T := TT) rfl rfl
    | some q =>
      have c1 := ok_r2_Parse l
      rw [prR_some hq] at c1
      refine callOK_of TT_ok mixT Tryz.func6 rfl rfl (Nat.le_of_ble_eq_true rfl) ?_
      repeat (first | refine r_op rfl rfl rfl rfl ?_ | refine r_skip rfl rfl rfl ?_ | refine .done ?_ | refine r_seq (T := TT) ?_ | refine r_region (T := TT) rfl ?_ | refine r_block (T := TT) ?_ | refine r_then (T := TT) rfl ?_ | refine r_else (T := TT) rfl ?_)
      refine r_call (ok_l2_awake) rfl rfl rfl rfl rfl rfl rfl ?_
      iterate 5 (first | refine r_op rfl rfl rfl rfl ?_ | refine r_skip rfl rfl rfl ?_)
      refine r_eq (v' := .bool false) rfl rfl rfl rfl ?_ ?_
      · exact congrArg Value.bool (decide_eq_false (by omega))
      repeat (first | refine r_op rfl rfl rfl rfl ?_ | refine r_skip rfl rfl rfl ?_ | refine .done ?_ | refine r_seq (T := TT) ?_ | refine r_region (T := TT) rfl ?_ | refine r_block (T := TT) ?_ | refine r_then (T := TT) rfl ?_ | refine r_else (T := TT) rfl ?_)
      refine r_call (ok_q_Parse hq) rfl rfl rfl rfl rfl rfl rfl ?_
      repeat (first | refine r_op rfl rfl rfl rfl ?_ | refine r_skip rfl rfl rfl ?_ | refine .done ?_ | refine r_seq (T := TT) ?_ | refine r_region (T := TT) rfl ?_ | refine r_block (T := TT) ?_ | refine r_then (T := TT) rfl ?_ | refine r_else (T := TT) rfl ?_)
      refine r_call (c1) rfl rfl rfl rfl rfl rfl rfl ?_
      repeat (first | refine r_op rfl rfl rfl rfl ?_ | refine r_skip rfl rfl rfl ?_ | refine .done ?_ | refine r_seq (T := TT) ?_ | refine r_region (T := TT) rfl ?_ | refine r_block (T := TT) ?_ | refine r_then (T := TT) rfl ?_ | refine r_else (T := TT) rfl ?_)
      refine r_call (same_t (parseQ_sz hq) (by decide) rfl) rfl rfl rfl rfl rfl rfl rfl ?_
      repeat (first | refine r_op rfl rfl rfl rfl ?_ | refine r_skip rfl rfl rfl ?_ | refine .done ?_ | refine r_seq (T := TT) ?_ | refine r_region (T := TT) rfl ?_ | refine r_block (T := TT) ?_ | refine r_then (T := TT) rfl ?_ | refine r_else (T := TT) rfl ?_)
      exact r_fin (T := TT) rfl rfl
set_option maxRecDepth 100000 in
theorem rationalParse_lifted (os : Os) (started : os.Started) (H : Type) (enc : TypeId × Value → H) :
    ReturnsInHanded {} Tryz.checked os 6 .any (fun w args => (Rows.rationalParseSpec.pre enc Tryz.prog Tryz.f6 [] false w args ∧ laidMetH Tryz.prog Rows.rationalParseRow.laid w) ∧ sizedMet enc Tryz.prog Tryz.f6 (OpenSpec.ofChange Rows.rationalParseSpec) false w args)
      (Rows.rationalParseSpec.post enc Tryz.prog Tryz.f6 false true false false) := by
  refine returnsInHanded_of_change_and (C := Tryz.checked) (X := fun w _ => laidMetH Tryz.prog Rows.rationalParseRow.laid w) (fun _ _ _ hh h => h.of_heap hh) Tryz.own started (by kernel_rfl) Tryz.func6
    (ChangeSpec.witness_shaped (enc := enc) (C := Tryz.checked) (os := os) (X := fun w _ => laidMetH Tryz.prog Rows.rationalParseRow.laid w) false (World.laidAll Tryz.prog os Rows.rationalParseRow.laid) #[.string ByteArray.empty] 8 (World.laidAll_os _ _ _) (World.shaped_of_ZipB (by kernel_rfl) (by kernel_rfl)) (by kernel_rfl) (by kernel_rfl) (by kernel_rfl)
      (by rw [MakeChecks.laidMetH_plain _ _ _ (by kernel_rfl)]; exact laidMet_laidAll _ (by kernel_rfl) (by kernel_rfl))) ?_
  intro W base args ds gs before hval0 hW _ _ hL _
  have htab : NoWord (fun _ => False) W := tabs_of (by kernel_rfl) (by unfold Rows.rationalParseRow; simp) hL
  have hval : ∀ (j : Nat) t v, Tryz.f6.params[j]? = some t → args[j]? = some v → Value.okWide Tryz.prog W .any base t v := hval0
  have hW' := hW
  obtain ⟨p, q, hA0, hV, rfl, hfz, hnd⟩ := hW
  have hA : DataW.TrodAll enc Tryz.prog W 0 (fun _ => true) true Tryz.f6.params.toList args.toList ds p := hA0
  rw [Tryz.params6] at hA hval
  obtain ⟨v0, d0, rfl, rfl, h0⟩ := trodAll_one hA
  obtain ⟨x0, rfl, rfl, rfl, b0⟩ := open_string Tryz.underlying9 (hval 0 9 v0 rfl rfl) h0
  refine (law_calls (okl_RationalParse x0) htab (vs := [_]) ⟨AV.M.val rfl, trivial⟩).mono fun e W' ⟨he, hB⟩ => ?_
  subst he
  exact ⟨_, rfl, law_post hW' rfl (by kernel_rfl) (by kernel_rfl) (fun ds hl => by
    match ds, hl with
    | [_], _ => rfl) hB⟩
theorem rationalParse_holds : Rows.RationalParseSaid :=
  OpenClaim.holds_of_wide 6 Tryz.f6 rfl rfl rfl rfl rfl rfl rfl ⟨rfl, rfl, rfl, rfl, rfl⟩ rfl rfl rfl rfl rfl (by kernel_rfl) Tryz.func6 (by kernel_rfl)
    (of_decide_eq_true (by kernel_rfl)) (by unfold Func.isWrapper; rw [if_neg (of_decide_eq_false (by kernel_rfl))]; exact ⟨rfl, rfl⟩)
    (fun os started H enc _ => rationalParse_lifted os started H enc)
theorem rationalParse_card : Rows.RationalParseCardSaid :=
  Claim7.holds_tied_plain_at .later [] [.data, .data, .data, .data, .pinned] true (true, "df384f189231cf02a8903b65f52d1e773c5f3381cd4bb6cae65e13789325afb1") false
    rationalParse_holds (fun _ h => by cases h) (by kernel_rfl) (fun _ h => by cases h) rationalParse_row_tie rfl ⟨rfl, rfl⟩ (by kernel_rfl) rfl
    (fun f fn hf hfn => by
      obtain rfl : f = 6 := Option.some.inj ((show Tryz.prog.funcNamed "setsquare/setsquarelaw02.RationalParse" = some 6 by kernel_rfl).symm.trans hf) |>.symm
      obtain rfl : fn = Tryz.f6 := (Option.some.inj (Tryz.func6.symm.trans hfn)).symm
      exact ⟨by kernel_rfl, fun j t ht => by
        rw [Tryz.params6] at ht
        have hm : t ∈ [9] := by simpa using Array.mem_of_getElem? ht
        have hall : ([9].all fun u => !Tryz.prog.wantsStandIn u) = true := by kernel_rfl
        exact (show Tryz.prog.wantsStandIn t = false by simpa using List.all_eq_true.1 hall t hm)⟩)
    (by kernel_rfl)
end Go.Proofs.YtecjnnhkbmkemaaGreatDoor
