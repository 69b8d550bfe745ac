/- UnitSubstitution answers true. -/
import Derived.Test.YtmpadildchphgaaGreatDoorSZ5
import Derived.ChangeMaps5
namespace Go.Proofs.YtmpadildchphgaaGreatDoor
open Go.ChangeShapes Go.WideShapes Go.ChangeAt Go.RowKit Go.Joins
open Go.ChangeMaps (open_string)
def wtZ : Ex → Nat
  | .num _ _ => 9
  | .nam _ => 1
  | .neg a => wtZ a
  | .bin _ a b => wtZ a + wtZ b + 1
theorem ev_ok0 : ∀ {e : Ex} {x : Rat × Int}, okE e → evE (envF []) e = .ok x → SzQ (wtZ e) x.1 ∧ inP x.2 = true
  | .num v u, x, ho, h => ev_ok (env := envF []) (fun s y hy => by cases hy) (e := .num v u) ho h
  | .nam s, x, _, h => by cases h
  | .neg a, x, ho, h => by
    simp only [evE] at h
    split at h
    · rename_i y hy
      cases h
      have := ev_ok0 (e := a) ho hy
      exact ⟨this.1.neg, this.2⟩
    · cases h
  | .bin k a b, x, ho, h => by
    simp only [evE] at h
    cases hy : evE (envF []) a with
    | error z => rw [hy] at h; cases h
    | ok y =>
      rw [hy] at h
      cases hz : evE (envF []) b with
      | error z => rw [hz] at h; cases h
      | ok z =>
        rw [hz] at h
        have h1 := ev_ok0 (e := a) ho.1 hy
        have h2 := ev_ok0 (e := b) ho.2 hz
        exact opR_ok h1.1 h2.1 h1.2 h
theorem wtZ_sz : ∀ e : Ex, wtZ e + 1 ≤ 10 * szX (rx e)
  | .num _ _ => by simp [rx, szX, szXs, wtZ]
  | .nam _ => by simp [rx, szX, szXs, wtZ]
  | .neg a => by
    have := wtZ_sz a
    simp only [rx, szX, szXs, wtZ]
    omega
  | .bin k a b => by
    have := wtZ_sz a
    have := wtZ_sz b
    simp only [rx, szX, szXs, wtZ]
    omega
set_option maxHeartbeats 4000000 in
theorem okl_Sub {x y : Rx} (nm : List UInt8) (hx : WdX x) (hy : WdX y) : CallOK Tryz.prog 7 [dR x, dR y, dL nm] (.one (dB true)) := by
  have c1 := ok_l23_small x hx 40 (by decide)
  have c2 := ok_l23_small y hy 40 (by decide)
  have ndx := ndX_le x 40
  have ndy := ndX_le y 40
  cases hsx : (decide (ndX x 40 ≤ 40) && (decide (ndX x 120 ≤ 120) && ltX x)) with
  | false =>
    rw [hsx] at c1
    obtain ⟨o1, na1, xs1, nb1, ys1, nm1, n1, cs1, hA⟩ := aR_form x
    obtain ⟨o2, na2, xs2, nb2, ys2, nm2, n2, cs2, hB⟩ := aR_form y
    rw [show dR x = .agg (cell7 o1 na1 xs1 nb1 ys1 nm1 n1 cs1) from congrArg DV.agg hA] at c1 ⊢
    rw [show dR y = .agg (cell7 o2 na2 xs2 nb2 ys2 nm2 n2 cs2) from congrArg DV.agg hB]
    refine callOK_of TT_ok mixT Tryz.func7 rfl rfl (Nat.le_of_ble_eq_true rfl) ?_
    repeat (first | refine r_op rfl rfl rfl rfl ?_ | refine r_skip rfl rfl rfl ?_ | refine .done ?_ | refine r_seq (T := TT) ?_ | refine r_region (T := TT) rfl ?_ | refine r_block (T := TT) ?_ | refine r_then (T := TT) rfl ?_ | refine r_else (T := TT) rfl ?_)
    refine r_call (ok_l23_awake) rfl rfl rfl rfl rfl rfl rfl ?_
    repeat (first | refine r_op rfl rfl rfl rfl ?_ | refine r_skip rfl rfl rfl ?_ | refine .done ?_ | refine r_seq (T := TT) ?_ | refine r_region (T := TT) rfl ?_ | refine r_block (T := TT) ?_ | refine r_then (T := TT) rfl ?_ | refine r_else (T := TT) rfl ?_)
    refine r_call (c1) rfl rfl rfl rfl rfl rfl rfl ?_
    repeat (first | refine r_op rfl rfl rfl rfl ?_ | refine r_skip rfl rfl rfl ?_ | refine .done ?_ | refine r_seq (T := TT) ?_ | refine r_region (T := TT) rfl ?_ | refine r_block (T := TT) ?_ | refine r_then (T := TT) rfl ?_ | refine r_else (T := TT) rfl ?_)
    refine r_call (ok_l23_awake) rfl rfl rfl rfl rfl rfl rfl ?_
    repeat (first | refine r_op rfl rfl rfl rfl ?_ | refine r_skip rfl rfl rfl ?_ | refine .done ?_ | refine r_seq (T := TT) ?_ | refine r_region (T := TT) rfl ?_ | refine r_block (T := TT) ?_ | refine r_then (T := TT) rfl ?_ | refine r_else (T := TT) rfl ?_)
    exact r_fin (T := TT) rfl rfl
  | true =>
  rw [hsx] at c1
  cases hsy : (decide (ndX y 40 ≤ 40) && (decide (ndX y 120 ≤ 120) && ltX y)) with
  | false =>
    rw [hsy] at c2
    obtain ⟨o1, na1, xs1, nb1, ys1, nm1, n1, cs1, hA⟩ := aR_form x
    obtain ⟨o2, na2, xs2, nb2, ys2, nm2, n2, cs2, hB⟩ := aR_form y
    rw [show dR x = .agg (cell7 o1 na1 xs1 nb1 ys1 nm1 n1 cs1) from congrArg DV.agg hA] at c1 ⊢
    rw [show dR y = .agg (cell7 o2 na2 xs2 nb2 ys2 nm2 n2 cs2) from congrArg DV.agg hB] at c2 ⊢
    refine callOK_of TT_ok mixT Tryz.func7 rfl rfl (Nat.le_of_ble_eq_true rfl) ?_
    repeat (first | refine r_op rfl rfl rfl rfl ?_ | refine r_skip rfl rfl rfl ?_ | refine .done ?_ | refine r_seq (T := TT) ?_ | refine r_region (T := TT) rfl ?_ | refine r_block (T := TT) ?_ | refine r_then (T := TT) rfl ?_ | refine r_else (T := TT) rfl ?_)
    refine r_call (ok_l23_awake) rfl rfl rfl rfl rfl rfl rfl ?_
    repeat (first | refine r_op rfl rfl rfl rfl ?_ | refine r_skip rfl rfl rfl ?_ | refine .done ?_ | refine r_seq (T := TT) ?_ | refine r_region (T := TT) rfl ?_ | refine r_block (T := TT) ?_ | refine r_then (T := TT) rfl ?_ | refine r_else (T := TT) rfl ?_)
    refine r_call (c1) rfl rfl rfl rfl rfl rfl rfl ?_
    repeat (first | refine r_op rfl rfl rfl rfl ?_ | refine r_skip rfl rfl rfl ?_ | refine .done ?_ | refine r_seq (T := TT) ?_ | refine r_region (T := TT) rfl ?_ | refine r_block (T := TT) ?_ | refine r_then (T := TT) rfl ?_ | refine r_else (T := TT) rfl ?_)
    refine r_call (c2) rfl rfl rfl rfl rfl rfl rfl ?_
    repeat (first | refine r_op rfl rfl rfl rfl ?_ | refine r_skip rfl rfl rfl ?_ | refine .done ?_ | refine r_seq (T := TT) ?_ | refine r_region (T := TT) rfl ?_ | refine r_block (T := TT) ?_ | refine r_then (T := TT) rfl ?_ | refine r_else (T := TT) rfl ?_)
    refine r_call (ok_l23_awake) rfl rfl rfl rfl rfl rfl rfl ?_
    repeat (first | refine r_op rfl rfl rfl rfl ?_ | refine r_skip rfl rfl rfl ?_ | refine .done ?_ | refine r_seq (T := TT) ?_ | refine r_region (T := TT) rfl ?_ | refine r_block (T := TT) ?_ | refine r_then (T := TT) rfl ?_ | refine r_else (T := TT) rfl ?_)
    exact r_fin (T := TT) rfl rfl
  | true =>
  rw [hsy] at c2
  simp only [Bool.and_eq_true, decide_eq_true_eq] at hsx hsy
  have szx := ndx.2.2 hsx.1
  have szy := ndy.2.2 hsy.1
  obtain ⟨v, c3, h3⟩ := ok_r22_Valid x hx hsx.2.2 (by omega)
  obtain ⟨v', c4, h4⟩ := ok_r22_Valid y hy hsy.2.2 (by omega)
  by_cases hv : v = 0
  · by_cases hv' : v' = 0
    · subst hv hv'
      obtain ⟨ex, rfl, hex, _⟩ := h3 rfl
      obtain ⟨ey, rfl, hey, _⟩ := h4 rfl
      have hnx : szX (rx ex) ≤ 40 := by omega
      have hny : szX (rx ey) ≤ 40 := by omega
      have wtx := wt_sz ex
      have wty := wt_sz ey
      have zy := wtZ_sz ey
      have c5 := ok_u_Eval (l := []) (fun i j a b h => by simp) (by decide) (fun x h => by cases h) ey hey (by omega)
      have c6 := ok_replaced nm (rx ey) (rx ex) hx (by omega)
      have hz := rep_rx (s := nm) (b := ey) ex
      rw [hz] at c6
      have hsz := sz_sub (s := nm) (b := ey) ex
      have hsz2 : szX (rx (subE nm ey ex)) ≤ 40 * 40 := Nat.le_trans hsz (Nat.mul_le_mul hnx hny)
      obtain ⟨vz, c7, _⟩ := ok_r22_Valid (rx (subE nm ey ex)) (by rw [← hz]; exact wd_rep hy _ hx) (by rw [← hz]; exact lt_rep hsy.2.2 _ hsx.2.2) (by omega)
      have c5 : CallOK Tryz.prog 22 [.agg (aR (rx ey)), .leaf (.sl 0 []), .leaf (.sl 0 [])] _ := c5
      have c1 : CallOK Tryz.prog 20 [.agg (aR (rx ex)), _] _ := c1
      have c2 : CallOK Tryz.prog 20 [.agg (aR (rx ey)), _] _ := c2
      have c3 : CallOK Tryz.prog 21 [.agg (aR (rx ex))] _ := c3
      have c4 : CallOK Tryz.prog 21 [.agg (aR (rx ey))] _ := c4
      have c6 : CallOK Tryz.prog 28 [.agg (aR (rx ex)), _, .agg (aR (rx ey))] (.one (.agg (aR (rx (subE nm ey ex))))) := c6
      have c7 : CallOK Tryz.prog 21 [.agg (aR (rx (subE nm ey ex)))] _ := c7
      show CallOK Tryz.prog _ [.agg (aR (rx ex)), .agg (aR (rx ey)), dL nm] _
      obtain ⟨o1, na1, xs1, nb1, ys1, nm1, n1, cs1, hA⟩ := aR_form (rx ex)
      obtain ⟨o2, na2, xs2, nb2, ys2, nm2, n2, cs2, hB⟩ := aR_form (rx ey)
      obtain ⟨o3, na3, xs3, nb3, ys3, nm3, n3, cs3, hC⟩ := aR_form (rx (subE nm ey ex))
      cases hE : evE (envF []) ey with
      | error z =>
        have hz0 := ev_err hE
        rw [hE] at c5
        rw [hA] at c1 c3 c6 ⊢
        rw [hB] at c2 c4 c5 c6 ⊢
        rw [hC] at c6
        refine callOK_of TT_ok mixT Tryz.func7 rfl rfl (Nat.le_of_ble_eq_true rfl) ?_
        repeat (first | refine r_op rfl rfl rfl rfl ?_ | refine r_skip rfl rfl rfl ?_ | refine .done ?_ | refine r_seq (T := TT) ?_ | refine r_region (T := TT) rfl ?_ | refine r_block (T := TT) ?_ | refine r_then (T := TT) rfl ?_ | refine r_else (T := TT) rfl ?_)
        refine r_call (ok_l23_awake) rfl rfl rfl rfl rfl rfl rfl ?_
        repeat (first | refine r_op rfl rfl rfl rfl ?_ | refine r_skip rfl rfl rfl ?_ | refine .done ?_ | refine r_seq (T := TT) ?_ | refine r_region (T := TT) rfl ?_ | refine r_block (T := TT) ?_ | refine r_then (T := TT) rfl ?_ | refine r_else (T := TT) rfl ?_)
        refine r_call (c1) rfl rfl rfl rfl rfl rfl rfl ?_
        repeat (first | refine r_op rfl rfl rfl rfl ?_ | refine r_skip rfl rfl rfl ?_ | refine .done ?_ | refine r_seq (T := TT) ?_ | refine r_region (T := TT) rfl ?_ | refine r_block (T := TT) ?_ | refine r_then (T := TT) rfl ?_ | refine r_else (T := TT) rfl ?_)
        refine r_call (c2) rfl rfl rfl rfl rfl rfl rfl ?_
        repeat (first | refine r_op rfl rfl rfl rfl ?_ | refine r_skip rfl rfl rfl ?_ | refine .done ?_ | refine r_seq (T := TT) ?_ | refine r_region (T := TT) rfl ?_ | refine r_block (T := TT) ?_ | refine r_then (T := TT) rfl ?_ | refine r_else (T := TT) rfl ?_)
        refine r_call (c3) rfl rfl rfl rfl rfl rfl rfl ?_
        repeat (first | refine r_op rfl rfl rfl rfl ?_ | refine r_skip rfl rfl rfl ?_ | refine .done ?_ | refine r_seq (T := TT) ?_ | refine r_region (T := TT) rfl ?_ | refine r_block (T := TT) ?_ | refine r_then (T := TT) rfl ?_ | refine r_else (T := TT) rfl ?_)
        refine r_call (c4) rfl rfl rfl rfl rfl rfl rfl ?_
        repeat (first | refine r_op rfl rfl rfl rfl ?_ | refine r_skip rfl rfl rfl ?_ | refine .done ?_ | refine r_seq (T := TT) ?_ | refine r_region (T := TT) rfl ?_ | refine r_block (T := TT) ?_ | refine r_then (T := TT) rfl ?_ | refine r_else (T := TT) rfl ?_)
        refine r_call (c5) rfl rfl rfl rfl rfl rfl rfl ?_
        repeat (first | refine r_op rfl rfl rfl rfl ?_ | refine r_skip rfl rfl rfl ?_ | refine .done ?_ | refine r_seq (T := TT) ?_ | refine r_region (T := TT) rfl ?_ | refine r_block (T := TT) ?_ | refine r_then (T := TT) rfl ?_ | refine r_else (T := TT) rfl ?_)
        refine r_call (c6) rfl rfl rfl rfl rfl rfl rfl ?_
        iterate 1 ((repeat (first | refine r_op rfl rfl rfl rfl ?_ | refine r_skip rfl rfl rfl ?_ | refine .done ?_ | refine r_seq (T := TT) ?_ | refine r_block (T := TT) ?_ | refine r_then (T := TT) rfl ?_ | refine r_else (T := TT) rfl ?_)); refine r_region (T := TT) rfl ?_)
        iterate 1 (first | refine r_op rfl rfl rfl rfl ?_ | refine r_skip rfl rfl rfl ?_)
        refine r_eq (v' := .bool true) rfl rfl rfl rfl ?_ ?_
        · exact congrArg Value.bool ((by simpa using hz0))
        repeat (first | refine r_op rfl rfl rfl rfl ?_ | refine r_skip rfl rfl rfl ?_ | refine .done ?_ | refine r_seq (T := TT) ?_ | refine r_region (T := TT) rfl ?_ | refine r_block (T := TT) ?_ | refine r_then (T := TT) rfl ?_ | refine r_else (T := TT) rfl ?_)
        exact r_fin (T := TT) rfl rfl
      | ok q =>
        have hq := ev_ok0 hey hE
        rw [hE] at c5
        by_cases hvz : vz = 0
        · subst hvz
          have hq8 : ∀ x ∈ ([(nm, q)] : EL), SzQ 400 x.2.1 ∧ inP x.2.2 = true := fun x h => by
            simp at h
            subst h
            exact ⟨hq.1.mono (by omega), hq.2⟩
          have wts := wt_sz (subE nm ey ex)
          have c8 := ok_u_Eval (l := [(nm, q)]) (fun i j a b h h1 h2 => by
            have := (List.getElem?_eq_some_iff.1 h2).1
            simp at this
            omega) (by simp) hq8 ex hex (by omega)
          have c9 := ok_u_Eval (l := []) (fun i j a b h => by simp) (by decide) (fun x h => by cases h) (subE nm ey ex) (okE_sub hey hex) (by omega)
          rw [← ev_sub hE ex] at c9
          have hR := fun x => ev_ok (e := ex) (x := x) (env_of hq8) hex
          have hRe := fun z => ev_err (env := envF [(nm, q)]) (e := ex) (z := z)
          have c8 : CallOK Tryz.prog 22 [.agg (aR (rx ex)), .leaf (.sl 1 [.val (vL nm)]), .leaf (.sl 1 (aQt q.1 q.2 ++ []))] _ := c8
          have c9 : CallOK Tryz.prog 22 [.agg (aR (rx (subE nm ey ex))), .leaf (.sl 0 []), .leaf (.sl 0 [])] _ := c9
          rw [hA] at c1 c3 c6 c8 ⊢
          rw [hB] at c2 c4 c5 c6 ⊢
          rw [hC] at c6 c7 c9
          generalize evE (envF [(nm, q)]) ex = R at *
          cases R with
          | error z =>
            have hz0 := hRe z rfl
            refine callOK_of TT_ok mixT Tryz.func7 rfl rfl (Nat.le_of_ble_eq_true rfl) ?_
            repeat (first | refine r_op rfl rfl rfl rfl ?_ | refine r_skip rfl rfl rfl ?_ | refine .done ?_ | refine r_seq (T := TT) ?_ | refine r_region (T := TT) rfl ?_ | refine r_block (T := TT) ?_ | refine r_then (T := TT) rfl ?_ | refine r_else (T := TT) rfl ?_)
            refine r_call (ok_l23_awake) rfl rfl rfl rfl rfl rfl rfl ?_
            repeat (first | refine r_op rfl rfl rfl rfl ?_ | refine r_skip rfl rfl rfl ?_ | refine .done ?_ | refine r_seq (T := TT) ?_ | refine r_region (T := TT) rfl ?_ | refine r_block (T := TT) ?_ | refine r_then (T := TT) rfl ?_ | refine r_else (T := TT) rfl ?_)
            refine r_call (c1) rfl rfl rfl rfl rfl rfl rfl ?_
            repeat (first | refine r_op rfl rfl rfl rfl ?_ | refine r_skip rfl rfl rfl ?_ | refine .done ?_ | refine r_seq (T := TT) ?_ | refine r_region (T := TT) rfl ?_ | refine r_block (T := TT) ?_ | refine r_then (T := TT) rfl ?_ | refine r_else (T := TT) rfl ?_)
            refine r_call (c2) rfl rfl rfl rfl rfl rfl rfl ?_
            repeat (first | refine r_op rfl rfl rfl rfl ?_ | refine r_skip rfl rfl rfl ?_ | refine .done ?_ | refine r_seq (T := TT) ?_ | refine r_region (T := TT) rfl ?_ | refine r_block (T := TT) ?_ | refine r_then (T := TT) rfl ?_ | refine r_else (T := TT) rfl ?_)
            refine r_call (c3) rfl rfl rfl rfl rfl rfl rfl ?_
            repeat (first | refine r_op rfl rfl rfl rfl ?_ | refine r_skip rfl rfl rfl ?_ | refine .done ?_ | refine r_seq (T := TT) ?_ | refine r_region (T := TT) rfl ?_ | refine r_block (T := TT) ?_ | refine r_then (T := TT) rfl ?_ | refine r_else (T := TT) rfl ?_)
            refine r_call (c4) rfl rfl rfl rfl rfl rfl rfl ?_
            repeat (first | refine r_op rfl rfl rfl rfl ?_ | refine r_skip rfl rfl rfl ?_ | refine .done ?_ | refine r_seq (T := TT) ?_ | refine r_region (T := TT) rfl ?_ | refine r_block (T := TT) ?_ | refine r_then (T := TT) rfl ?_ | refine r_else (T := TT) rfl ?_)
            refine r_call (c5) rfl rfl rfl rfl rfl rfl rfl ?_
            repeat (first | refine r_op rfl rfl rfl rfl ?_ | refine r_skip rfl rfl rfl ?_ | refine .done ?_ | refine r_seq (T := TT) ?_ | refine r_region (T := TT) rfl ?_ | refine r_block (T := TT) ?_ | refine r_then (T := TT) rfl ?_ | refine r_else (T := TT) rfl ?_)
            refine r_call (c6) rfl rfl rfl rfl rfl rfl rfl ?_
            repeat (first | refine r_op rfl rfl rfl rfl ?_ | refine r_skip rfl rfl rfl ?_ | refine .done ?_ | refine r_seq (T := TT) ?_ | refine r_region (T := TT) rfl ?_ | refine r_block (T := TT) ?_ | refine r_then (T := TT) rfl ?_ | refine r_else (T := TT) rfl ?_)
            refine r_call (c7) rfl rfl rfl rfl rfl rfl rfl ?_
            repeat (first | refine r_op rfl rfl rfl rfl ?_ | refine r_skip rfl rfl rfl ?_ | refine .done ?_ | refine r_seq (T := TT) ?_ | refine r_region (T := TT) rfl ?_ | refine r_block (T := TT) ?_ | refine r_then (T := TT) rfl ?_ | refine r_else (T := TT) rfl ?_)
            refine r_call (c8) rfl rfl rfl rfl rfl rfl rfl ?_
            repeat (first | refine r_op rfl rfl rfl rfl ?_ | refine r_skip rfl rfl rfl ?_ | refine .done ?_ | refine r_seq (T := TT) ?_ | refine r_region (T := TT) rfl ?_ | refine r_block (T := TT) ?_ | refine r_then (T := TT) rfl ?_ | refine r_else (T := TT) rfl ?_)
            refine r_call (c9) rfl rfl rfl rfl rfl rfl rfl ?_
            iterate 1 ((repeat (first | refine r_op rfl rfl rfl rfl ?_ | refine r_skip rfl rfl rfl ?_ | refine .done ?_ | refine r_seq (T := TT) ?_ | refine r_block (T := TT) ?_ | refine r_then (T := TT) rfl ?_ | refine r_else (T := TT) rfl ?_)); refine r_region (T := TT) rfl ?_)
            iterate 2 (first | refine r_op rfl rfl rfl rfl ?_ | refine r_skip rfl rfl rfl ?_)
            refine r_eq (v' := .bool true) rfl rfl rfl rfl ?_ ?_
            · exact congrArg Value.bool ((by simp))
            iterate 2 (first | refine r_op rfl rfl rfl rfl ?_ | refine r_skip rfl rfl rfl ?_)
            refine r_eq (v' := .bool true) rfl rfl rfl rfl ?_ ?_
            · exact congrArg Value.bool ((by simpa using hz0))
            repeat (first | refine r_op rfl rfl rfl rfl ?_ | refine r_skip rfl rfl rfl ?_ | refine .done ?_ | refine r_seq (T := TT) ?_ | refine r_region (T := TT) rfl ?_ | refine r_block (T := TT) ?_ | refine r_then (T := TT) rfl ?_ | refine r_else (T := TT) rfl ?_)
            exact r_fin (T := TT) rfl rfl
          | ok x =>
            have hx0 := hR x rfl
            have c10 := same23 (p := x.2) hx0.1 (by omega)
            refine callOK_of TT_ok mixT Tryz.func7 rfl rfl (Nat.le_of_ble_eq_true rfl) ?_
            repeat (first | refine r_op rfl rfl rfl rfl ?_ | refine r_skip rfl rfl rfl ?_ | refine .done ?_ | refine r_seq (T := TT) ?_ | refine r_region (T := TT) rfl ?_ | refine r_block (T := TT) ?_ | refine r_then (T := TT) rfl ?_ | refine r_else (T := TT) rfl ?_)
            refine r_call (ok_l23_awake) rfl rfl rfl rfl rfl rfl rfl ?_
            repeat (first | refine r_op rfl rfl rfl rfl ?_ | refine r_skip rfl rfl rfl ?_ | refine .done ?_ | refine r_seq (T := TT) ?_ | refine r_region (T := TT) rfl ?_ | refine r_block (T := TT) ?_ | refine r_then (T := TT) rfl ?_ | refine r_else (T := TT) rfl ?_)
            refine r_call (c1) rfl rfl rfl rfl rfl rfl rfl ?_
            repeat (first | refine r_op rfl rfl rfl rfl ?_ | refine r_skip rfl rfl rfl ?_ | refine .done ?_ | refine r_seq (T := TT) ?_ | refine r_region (T := TT) rfl ?_ | refine r_block (T := TT) ?_ | refine r_then (T := TT) rfl ?_ | refine r_else (T := TT) rfl ?_)
            refine r_call (c2) rfl rfl rfl rfl rfl rfl rfl ?_
            repeat (first | refine r_op rfl rfl rfl rfl ?_ | refine r_skip rfl rfl rfl ?_ | refine .done ?_ | refine r_seq (T := TT) ?_ | refine r_region (T := TT) rfl ?_ | refine r_block (T := TT) ?_ | refine r_then (T := TT) rfl ?_ | refine r_else (T := TT) rfl ?_)
            refine r_call (c3) rfl rfl rfl rfl rfl rfl rfl ?_
            repeat (first | refine r_op rfl rfl rfl rfl ?_ | refine r_skip rfl rfl rfl ?_ | refine .done ?_ | refine r_seq (T := TT) ?_ | refine r_region (T := TT) rfl ?_ | refine r_block (T := TT) ?_ | refine r_then (T := TT) rfl ?_ | refine r_else (T := TT) rfl ?_)
            refine r_call (c4) rfl rfl rfl rfl rfl rfl rfl ?_
            repeat (first | refine r_op rfl rfl rfl rfl ?_ | refine r_skip rfl rfl rfl ?_ | refine .done ?_ | refine r_seq (T := TT) ?_ | refine r_region (T := TT) rfl ?_ | refine r_block (T := TT) ?_ | refine r_then (T := TT) rfl ?_ | refine r_else (T := TT) rfl ?_)
            refine r_call (c5) rfl rfl rfl rfl rfl rfl rfl ?_
            repeat (first | refine r_op rfl rfl rfl rfl ?_ | refine r_skip rfl rfl rfl ?_ | refine .done ?_ | refine r_seq (T := TT) ?_ | refine r_region (T := TT) rfl ?_ | refine r_block (T := TT) ?_ | refine r_then (T := TT) rfl ?_ | refine r_else (T := TT) rfl ?_)
            refine r_call (c6) rfl rfl rfl rfl rfl rfl rfl ?_
            repeat (first | refine r_op rfl rfl rfl rfl ?_ | refine r_skip rfl rfl rfl ?_ | refine .done ?_ | refine r_seq (T := TT) ?_ | refine r_region (T := TT) rfl ?_ | refine r_block (T := TT) ?_ | refine r_then (T := TT) rfl ?_ | refine r_else (T := TT) rfl ?_)
            refine r_call (c7) rfl rfl rfl rfl rfl rfl rfl ?_
            repeat (first | refine r_op rfl rfl rfl rfl ?_ | refine r_skip rfl rfl rfl ?_ | refine .done ?_ | refine r_seq (T := TT) ?_ | refine r_region (T := TT) rfl ?_ | refine r_block (T := TT) ?_ | refine r_then (T := TT) rfl ?_ | refine r_else (T := TT) rfl ?_)
            refine r_call (c8) rfl rfl rfl rfl rfl rfl rfl ?_
            repeat (first | refine r_op rfl rfl rfl rfl ?_ | refine r_skip rfl rfl rfl ?_ | refine .done ?_ | refine r_seq (T := TT) ?_ | refine r_region (T := TT) rfl ?_ | refine r_block (T := TT) ?_ | refine r_then (T := TT) rfl ?_ | refine r_else (T := TT) rfl ?_)
            refine r_call (c9) rfl rfl rfl rfl rfl rfl rfl ?_
            repeat (first | refine r_op rfl rfl rfl rfl ?_ | refine r_skip rfl rfl rfl ?_ | refine .done ?_ | refine r_seq (T := TT) ?_ | refine r_region (T := TT) rfl ?_ | refine r_block (T := TT) ?_ | refine r_then (T := TT) rfl ?_ | refine r_else (T := TT) rfl ?_)
            refine r_call (c10) rfl rfl rfl rfl rfl rfl rfl ?_
            repeat (first | refine r_op rfl rfl rfl rfl ?_ | refine r_skip rfl rfl rfl ?_ | refine .done ?_ | refine r_seq (T := TT) ?_ | refine r_region (T := TT) rfl ?_ | refine r_block (T := TT) ?_ | refine r_then (T := TT) rfl ?_ | refine r_else (T := TT) rfl ?_)
            exact r_fin (T := TT) rfl rfl
        · rw [hA] at c1 c3 c6 ⊢
          rw [hB] at c2 c4 c5 c6 ⊢
          rw [hC] at c6 c7
          refine callOK_of TT_ok mixT Tryz.func7 rfl rfl (Nat.le_of_ble_eq_true rfl) ?_
          repeat (first | refine r_op rfl rfl rfl rfl ?_ | refine r_skip rfl rfl rfl ?_ | refine .done ?_ | refine r_seq (T := TT) ?_ | refine r_region (T := TT) rfl ?_ | refine r_block (T := TT) ?_ | refine r_then (T := TT) rfl ?_ | refine r_else (T := TT) rfl ?_)
          refine r_call (ok_l23_awake) rfl rfl rfl rfl rfl rfl rfl ?_
          repeat (first | refine r_op rfl rfl rfl rfl ?_ | refine r_skip rfl rfl rfl ?_ | refine .done ?_ | refine r_seq (T := TT) ?_ | refine r_region (T := TT) rfl ?_ | refine r_block (T := TT) ?_ | refine r_then (T := TT) rfl ?_ | refine r_else (T := TT) rfl ?_)
          refine r_call (c1) rfl rfl rfl rfl rfl rfl rfl ?_
          repeat (first | refine r_op rfl rfl rfl rfl ?_ | refine r_skip rfl rfl rfl ?_ | refine .done ?_ | refine r_seq (T := TT) ?_ | refine r_region (T := TT) rfl ?_ | refine r_block (T := TT) ?_ | refine r_then (T := TT) rfl ?_ | refine r_else (T := TT) rfl ?_)
          refine r_call (c2) rfl rfl rfl rfl rfl rfl rfl ?_
          repeat (first | refine r_op rfl rfl rfl rfl ?_ | refine r_skip rfl rfl rfl ?_ | refine .done ?_ | refine r_seq (T := TT) ?_ | refine r_region (T := TT) rfl ?_ | refine r_block (T := TT) ?_ | refine r_then (T := TT) rfl ?_ | refine r_else (T := TT) rfl ?_)
          refine r_call (c3) rfl rfl rfl rfl rfl rfl rfl ?_
          repeat (first | refine r_op rfl rfl rfl rfl ?_ | refine r_skip rfl rfl rfl ?_ | refine .done ?_ | refine r_seq (T := TT) ?_ | refine r_region (T := TT) rfl ?_ | refine r_block (T := TT) ?_ | refine r_then (T := TT) rfl ?_ | refine r_else (T := TT) rfl ?_)
          refine r_call (c4) rfl rfl rfl rfl rfl rfl rfl ?_
          repeat (first | refine r_op rfl rfl rfl rfl ?_ | refine r_skip rfl rfl rfl ?_ | refine .done ?_ | refine r_seq (T := TT) ?_ | refine r_region (T := TT) rfl ?_ | refine r_block (T := TT) ?_ | refine r_then (T := TT) rfl ?_ | refine r_else (T := TT) rfl ?_)
          refine r_call (c5) rfl rfl rfl rfl rfl rfl rfl ?_
          repeat (first | refine r_op rfl rfl rfl rfl ?_ | refine r_skip rfl rfl rfl ?_ | refine .done ?_ | refine r_seq (T := TT) ?_ | refine r_region (T := TT) rfl ?_ | refine r_block (T := TT) ?_ | refine r_then (T := TT) rfl ?_ | refine r_else (T := TT) rfl ?_)
          refine r_call (c6) rfl rfl rfl rfl rfl rfl rfl ?_
          repeat (first | refine r_op rfl rfl rfl rfl ?_ | refine r_skip rfl rfl rfl ?_ | refine .done ?_ | refine r_seq (T := TT) ?_ | refine r_region (T := TT) rfl ?_ | refine r_block (T := TT) ?_ | refine r_then (T := TT) rfl ?_ | refine r_else (T := TT) rfl ?_)
          refine r_call (c7) rfl rfl rfl rfl rfl rfl rfl ?_
          refine r_eq (v' := .bool true) rfl rfl rfl rfl ?_ ?_
          · exact congrArg Value.bool ((by simpa using hvz))
          repeat (first | refine r_op rfl rfl rfl rfl ?_ | refine r_skip rfl rfl rfl ?_ | refine .done ?_ | refine r_seq (T := TT) ?_ | refine r_region (T := TT) rfl ?_ | refine r_block (T := TT) ?_ | refine r_then (T := TT) rfl ?_ | refine r_else (T := TT) rfl ?_)
          exact r_fin (T := TT) rfl rfl
    · obtain ⟨o1, na1, xs1, nb1, ys1, nm1, n1, cs1, hA⟩ := aR_form x
      obtain ⟨o2, na2, xs2, nb2, ys2, nm2, n2, cs2, hB⟩ := aR_form y
      rw [show dR x = .agg (cell7 o1 na1 xs1 nb1 ys1 nm1 n1 cs1) from congrArg DV.agg hA] at c1 c3 ⊢
      rw [show dR y = .agg (cell7 o2 na2 xs2 nb2 ys2 nm2 n2 cs2) from congrArg DV.agg hB] at c2 c4 ⊢
      subst hv
      refine callOK_of TT_ok mixT Tryz.func7 rfl rfl (Nat.le_of_ble_eq_true rfl) ?_
      repeat (first | refine r_op rfl rfl rfl rfl ?_ | refine r_skip rfl rfl rfl ?_ | refine .done ?_ | refine r_seq (T := TT) ?_ | refine r_region (T := TT) rfl ?_ | refine r_block (T := TT) ?_ | refine r_then (T := TT) rfl ?_ | refine r_else (T := TT) rfl ?_)
      refine r_call (ok_l23_awake) rfl rfl rfl rfl rfl rfl rfl ?_
      repeat (first | refine r_op rfl rfl rfl rfl ?_ | refine r_skip rfl rfl rfl ?_ | refine .done ?_ | refine r_seq (T := TT) ?_ | refine r_region (T := TT) rfl ?_ | refine r_block (T := TT) ?_ | refine r_then (T := TT) rfl ?_ | refine r_else (T := TT) rfl ?_)
      refine r_call (c1) rfl rfl rfl rfl rfl rfl rfl ?_
      repeat (first | refine r_op rfl rfl rfl rfl ?_ | refine r_skip rfl rfl rfl ?_ | refine .done ?_ | refine r_seq (T := TT) ?_ | refine r_region (T := TT) rfl ?_ | refine r_block (T := TT) ?_ | refine r_then (T := TT) rfl ?_ | refine r_else (T := TT) rfl ?_)
      refine r_call (c2) rfl rfl rfl rfl rfl rfl rfl ?_
      repeat (first | refine r_op rfl rfl rfl rfl ?_ | refine r_skip rfl rfl rfl ?_ | refine .done ?_ | refine r_seq (T := TT) ?_ | refine r_region (T := TT) rfl ?_ | refine r_block (T := TT) ?_ | refine r_then (T := TT) rfl ?_ | refine r_else (T := TT) rfl ?_)
      refine r_call (c3) rfl rfl rfl rfl rfl rfl rfl ?_
      repeat (first | refine r_op rfl rfl rfl rfl ?_ | refine r_skip rfl rfl rfl ?_ | refine .done ?_ | refine r_seq (T := TT) ?_ | refine r_region (T := TT) rfl ?_ | refine r_block (T := TT) ?_ | refine r_then (T := TT) rfl ?_ | refine r_else (T := TT) rfl ?_)
      refine r_call (c4) rfl rfl rfl rfl rfl rfl rfl ?_
      refine r_eq (v' := .bool true) rfl rfl rfl rfl ?_ ?_
      · exact congrArg Value.bool ((by simpa using hv'))
      repeat (first | refine r_op rfl rfl rfl rfl ?_ | refine r_skip rfl rfl rfl ?_ | refine .done ?_ | refine r_seq (T := TT) ?_ | refine r_region (T := TT) rfl ?_ | refine r_block (T := TT) ?_ | refine r_then (T := TT) rfl ?_ | refine r_else (T := TT) rfl ?_)
      refine r_call (ok_l23_awake) rfl rfl rfl rfl rfl rfl rfl ?_
      repeat (first | refine r_op rfl rfl rfl rfl ?_ | refine r_skip rfl rfl rfl ?_ | refine .done ?_ | refine r_seq (T := TT) ?_ | refine r_region (T := TT) rfl ?_ | refine r_block (T := TT) ?_ | refine r_then (T := TT) rfl ?_ | refine r_else (T := TT) rfl ?_)
      exact r_fin (T := TT) rfl rfl
  · obtain ⟨o1, na1, xs1, nb1, ys1, nm1, n1, cs1, hA⟩ := aR_form x
    obtain ⟨o2, na2, xs2, nb2, ys2, nm2, n2, cs2, hB⟩ := aR_form y
    rw [show dR x = .agg (cell7 o1 na1 xs1 nb1 ys1 nm1 n1 cs1) from congrArg DV.agg hA] at c1 c3 ⊢
    rw [show dR y = .agg (cell7 o2 na2 xs2 nb2 ys2 nm2 n2 cs2) from congrArg DV.agg hB] at c2 ⊢
    refine callOK_of TT_ok mixT Tryz.func7 rfl rfl (Nat.le_of_ble_eq_true rfl) ?_
    repeat (first | refine r_op rfl rfl rfl rfl ?_ | refine r_skip rfl rfl rfl ?_ | refine .done ?_ | refine r_seq (T := TT) ?_ | refine r_region (T := TT) rfl ?_ | refine r_block (T := TT) ?_ | refine r_then (T := TT) rfl ?_ | refine r_else (T := TT) rfl ?_)
    refine r_call (ok_l23_awake) rfl rfl rfl rfl rfl rfl rfl ?_
    repeat (first | refine r_op rfl rfl rfl rfl ?_ | refine r_skip rfl rfl rfl ?_ | refine .done ?_ | refine r_seq (T := TT) ?_ | refine r_region (T := TT) rfl ?_ | refine r_block (T := TT) ?_ | refine r_then (T := TT) rfl ?_ | refine r_else (T := TT) rfl ?_)
    refine r_call (c1) rfl rfl rfl rfl rfl rfl rfl ?_
    repeat (first | refine r_op rfl rfl rfl rfl ?_ | refine r_skip rfl rfl rfl ?_ | refine .done ?_ | refine r_seq (T := TT) ?_ | refine r_region (T := TT) rfl ?_ | refine r_block (T := TT) ?_ | refine r_then (T := TT) rfl ?_ | refine r_else (T := TT) rfl ?_)
    refine r_call (c2) rfl rfl rfl rfl rfl rfl rfl ?_
    repeat (first | refine r_op rfl rfl rfl rfl ?_ | refine r_skip rfl rfl rfl ?_ | refine .done ?_ | refine r_seq (T := TT) ?_ | refine r_region (T := TT) rfl ?_ | refine r_block (T := TT) ?_ | refine r_then (T := TT) rfl ?_ | refine r_else (T := TT) rfl ?_)
    refine r_call (c3) rfl rfl rfl rfl rfl rfl rfl ?_
    refine r_eq (v' := .bool true) rfl rfl rfl rfl ?_ ?_
    · exact congrArg Value.bool ((by simpa using hv))
    repeat (first | refine r_op rfl rfl rfl rfl ?_ | refine r_skip rfl rfl rfl ?_ | refine .done ?_ | refine r_seq (T := TT) ?_ | refine r_region (T := TT) rfl ?_ | refine r_block (T := TT) ?_ | refine r_then (T := TT) rfl ?_ | refine r_else (T := TT) rfl ?_)
    refine r_call (ok_l23_awake) rfl rfl rfl rfl rfl rfl rfl ?_
    repeat (first | refine r_op rfl rfl rfl rfl ?_ | refine r_skip rfl rfl rfl ?_ | refine .done ?_ | refine r_seq (T := TT) ?_ | refine r_region (T := TT) rfl ?_ | refine r_block (T := TT) ?_ | refine r_then (T := TT) rfl ?_ | refine r_else (T := TT) rfl ?_)
    exact r_fin (T := TT) rfl rfl
theorem okl_UnitSubstitution {x y : Rx} (hx : WdX x) (hy : WdX y) (s : ByteArray) : CallOK Tryz.prog 7 [dR x, dR y, dS s] (.one (dB true)) := by
  obtain ⟨l, rfl⟩ : ∃ l, Bs l = s := ⟨_, Bs_of s⟩
  exact okl_Sub l hx hy
set_option maxHeartbeats 4000000 in
set_option maxRecDepth 100000 in
theorem unitSubstitution_lifted (os : Os) (started : os.Started) (H : Type) (enc : TypeId × Value → H) :
    ReturnsInHanded {} Tryz.checked os 7 .any (fun w args => (Rows.unitSubstitutionSpec.pre enc Tryz.prog Tryz.f7 [] false w args ∧ laidMetH Tryz.prog Rows.unitSubstitutionRow.laid w) ∧ sizedMet enc Tryz.prog Tryz.f7 (OpenSpec.ofChange Rows.unitSubstitutionSpec) false w args)
      (Rows.unitSubstitutionSpec.post enc Tryz.prog Tryz.f7 false true false false) := by
  refine returnsInHanded_of_change_and (C := Tryz.checked) (X := fun w _ => laidMetH Tryz.prog Rows.unitSubstitutionRow.laid w) (fun _ _ _ hh h => h.of_heap hh) Tryz.own started (by kernel_rfl) Tryz.func7
    (ChangeSpec.witness_shaped (enc := enc) (C := Tryz.checked) (os := os) (X := fun w _ => laidMetH Tryz.prog Rows.unitSubstitutionRow.laid w) false (World.laidAll Tryz.prog os Rows.unitSubstitutionRow.laid) #[.agg #[.int .i64 0, .bool false, .slice none 0 0, .bool false, .slice none 0 0, .string ByteArray.empty, .slice none 0 0], .agg #[.int .i64 0, .bool false, .slice none 0 0, .bool false, .slice none 0 0, .string ByteArray.empty, .slice none 0 0], .string ByteArray.empty] 8 (World.laidAll_os _ _ _) (World.shaped_of_ZipB (by kernel_rfl) (by kernel_rfl)) (by kernel_rfl) (by kernel_rfl) (by kernel_rfl)
      (by rw [MakeChecks.laidMetH_plain _ _ _ (by kernel_rfl)]; exact laidMet_laidAll _ (by kernel_rfl) (by kernel_rfl))) ?_
  intro W base args ds gs before hval0 hW _ _ hL _
  have htab : NoWord (fun _ => False) W := tabs_of (by kernel_rfl) (by unfold Rows.unitSubstitutionRow; simp) (by unfold Rows.unitSubstitutionRow; simp) hL
  have hval : ∀ (j : Nat) t v, Tryz.f7.params[j]? = some t → args[j]? = some v → Value.okWide Tryz.prog W .any base t v := hval0
  have hW' := hW
  obtain ⟨p, q, hA0, hV, rfl, hfz, hnd⟩ := hW
  have hA : DataW.TrodAll enc Tryz.prog W 0 (fun _ => true) true Tryz.f7.params.toList args.toList ds p := hA0
  rw [Tryz.params7] at hA hval
  obtain ⟨v0, v1, v2, d0, d1, d2, p0, p1, p2, rfl, rfl, rfl, h0, h1, h2⟩ := trodAll_three hA
  obtain ⟨x0, a0, w0⟩ := open_expr (hval 0 38 v0 rfl rfl) h0
  obtain ⟨x1, a1, w1⟩ := open_expr (hval 1 38 v1 rfl rfl) h1
  obtain ⟨x2, rfl, rfl, rfl, b2⟩ := open_string Tryz.underlying9 (hval 2 9 v2 rfl rfl) h2
  refine (law_calls (okl_UnitSubstitution w0 w1 x2) htab (vs := [v0, v1, _]) ⟨a0, a1, AV.M.val rfl, trivial⟩).mono fun e W' ⟨he, hB⟩ => ?_
  subst he
  exact ⟨_, rfl, law_post hW' rfl (by kernel_rfl) (by kernel_rfl) (fun ds hl => by
    match ds, hl with
    | [_, _, _], _ => rfl) hB⟩
theorem unitSubstitution_holds : Rows.UnitSubstitutionSaid :=
  OpenClaim.holds_of_wide 7 Tryz.f7 rfl rfl rfl rfl rfl rfl rfl ⟨rfl, rfl, rfl, rfl, rfl⟩ rfl rfl rfl rfl rfl (by kernel_rfl) Tryz.func7 (by kernel_rfl)
    (of_decide_eq_true (by kernel_rfl)) (by unfold Func.isWrapper; rw [if_neg (of_decide_eq_false (by kernel_rfl))]; exact ⟨rfl, rfl⟩)
    (fun os started H enc _ => unitSubstitution_lifted os started H enc)
theorem unitSubstitution_card : Rows.UnitSubstitutionCardSaid :=
  Claim7.holds_tied_plain_at .later [] [.data, .data, .data, .data] true (true, "c85a1a535918bc2545e059ab9f24f5f9242015ab5fd3d2e0e636bf26319e3cb4") false
    unitSubstitution_holds (fun _ h => by cases h) (by kernel_rfl) (fun _ h => by cases h) unitSubstitution_row_tie rfl ⟨rfl, rfl⟩ (by kernel_rfl) rfl
    (fun f fn hf hfn => by
      obtain rfl : f = 7 := Option.some.inj ((show Tryz.prog.funcNamed "setsquare/setsquarelaw23.UnitSubstitution" = some 7 by kernel_rfl).symm.trans hf) |>.symm
      obtain rfl : fn = Tryz.f7 := (Option.some.inj (Tryz.func7.symm.trans hfn)).symm
      exact ⟨by kernel_rfl, fun j t ht => by
        rw [Tryz.params7] at ht
        have hm : t ∈ [38, 9] := by simpa using Array.mem_of_getElem? ht
        have hall : ([38, 9].all fun u => !Tryz.prog.wantsStandIn u) = true := by kernel_rfl
        exact (show Tryz.prog.wantsStandIn t = false by simpa using List.all_eq_true.1 hall t hm)⟩)
    (by kernel_rfl)
end Go.Proofs.YtmpadildchphgaaGreatDoor
