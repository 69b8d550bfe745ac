/- IntegerPow answers true. -/
import Derived.Test.YtdmijpechdaniaaLMul
import Derived.Test.YtdmijpechdaniaaRPow
namespace Go.Proofs.Ytdmijpechdaniaa
open Go.ChangeShapes Go.WideShapes Go.ChangeAt Go.RowKit Go.Joins
attribute [local go_sem ↓] Go.wp_at_zero Go.wp_at_succ

theorem pow_fits {xs : List Nat} (hw : Wd xs) (hl : xs.length ≤ 4) {k : Nat} (hk : k ≤ 40) : (max 1 (val xs)) ^ k < 4294967296 ^ 161 := by
  have h1 := val_lt hw
  have h2 : (4294967296 : Nat) ^ xs.length ≤ 4294967296 ^ 4 := Nat.pow_le_pow_right (by decide) hl
  have h3 : max 1 (val xs) ≤ 4294967296 ^ 4 := by omega
  calc (max 1 (val xs)) ^ k ≤ (4294967296 ^ 4) ^ k := Nat.pow_le_pow_left h3 k
    _ = 4294967296 ^ (4 * k) := by rw [← Nat.pow_mul]
    _ ≤ 4294967296 ^ 160 := Nat.pow_le_pow_right (by decide) (by omega)
    _ < 4294967296 ^ 161 := by decide
/-- what the two powers give -/
def PowBoth (na : Bool) (xs : List Nat) (k : Int) (z e : Int) : Prop := ∀ (v : Value) (w : World), IntR w v na xs → Calls Try.prog 21 #[v, .int .i64 k] w (RetE z e w) ∧ Calls Try.prog 22 #[v, .int .i64 k] w (RetE z e w)
theorem powBoth {na : Bool} {xs : List Nat} (hw : Wd xs) (hl : xs.length ≤ 4) (k : Int) (hk : k ≤ 40 ∨ 4096 < k) : ∃ z e, PowBoth na xs k z e := by
  by_cases h0 : k < 0
  · exact ⟨0, 1, fun v w h => ⟨i_Pow_lo v na xs k w h h0, r1_Pow_lo v na xs k w h h0⟩⟩
  · by_cases h1 : 4096 < k
    · exact ⟨0, 1, fun v w h => ⟨i_Pow_hi v na xs k w h h1, r1_Pow_hi v na xs k w h h1⟩⟩
    · obtain ⟨m, rfl⟩ := Int.eq_ofNat_of_zero_le (show 0 ≤ k by omega)
      exact ⟨toZ na xs ^ m, 0, fun v w h => ⟨i_Pow v na xs m 161 w h (by omega) (by decide) (pow_fits hw hl (by omega)) (by omega), r1_Pow v na xs m 161 w h (by omega) (by decide) (pow_fits hw hl (by omega)) (by omega)⟩⟩

set_option maxHeartbeats 3200000 in
theorem l1_IntegerPow (va : Value) (na : Bool) (xs : List Nat) (k : Int) (w : World) (ha : IntR w va na xs) (hk : -9223372036854775808 ≤ k ∧ k ≤ 9223372036854775807) :
    Calls Try.prog 5 #[va, .int .i64 k] w (RetB true w) := by
  obtain ⟨A, n, c, rfl, hx⟩ := ha
  obtain ⟨W, hW⟩ : ∃ W, W = w.alloc (.cells #[.bool na, .slice A n c] 24) := ⟨_, rfl⟩
  obtain ⟨⟨ca0, ca1⟩, ⟨fa0, fa1⟩, hbW⟩ := box1 w _ _ _ W hW
  have hxl := hx.len
  have hwd := hx.wd
  have Hx := Lib.hid hx
  by_cases hq : n ≤ 4 ∧ (k ≤ 40 ∨ 4096 < k)
  · have hPP : ∃ z e, PowBoth na xs k z e := powBoth hwd (by omega) k hq.2
    obtain ⟨z, er, hP⟩ := hPP
    obtain ⟨b, hb⟩ : ∃ b, decide (z < 0) = b := ⟨_, rfl⟩
    have HP : Hid (∀ (v : Value) (w : World), IntR w v na xs → Calls Try.prog 21 #[v, .int .i64 k] w (RetE z er w) ∧ Calls Try.prog 22 #[v, .int .i64 k] w (RetE z er w)) := hP
    have Hb := Lib.hid hb
    have t0 : ¬ (n : Int) > 4 := by omega
    clear hx hxl hwd hP hb
    obtain ⟨hq1, hq2⟩ := hq
    rcases hq2 with hq2 | hq2
    · have t1 : ¬ k > 40 := by omega
      go_enter Try.func5, Try.ntmps5
      go_wp2_with fail
      rw [← hW]
      clear hW
      ((with_reducible refine (l1_awake _).mono ?_); rintro e w1 ⟨rfl, hb1⟩; have hE1 : Ext W w1 := hb1; have a0 := kc' ca0 hE1; have a1 := kc' ca1 hE1)
      go_wp2_with fail
      ((with_reducible refine (l1_cp _ na xs _ (intR_ext Hx.out (hbW.trans hE1)) (by have := Hx.out.len; omega)).mono ?_); rintro e w2 ⟨v2, rfl, hv2, hb2⟩; have hE2 : Ext W w2 := hE1.more hb2)
      go_wp2_with fail
      ((with_reducible refine (HP.out _ _ hv2).1.mono ?_); rintro e w3 ⟨v3, rfl, hv3, hb3⟩; obtain ⟨A3, n3, c3, rfl, hw3⟩ := intV_open hv3 Hb.out; have hE3 : Ext W w3 := hE2.more hb3; have e0 := kc' ca0 (hE3.alloc (.cells #[.bool b, .slice A3 n3 c3] 24)); have e1 := kc' ca1 (hE3.alloc (.cells #[.bool b, .slice A3 n3 c3] 24)); have HV3 := Lib.hid (IntV.below (intV_of Hb.out hw3) (below_alloc w3 (.cells #[.bool b, .slice A3 n3 c3] 24))); obtain ⟨⟨q0, q1⟩, -⟩ := new_box w3 (.bool b) (.slice A3 n3 c3) 24)
      go_wp2_with fail
      ((with_reducible refine (HP.out _ _ (intR_ext Hx.out (hbW.trans (hE3.alloc _)))).2.mono ?_); rintro e w4 ⟨v4, rfl, hv4, hb4⟩; obtain ⟨A4, n4, c4, rfl, hw4⟩ := intV_open hv4 Hb.out; have hE4 : Ext W w4 := (hE3.alloc _).more hb4; have p0 := kc' q0 ((show Ext _ w4 from hb4).alloc (.cells #[.bool b, .slice A4 n4 c4] 24)); have p1 := kc' q1 ((show Ext _ w4 from hb4).alloc (.cells #[.bool b, .slice A4 n4 c4] 24)); have HV4 := Lib.hid (IntV.below (intV_of Hb.out hw4) (below_alloc w4 (.cells #[.bool b, .slice A4 n4 c4] 24))); have HV3' := Lib.hid (IntV.below (IntV.below HV3.out hb4) (below_alloc w4 (.cells #[.bool b, .slice A4 n4 c4] 24))))
      go_wp2_with fail
      ((with_reducible refine (sameV HV3'.out HV4.out).mono ?_); rintro e w5 ⟨rfl, hb5⟩)
      go_wp2_with fail
      go_ret
      exact ⟨rfl, hbW.trans ((hE4.alloc _).more hb5)⟩
    · have t1 : k > 40 := by omega
      have t2 : ¬ k ≤ 4096 := by omega
      go_enter Try.func5, Try.ntmps5
      go_wp2_with fail
      rw [← hW]
      clear hW
      ((with_reducible refine (l1_awake _).mono ?_); rintro e w1 ⟨rfl, hb1⟩; have hE1 : Ext W w1 := hb1; have a0 := kc' ca0 hE1; have a1 := kc' ca1 hE1)
      go_wp2_with fail
      ((with_reducible refine (l1_cp _ na xs _ (intR_ext Hx.out (hbW.trans hE1)) (by have := Hx.out.len; omega)).mono ?_); rintro e w2 ⟨v2, rfl, hv2, hb2⟩; have hE2 : Ext W w2 := hE1.more hb2)
      go_wp2_with fail
      ((with_reducible refine (HP.out _ _ hv2).1.mono ?_); rintro e w3 ⟨v3, rfl, hv3, hb3⟩; obtain ⟨A3, n3, c3, rfl, hw3⟩ := intV_open hv3 Hb.out; have hE3 : Ext W w3 := hE2.more hb3; have e0 := kc' ca0 (hE3.alloc (.cells #[.bool b, .slice A3 n3 c3] 24)); have e1 := kc' ca1 (hE3.alloc (.cells #[.bool b, .slice A3 n3 c3] 24)); have HV3 := Lib.hid (IntV.below (intV_of Hb.out hw3) (below_alloc w3 (.cells #[.bool b, .slice A3 n3 c3] 24))); obtain ⟨⟨q0, q1⟩, -⟩ := new_box w3 (.bool b) (.slice A3 n3 c3) 24)
      go_wp2_with fail
      ((with_reducible refine (HP.out _ _ (intR_ext Hx.out (hbW.trans (hE3.alloc _)))).2.mono ?_); rintro e w4 ⟨v4, rfl, hv4, hb4⟩; obtain ⟨A4, n4, c4, rfl, hw4⟩ := intV_open hv4 Hb.out; have hE4 : Ext W w4 := (hE3.alloc _).more hb4; have p0 := kc' q0 ((show Ext _ w4 from hb4).alloc (.cells #[.bool b, .slice A4 n4 c4] 24)); have p1 := kc' q1 ((show Ext _ w4 from hb4).alloc (.cells #[.bool b, .slice A4 n4 c4] 24)); have HV4 := Lib.hid (IntV.below (intV_of Hb.out hw4) (below_alloc w4 (.cells #[.bool b, .slice A4 n4 c4] 24))); have HV3' := Lib.hid (IntV.below (IntV.below HV3.out hb4) (below_alloc w4 (.cells #[.bool b, .slice A4 n4 c4] 24))))
      go_wp2_with fail
      ((with_reducible refine (sameV HV3'.out HV4.out).mono ?_); rintro e w5 ⟨rfl, hb5⟩)
      go_wp2_with fail
      go_ret
      exact ⟨rfl, hbW.trans ((hE4.alloc _).more hb5)⟩
  · by_cases hn : n ≤ 4
    · have t0 : ¬ (n : Int) > 4 := by omega
      have t1 : k > 40 := by omega
      have t2 : k ≤ 4096 := by omega
      clear hx hxl hwd hq
      go_enter Try.func5, Try.ntmps5
      go_wp2_with fail
      rw [← hW]
      clear hW
      ((with_reducible refine (l1_awake _).mono ?_); rintro e w1 ⟨rfl, hb1⟩; have hE1 : Ext W w1 := hb1; have a0 := kc' ca0 hE1; have a1 := kc' ca1 hE1)
      go_wp2_with fail
      ((with_reducible refine (l1_awake _).mono ?_); rintro e w2 ⟨rfl, hb2⟩)
      go_wp2_with fail
      go_ret
      exact ⟨rfl, hbW.trans (hE1.more hb2)⟩
    · have t0 : (n : Int) > 4 := by omega
      clear hx hxl hwd hq
      go_enter Try.func5, Try.ntmps5
      go_wp2_with fail
      rw [← hW]
      clear hW
      ((with_reducible refine (l1_awake _).mono ?_); rintro e w1 ⟨rfl, hb1⟩; have hE1 : Ext W w1 := hb1; have a0 := kc' ca0 hE1; have a1 := kc' ca1 hE1)
      go_wp2_with fail
      ((with_reducible refine (l1_awake _).mono ?_); rintro e w2 ⟨rfl, hb2⟩)
      go_wp2_with fail
      go_ret
      exact ⟨rfl, hbW.trans (hE1.more hb2)⟩

set_option maxRecDepth 100000 in
theorem integerPow_lifted (os : Os) (started : os.Started) (H : Type) (enc : TypeId × Value → H) :
    ReturnsInHanded {} Try.checked os 5 .any (Rows.integerPowSpec.pre6 enc Try.prog Try.f5 Rows.integerPowRow.domain false) (Rows.integerPowSpec.post enc Try.prog Try.f5 false true false false) := by
  refine returnsInHanded_of_change (C := Try.checked) Try.own started (by kernel_rfl) Try.func5
    (ChangeSpec.witness6 (enc := enc) (C := Try.checked) false ⟨#[], #[.agg #[.bool false, .slice none 0 0], .int .i64 0], []⟩ 8 (by kernel_rfl) (by kernel_rfl) (by kernel_rfl) (by kernel_rfl)) ?_
  intro W base args ds gs before hval0 hW _ _
  have hval : ∀ (j : Nat) t v, Try.f5.params[j]? = some t → args[j]? = some v → Value.okWide Try.prog W .any base t v := hval0
  have hW' := hW
  obtain ⟨p, q, hA0, hV, rfl, hfz, hnd⟩ := hW
  have hA : DataW.TrodAll enc Try.prog W 0 (fun _ => true) true Try.f5.params.toList args.toList ds p := hA0
  rw [Try.params5] at hA hval
  obtain ⟨v0, v1, d0, d1, p0, p1, rfl, rfl, rfl, h0, h1⟩ := trodAll_two hA
  obtain ⟨na, xs, ha⟩ := open_intR (hval 0 24 v0 rfl rfl) h0
  obtain ⟨k, rfl, rfl, rfl, wk⟩ := open_int Try.underlying3 (hval 1 3 v1 rfl rfl) h1
  refine (l1_IntegerPow v0 na xs k W ha (bounds_i64 wk)).mono fun e W' ⟨he, hB⟩ => ?_
  subst he
  exact ⟨_, rfl, law_post hW' rfl (by kernel_rfl) (by kernel_rfl) (fun ds hl => by
    match ds, hl with
    | [_, _], _ => rfl) hB⟩

/-- **the given statement** -/
theorem integerPow_holds : Rows.IntegerPowSaid :=
  OpenClaim.holds_of_wide 5 Try.f5 rfl rfl rfl rfl rfl rfl rfl ⟨rfl, rfl, rfl, rfl, rfl⟩ rfl rfl rfl rfl rfl (by kernel_rfl) Try.func5 (by kernel_rfl)
    (of_decide_eq_true (by kernel_rfl)) (by unfold Func.isWrapper; rw [if_neg (of_decide_eq_false (by kernel_rfl))]; exact ⟨rfl, rfl⟩)
    (fun os started H enc _ => integerPow_lifted os started H enc)

end Go.Proofs.Ytdmijpechdaniaa
