/- IntegerNorm answers true. -/
import Derived.Test.YtdmijpechdaniaaLMul
import Derived.Test.YtdmijpechdaniaaAk
namespace Go.Proofs.Ytdmijpechdaniaa
open Go.ChangeShapes Go.WideShapes Go.ChangeAt Go.RowKit Go.Joins
attribute [local go_sem ↓] Go.wp_at_zero Go.wp_at_succ

theorem small_one {w : World} {b n c : Nat} {na : Bool} {A : Option Addr} {s : Bool} (hs : decide (n ≤ 20) = s)
    (h0 : w.cell? ⟨b, 0, none⟩ = some (.bool na)) (h1 : w.cell? ⟨b, 1, none⟩ = some (.slice A n c)) :
    Calls Try.prog 12 #[.slice (some ⟨b, 0, none⟩) 1 1] w (RetB s w) := by
  have := l1_small b 0 1 1 (fun _ => na) (fun _ => A) (fun _ => n) (fun _ => c) w (Nat.le_refl _) (by decide) (by
    intro i hi
    obtain rfl : i = 0 := by omega
    exact ⟨h0, h1⟩)
  have e : decide (∀ i, i < 1 → n ≤ 20) = decide (n ≤ 20) := by
    apply decide_eq_decide.2
    exact ⟨fun h => h 0 (by decide), fun h _ _ => h⟩
  rw [e, hs] at this
  exact this
theorem r1_SignS (va : Value) (na : Bool) (xs : List Nat) (w : World) (ha : IntR w va na xs) : Calls Try.prog 24 #[va] w (RetN (sgn na xs) w) := by
  rw [sgn_sign]; exact r1_Sign va na xs w ha

set_option maxRecDepth 100000 in
set_option maxHeartbeats 4000000 in
theorem l1_IntegerNorm (va : Value) (na : Bool) (xs : List Nat) (k : Int) (w : World) (ha : IntR w va na xs) (hk : -9223372036854775808 ≤ k ∧ k ≤ 9223372036854775807) :
    Calls Try.prog 9 #[va, .int .i64 k] w (RetB true w) := by
  obtain ⟨A, n, c, rfl, hx⟩ := ha
  obtain ⟨W, hW⟩ : ∃ W, W = w.alloc (.cells #[.bool na, .slice A n c] 24) := ⟨_, rfl⟩
  obtain ⟨⟨ca0, ca1⟩, ⟨fa0, fa1⟩, hbW⟩ := box1 w _ _ _ W hW
  have hxl := hx.len
  have hk1 := hk.1
  have hk2 : k < 9223372036854775808 := by omega
  have Hxl := Lib.hid hxl
  have Hx := Lib.hid hx
  have HK1 := Lib.hid hk1
  have HK2 := Lib.hid hk2
  obtain ⟨s, hs⟩ : ∃ s, decide (n ≤ 20) = s := ⟨_, rfl⟩
  have Hs := Lib.hid hs
  clear hx hxl hs hk hk1 hk2
  go_enter Try.func9, Try.ntmps9
  go_wp2_with fail
  rw [← hW]
  clear hW
  ((with_reducible refine (l1_awake _).mono ?_); rintro e w1 ⟨rfl, hb1⟩; have hE1 : Ext w w1 := hbW.more hb1; have a0 := kc ca0 hb1; have a1 := kc ca1 hb1)
  go_wp2_with fail
  obtain ⟨⟨s0, s1⟩, -⟩ := new_box w1 (.bool na) (.slice A n c) 24
  have hs' := small_one Hs.out s0 s1
  ((with_reducible refine hs'.mono ?_); rintro e w2 ⟨rfl, hb2⟩; have hE2 : Ext w w2 := (hE1.alloc _).more hb2; have k2 := Below.trans (below_alloc w1 (.cells #[.bool na, .slice A n c] 24)) (hb2.mono (below_alloc w1 _).size); have d0 := kc a0 k2; have d1 := kc a1 k2)
  clear s0 s1 hs' k2 hb2 a0 a1 ca0 ca1 hb1
  cases s
  · go_wp2_with fail
    ((with_reducible refine (l1_awake _).mono ?_); rintro e w3 ⟨rfl, hb3⟩; have hE3 : Ext w w3 := hE2.more hb3)
    go_wp2_with fail
    go_ret
    exact ⟨rfl, hE3⟩
  · have hs := of_decide_eq_true Hs.out
    have l1 : xs.length ≤ 2147483648 := by rw [Hxl.out]; omega
    have hf := fun W' h => iInt64 (.agg #[.bool na, .slice A n c]) na xs W' h l1
    have hI := fun v W' h => iInt64 v na xs W' h l1
    have hR := fun v W' h => r1Int64 v na xs W' h l1
    obtain ⟨r, hr⟩ : ∃ r, r = (fit64 (toZ na xs)).1 := ⟨_, rfl⟩
    obtain ⟨f, hf2⟩ : ∃ f, f = (fit64 (toZ na xs)).2 := ⟨_, rfl⟩
    rw [← hr, ← hf2] at hI hR
    have HI := Lib.hid hI
    have HR := Lib.hid hR
    clear hf hI hR hr hf2 hs
    go_wp2_with fail
    ((with_reducible refine (l1_cp _ na xs _ (intR_ext Hx.out hE2) (by omega)).mono ?_); rintro e w3 ⟨v3, rfl, hv3, hb3⟩)
    go_wp2_with fail
    ((with_reducible refine (HI.out _ _ hv3).mono ?_); rintro e w4 ⟨rfl, hb4⟩; have hE4 : Ext w w4 := (hE2.more hb3).more hb4; have k4 := Ext.more (show Ext w2 w3 from hb3) hb4; have e0 := kc' d0 k4; have e1 := kc' d1 k4)
    go_wp2_with fail
    ((with_reducible refine (HR.out _ _ (intR_ext Hx.out hE4)).mono ?_); rintro e w5 ⟨rfl, hb5⟩; have hE5 : Ext w w5 := hE4.more hb5; have f0 := kc e0 hb5; have f1 := kc e1 hb5)
    clear d0 d1 k4 e0 e1
    go_wp2_with fail
    have hH := keep2 ⟨f0, f1, hE5⟩ (Below.drew (Below.refl _ _))
    clear f0 f1
    have hk1 := HK1.out
    have hk2 := HK2.out
    go_region_held3 (fun w' => w'.cell? ⟨w.heap.size, 0, none⟩ = some (.bool na) ∧ w'.cell? ⟨w.heap.size, 1, none⟩ = some (.slice A n c) ∧ Ext w w')
      (with_reducible first | exact hH | assumption | exact keep2 (by assumption) (by assumption))
      (first
        | ((go_at_call 15; (with_reducible refine (l1_cp _ na xs _ (intR_ext Hx.out (ext2e (by assumption))) (by omega)).mono ?_); rintro e wa ⟨va', rfl, hva, hba⟩))
        | ((go_at_call 35; (with_reducible refine (i_Norm _ na xs _ hva l1).mono ?_); rintro e wc ⟨vc, rfl, hvc, hbc⟩; clear hva))
        | ((go_at_call 20; (with_reducible refine (r1_Norm _ na xs _ (intR_ext Hx.out (ext2e (by assumption)))).mono ?_); rintro e wd ⟨vd, rfl, hvd, hbd⟩; have hvc' := IntV.below hvc hbd; clear hvc))
        | ((go_at_call 13; (with_reducible refine (sameV hvc' hvd).mono ?_); rintro e we ⟨rfl, hbe⟩; clear hvc' hvd; have hE8 := Ext.more (ext2e (by with_reducible assumption)) hbe))
        | ((go_at_call 36; (with_reducible refine (i_Valid _ na xs _ hva).mono ?_); rintro e wc ⟨rfl, hbc⟩; clear hva))
        | ((go_at_call 26; (with_reducible refine (r1_Valid _ na xs _ (intR_ext Hx.out (ext2e (by assumption)))).mono ?_); rintro e wd ⟨rfl, hbd⟩))
        | ((go_at_call 37; (with_reducible refine (i_Sign _ na xs _ hva).mono ?_); rintro e wc ⟨rfl, hbc⟩; clear hva))
        | ((go_at_call 24; (with_reducible refine (r1_SignS _ na xs _ (intR_ext Hx.out (ext2e (by assumption)))).mono ?_); rintro e wd ⟨rfl, hbd⟩))
        | ((go_at_call 38; (with_reducible refine (i_Bits _ na xs _ hva l1).mono ?_); rintro e wc ⟨rfl, hbc⟩; clear hva))
        | ((go_at_call 39; (with_reducible refine (r1_Bits _ na xs _ (intR_ext Hx.out (ext2e (by assumption))) l1).mono ?_); rintro e wd ⟨rfl, hbd⟩))
        | ((go_at_call 40; (with_reducible refine (i_FromInt k hk1 hk2 _).mono ?_); rintro e wc ⟨vc, rfl, hvc, hbc⟩))
        | ((go_at_call 25; (with_reducible refine (r1_FromInt k hk1 hk2 _).mono ?_); rintro e wd ⟨vd, rfl, hvd, hbd⟩; have hvc' := IntV.below hvc hbd; clear hvc)))
    go_wp2_with fail
    go_ret
    exact ⟨rfl, hE8⟩

set_option maxRecDepth 100000 in
theorem integerNorm_lifted (os : Os) (started : os.Started) (H : Type) (enc : TypeId × Value → H) :
    ReturnsInHanded {} Try.checked os 9 .any (Rows.integerNormSpec.pre6 enc Try.prog Try.f9 Rows.integerNormRow.domain false) (Rows.integerNormSpec.post enc Try.prog Try.f9 false true false false) := by
  refine returnsInHanded_of_change (C := Try.checked) Try.own started (by kernel_rfl) Try.func9
    (ChangeSpec.witness6 (enc := enc) (C := Try.checked) false ⟨#[], #[.agg #[.bool false, .slice none 0 0], .int .i64 0], []⟩ 8 (by kernel_rfl) (by kernel_rfl) (by kernel_rfl) (by kernel_rfl)) ?_
  intro W base args ds gs before hval0 hW _ _
  have hval : ∀ (j : Nat) t v, Try.f9.params[j]? = some t → args[j]? = some v → Value.okWide Try.prog W .any base t v := hval0
  have hW' := hW
  obtain ⟨p, q, hA0, hV, rfl, hfz, hnd⟩ := hW
  have hA : DataW.TrodAll enc Try.prog W 0 (fun _ => true) true Try.f9.params.toList args.toList ds p := hA0
  rw [Try.params9] at hA hval
  obtain ⟨v0, v1, d0, d1, p0, p1, rfl, rfl, rfl, h0, h1⟩ := trodAll_two hA
  obtain ⟨na, xs, ha⟩ := open_intR (hval 0 24 v0 rfl rfl) h0
  obtain ⟨k, rfl, rfl, rfl, wk⟩ := open_int Try.underlying2 (hval 1 2 v1 rfl rfl) h1
  refine (l1_IntegerNorm v0 na xs k W ha (bounds_i64 wk)).mono fun e W' ⟨he, hB⟩ => ?_
  subst he
  exact ⟨_, rfl, law_post hW' rfl (by kernel_rfl) (by kernel_rfl) (fun ds hl => by
    match ds, hl with
    | [_, _], _ => rfl) hB⟩

/-- **the given statement** -/
theorem integerNorm_holds : Rows.IntegerNormSaid :=
  OpenClaim.holds_of_wide 9 Try.f9 rfl rfl rfl rfl rfl rfl rfl ⟨rfl, rfl, rfl, rfl, rfl⟩ rfl rfl rfl rfl rfl (by kernel_rfl) Try.func9 (by kernel_rfl)
    (of_decide_eq_true (by kernel_rfl)) (by unfold Func.isWrapper; rw [if_neg (of_decide_eq_false (by kernel_rfl))]; exact ⟨rfl, rfl⟩)
    (fun os started H enc _ => integerNorm_lifted os started H enc)


end Go.Proofs.Ytdmijpechdaniaa
