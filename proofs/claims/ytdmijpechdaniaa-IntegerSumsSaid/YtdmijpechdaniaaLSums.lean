/- IntegerSums answers true. -/
import Derived.Test.YtdmijpechdaniaaLMul
import Derived.Test.YtdmijpechdaniaaRSub
namespace Go.Proofs.Ytdmijpechdaniaa
open Go.ChangeShapes Go.WideShapes Go.ChangeAt Go.RowKit Go.Joins
attribute [local go_sem ↓] Go.wp_at_zero Go.wp_at_succ

set_option maxHeartbeats 1600000 in
theorem l1_IntegerSums (va vb : Value) (na nb : Bool) (xs ys : List Nat) (w : World) (ha : IntR w va na xs) (hb : IntR w vb nb ys) :
    Calls Try.prog 10 #[va, vb] w (RetB true w) := by
  obtain ⟨A, n, c, rfl, hx⟩ := ha
  obtain ⟨B, m, d, rfl, hy⟩ := hb
  obtain ⟨W, hW⟩ : ∃ W, W = (w.alloc (.cells #[.bool na, .slice A n c] 24)).alloc (.cells #[.bool nb, .slice B m d] 24) := ⟨_, rfl⟩
  obtain ⟨⟨ca0, ca1, cb0, cb1⟩, hbW⟩ := two_args w _ _ _ _ _ W hW
  have Hx := Lib.hid hx
  have Hy := Lib.hid hy
  have hxl := hx.len
  have hyl := hy.len
  have Hxl := Lib.hid hxl
  have Hyl := Lib.hid hyl
  clear hx hy hxl hyl
  obtain ⟨s, hs⟩ : ∃ s, decide (n ≤ 20 ∧ m ≤ 20) = s := ⟨_, rfl⟩
  have Hs := Lib.hid hs
  clear hs
  go_enter Try.func10, Try.ntmps10
  go_wp2_with fail
  rw [← hW]
  clear hW
  ((with_reducible refine (l1_awake _).mono ?_); rintro e w1 ⟨rfl, hb1⟩; have hE1 : Ext w w1 := hbW.more hb1; have a0 := kc ca0 hb1; have a1 := kc ca1 hb1; have b0 := kc cb0 hb1; have b1 := kc cb1 hb1)
  go_wp2_with fail
  obtain ⟨s0, s1, s2, s3⟩ := four_cells w1 (.bool na) (.slice A n c) (.bool nb) (.slice B m d) 24
  have hs' := small_two Hs.out s0 s1 s2 s3
  ((with_reducible refine hs'.mono ?_); rintro e w2 ⟨rfl, hb2⟩; have hE2 : Ext w w2 := (hE1.alloc _).more hb2; have k2 := Below.trans (below_alloc w1 (.cells #[.bool na, .slice A n c, .bool nb, .slice B m d] 24)) (hb2.mono (below_alloc w1 _).size); have d0 := kc a0 k2; have d1 := kc a1 k2; have e0 := kc b0 k2; have e1 := kc b1 k2)
  clear s0 s1 s2 s3 hs' k2 hb2 a0 a1 b0 b1 ca0 ca1 cb0 cb1 hb1
  cases s
  · go_wp2_with fail
    ((with_reducible refine (l1_awake _).mono ?_); rintro e w3 ⟨rfl, hb3⟩; have hE3 : Ext w w3 := hE2.more hb3)
    go_wp2_with fail
    go_ret
    exact ⟨rfl, hE3⟩
  · have hs := of_decide_eq_true Hs.out
    have l1 : xs.length ≤ 2147483648 := by rw [Hxl.out]; omega
    have l2 : ys.length ≤ 2147483648 := by rw [Hyl.out]; omega
    have hH := keep4 ⟨d0, d1, e0, e1, hE2⟩ (Below.drew (Below.refl _ _))
    clear hs d0 d1 e0 e1
    go_wp2_with fail
    go_region_held3 (fun w' => w'.cell? ⟨w.heap.size, 0, none⟩ = some (.bool na) ∧ w'.cell? ⟨w.heap.size, 1, none⟩ = some (.slice A n c) ∧ w'.cell? ⟨w.heap.size + 1, 0, none⟩ = some (.bool nb) ∧ w'.cell? ⟨w.heap.size + 1, 1, none⟩ = some (.slice B m d) ∧ Ext w w')
      (with_reducible first | exact hH | assumption | exact keep4 (by assumption) (by assumption))
      (first
        | ((go_at_call 15; (with_reducible refine (l1_cp _ na xs _ (intR_ext Hx.out (ext4e (by assumption))) (by omega)).mono ?_); rintro e wa ⟨va', rfl, hva, hba⟩))
        | ((go_at_call 15; (with_reducible refine (l1_cp _ nb ys _ (intR_ext Hy.out (ext4e (by assumption))) (by omega)).mono ?_); rintro e wb ⟨vb', rfl, hvb, hbb⟩; have hva' := IntR.below hva hbb))
        | ((go_at_call 41; (with_reducible refine (i_Add _ _ na nb xs ys _ hva' hvb l1 l2).mono ?_); rintro e wc ⟨vc, rfl, hvc, hbc⟩; clear hva hva' hvb))
        | ((go_at_call 19; (with_reducible refine (r1_Add _ _ na nb xs ys _ (intR_ext Hx.out (ext4e (by assumption))) (intR_ext Hy.out (ext4e (by assumption))) l1 l2).mono ?_); rintro e wd ⟨vd, rfl, hvd, hbd⟩; have hvc' := IntV.below hvc hbd; clear hvc))
        | ((go_at_call 42; (with_reducible refine (i_Sub _ _ na nb xs ys _ hva' hvb l1 l2).mono ?_); rintro e wc ⟨vc, rfl, hvc, hbc⟩; clear hva hva' hvb))
        | ((go_at_call 43; (with_reducible refine (r1_Sub _ _ na nb xs ys _ (intR_ext Hx.out (ext4e (by assumption))) (intR_ext Hy.out (ext4e (by assumption))) l1 l2).mono ?_); rintro e wd ⟨vd, rfl, hvd, hbd⟩; have hvc' := IntV.below hvc hbd; clear hvc))
        | ((go_at_call 44; (with_reducible refine (i_Neg _ na xs _ hva l1).mono ?_); rintro e wc ⟨vc, rfl, hvc, hbc⟩; clear hva))
        | ((go_at_call 45; (with_reducible refine (r1_Neg _ na xs _ (intR_ext Hx.out (ext4e (by assumption)))).mono ?_); rintro e wd ⟨vd, rfl, hvd, hbd⟩; have hvc' := IntV.below hvc hbd; clear hvc))
        | ((go_at_call 13; (with_reducible refine (sameV hvc' hvd).mono ?_); rintro e we ⟨rfl, hbe⟩; clear hvc' hvd))
        | ((go_at_call 46; (with_reducible refine (i_Cmp _ _ na nb xs ys _ hva' hvb).mono ?_); rintro e wc ⟨rfl, hbc⟩; clear hva hva' hvb))
        | ((go_at_call 27; (with_reducible refine (r1_Cmp _ _ na nb xs ys _ (intR_ext Hx.out (ext4e (by assumption))) (intR_ext Hy.out (ext4e (by assumption))) l1 l2).mono ?_); rintro e wd ⟨rfl, hbd⟩; have hE8 := Ext.more (ext4e (by with_reducible assumption)) hbd)))
    go_wp2_with fail
    go_ret
    exact ⟨rfl, hE8⟩

set_option maxRecDepth 100000 in
theorem integerSums_lifted (os : Os) (started : os.Started) (H : Type) (enc : TypeId × Value → H) :
    ReturnsInHanded {} Try.checked os 10 .any (Rows.integerSumsSpec.pre6 enc Try.prog Try.f10 Rows.integerSumsRow.domain false) (Rows.integerSumsSpec.post enc Try.prog Try.f10 false true false false) := by
  refine returnsInHanded_of_change (C := Try.checked) Try.own started (by kernel_rfl) Try.func10
    (ChangeSpec.witness6 (enc := enc) (C := Try.checked) false ⟨#[], #[.agg #[.bool false, .slice none 0 0], .agg #[.bool false, .slice none 0 0]], []⟩ 8 (by kernel_rfl) (by kernel_rfl) (by kernel_rfl) (by kernel_rfl)) ?_
  intro W base args ds gs before hval0 hW _ _
  have hval : ∀ (j : Nat) t v, Try.f10.params[j]? = some t → args[j]? = some v → Value.okWide Try.prog W .any base t v := hval0
  have hW' := hW
  obtain ⟨p, q, hA0, hV, rfl, hfz, hnd⟩ := hW
  have hA : DataW.TrodAll enc Try.prog W 0 (fun _ => true) true Try.f10.params.toList args.toList ds p := hA0
  rw [Try.params10] at hA hval
  obtain ⟨v0, v1, d0, d1, p0, p1, rfl, rfl, rfl, h0, h1⟩ := trodAll_two hA
  obtain ⟨na, xs, ha⟩ := open_intR (hval 0 24 v0 rfl rfl) h0
  obtain ⟨nb, ys, hb⟩ := open_intR (hval 1 24 v1 rfl rfl) h1
  refine (l1_IntegerSums v0 v1 na nb xs ys W ha hb).mono fun e W' ⟨he, hB⟩ => ?_
  subst he
  exact ⟨_, rfl, law_post hW' rfl (by kernel_rfl) (by kernel_rfl) (fun ds hl => by
    match ds, hl with
    | [_, _], _ => rfl) hB⟩

/-- **the given statement** -/
theorem integerSums_holds : Rows.IntegerSumsSaid :=
  OpenClaim.holds_of_wide 10 Try.f10 rfl rfl rfl rfl rfl rfl rfl ⟨rfl, rfl, rfl, rfl, rfl⟩ rfl rfl rfl rfl rfl (by kernel_rfl) Try.func10 (by kernel_rfl)
    (of_decide_eq_true (by kernel_rfl)) (by unfold Func.isWrapper; rw [if_neg (of_decide_eq_false (by kernel_rfl))]; exact ⟨rfl, rfl⟩)
    (fun os started H enc _ => integerSums_lifted os started H enc)

end Go.Proofs.Ytdmijpechdaniaa
