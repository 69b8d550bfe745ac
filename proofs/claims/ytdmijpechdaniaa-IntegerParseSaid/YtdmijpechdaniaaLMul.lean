/- IntegerMul answers true. -/
import Derived.Test.YtdmijpechdaniaaLaw
import Derived.Test.YtdmijpechdaniaaAj
namespace Go.Proofs.Ytdmijpechdaniaa
open Go.ChangeShapes Go.WideShapes Go.ChangeAt Go.RowKit Go.Joins
attribute [local go_sem ↓] Go.wp_at_zero Go.wp_at_succ

theorem small_two {w : World} {b n m c d : Nat} {na nb : Bool} {A B : Option Addr} {s : Bool} (hs : decide (n ≤ 20 ∧ m ≤ 20) = s)
    (h0 : w.cell? ⟨b, 0, none⟩ = some (.bool na)) (h1 : w.cell? ⟨b, 1, none⟩ = some (.slice A n c)) (h2 : w.cell? ⟨b, 2, none⟩ = some (.bool nb)) (h3 : w.cell? ⟨b, 3, none⟩ = some (.slice B m d)) :
    Calls Try.prog 12 #[.slice (some ⟨b, 0, none⟩) 2 2] w (RetB s w) := by
  have := l1_small b 0 2 2 (fun i => if i = 0 then na else nb) (fun i => if i = 0 then A else B) (fun i => if i = 0 then n else m) (fun i => if i = 0 then c else d) w (Nat.le_refl _) (by decide) (by
    intro i hi
    match i, hi with
    | 0, _ => exact ⟨h0, h1⟩
    | 1, _ => exact ⟨h2, h3⟩)
  have e : decide (∀ i, i < 2 → (if i = 0 then n else m) ≤ 20) = decide (n ≤ 20 ∧ m ≤ 20) := by
    apply decide_eq_decide.2
    constructor
    · intro h; exact ⟨h 0 (by decide), h 1 (by decide)⟩
    · intro h i hi
      match i, hi with
      | 0, _ => exact h.1
      | 1, _ => exact h.2
  rw [e, hs] at this
  exact this
theorem sameV {v1 v2 : Value} {z : Int} {w : World} (h1 : IntV w v1 z) (h2 : IntV w v2 z) : Calls Try.prog 13 #[v1, v2] w (RetB true w) := by
  have := l1_same v1 v2 _ _ _ _ w h1 h2
  rw [sameB_int, decide_eq_true rfl] at this
  exact this
theorem four_cells (w : World) (a b c d : Value) (t : TypeId) :
    (w.alloc (.cells #[a, b, c, d] t)).cell? ⟨w.heap.size, 0, none⟩ = some a ∧ (w.alloc (.cells #[a, b, c, d] t)).cell? ⟨w.heap.size, 1, none⟩ = some b ∧ (w.alloc (.cells #[a, b, c, d] t)).cell? ⟨w.heap.size, 2, none⟩ = some c ∧ (w.alloc (.cells #[a, b, c, d] t)).cell? ⟨w.heap.size, 3, none⟩ = some d := by simp [go_sem]

set_option maxHeartbeats 1600000 in
theorem l1_IntegerMul (va vb : Value) (na nb : Bool) (xs ys : List Nat) (w : World) (ha : IntR w va na xs) (hb : IntR w vb nb ys) :
    Calls Try.prog 3 #[va, vb] w (RetB true w) := by
  obtain ⟨A, n, c, rfl, hx⟩ := ha
  obtain ⟨B, m, d, rfl, hy⟩ := hb
  obtain ⟨W, hW⟩ : ∃ W, W = (w.alloc (.cells #[.bool na, .slice A n c] 24)).alloc (.cells #[.bool nb, .slice B m d] 24) := ⟨_, rfl⟩
  obtain ⟨⟨ca0, ca1, cb0, cb1⟩, hbW⟩ := two_args w _ _ _ _ _ W hW
  have Hx := Lib.hid hx
  have Hy := Lib.hid hy
  have hxl := hx.len
  have hyl := hy.len
  have Hxl := Lib.hid hxl
  have Hyl := Lib.hid hyl
  clear hx hy hxl hyl
  obtain ⟨s, hs⟩ : ∃ s, decide (n ≤ 20 ∧ m ≤ 20) = s := ⟨_, rfl⟩
  have Hs := Lib.hid hs
  clear hs
  go_enter Try.func3, Try.ntmps3
  go_wp2_with fail
  rw [← hW]
  clear hW
  ((with_reducible refine (l1_awake _).mono ?_); rintro e w1 ⟨rfl, hb1⟩; have hE1 : Ext w w1 := hbW.more hb1; have a0 := kc ca0 hb1; have a1 := kc ca1 hb1; have b0 := kc cb0 hb1; have b1 := kc cb1 hb1)
  go_wp2_with fail
  obtain ⟨s0, s1, s2, s3⟩ := four_cells w1 (.bool na) (.slice A n c) (.bool nb) (.slice B m d) 24
  have hs' := small_two Hs.out s0 s1 s2 s3
  ((with_reducible refine hs'.mono ?_); rintro e w2 ⟨rfl, hb2⟩; have hE2 : Ext w w2 := (hE1.alloc _).more hb2; have k2 := Below.trans (below_alloc w1 (.cells #[.bool na, .slice A n c, .bool nb, .slice B m d] 24)) (hb2.mono (below_alloc w1 _).size); have d0 := kc a0 k2; have d1 := kc a1 k2; have e0 := kc b0 k2; have e1 := kc b1 k2)
  clear s0 s1 s2 s3 hs' k2 hb2 a0 a1 b0 b1 ca0 ca1 cb0 cb1 hb1
  cases s
  · go_wp2_with fail
    ((with_reducible refine (l1_awake _).mono ?_); rintro e w3 ⟨rfl, hb3⟩; have hE3 : Ext w w3 := hE2.more hb3)
    go_wp2_with fail
    go_ret
    exact ⟨rfl, hE3⟩
  · have hs := of_decide_eq_true Hs.out
    have l1 : xs.length ≤ 2147483648 := by rw [Hxl.out]; omega
    have l2 : ys.length ≤ 2147483648 := by rw [Hyl.out]; omega
    have hH := keep4 ⟨d0, d1, e0, e1, hE2⟩ (Below.drew (Below.refl _ _))
    clear hs d0 d1 e0 e1
    go_wp2_with fail
    go_region_held3 (fun w' => w'.cell? ⟨w.heap.size, 0, none⟩ = some (.bool na) ∧ w'.cell? ⟨w.heap.size, 1, none⟩ = some (.slice A n c) ∧ w'.cell? ⟨w.heap.size + 1, 0, none⟩ = some (.bool nb) ∧ w'.cell? ⟨w.heap.size + 1, 1, none⟩ = some (.slice B m d) ∧ Ext w w')
      (with_reducible first | exact hH | assumption | exact keep4 (by assumption) (by assumption))
      (first
        | ((go_at_call 15; (with_reducible refine (l1_cp _ na xs _ (intR_ext Hx.out (ext4e (by assumption))) (by omega)).mono ?_); rintro e w4 ⟨v4, rfl, hv4, hb4⟩))
        | ((go_at_call 15; (with_reducible refine (l1_cp _ nb ys _ (intR_ext Hy.out (ext4e (by assumption))) (by omega)).mono ?_); rintro e w5 ⟨v5, rfl, hv5, hb5⟩; have hv4' := IntR.below hv4 hb5))
        | ((go_at_call 14; (with_reducible refine (i_Mul _ _ na nb xs ys _ hv4' hv5 l1 l2).mono ?_); rintro e w6 ⟨v6, rfl, hv6, hb6⟩))
        | ((go_at_call 16; (with_reducible refine (r1_Mul _ _ na nb xs ys _ (intR_ext Hx.out (ext4e (by assumption))) (intR_ext Hy.out (ext4e (by assumption))) l1 l2).mono ?_); rintro e w7 ⟨v7, rfl, hv7, hb7⟩; have hv6' := IntV.below hv6 hb7))
        | ((go_at_call 13; (with_reducible refine (sameV hv6' hv7).mono ?_); rintro e w8 ⟨rfl, hb8⟩; have hE8 := Ext.more (ext4e (by with_reducible assumption)) hb8)))
    go_wp2_with fail
    go_ret
    exact ⟨rfl, hE8⟩

set_option maxRecDepth 100000 in
theorem integerMul_lifted (os : Os) (started : os.Started) (H : Type) (enc : TypeId × Value → H) :
    ReturnsInHanded {} Try.checked os 3 .any (Rows.integerMulSpec.pre6 enc Try.prog Try.f3 Rows.integerMulRow.domain false) (Rows.integerMulSpec.post enc Try.prog Try.f3 false true false false) := by
  refine returnsInHanded_of_change (C := Try.checked) Try.own started (by kernel_rfl) Try.func3
    (ChangeSpec.witness6 (enc := enc) (C := Try.checked) false ⟨#[], #[.agg #[.bool false, .slice none 0 0], .agg #[.bool false, .slice none 0 0]], []⟩ 8 (by kernel_rfl) (by kernel_rfl) (by kernel_rfl) (by kernel_rfl)) ?_
  intro W base args ds gs before hval0 hW _ _
  have hval : ∀ (j : Nat) t v, Try.f3.params[j]? = some t → args[j]? = some v → Value.okWide Try.prog W .any base t v := hval0
  have hW' := hW
  obtain ⟨p, q, hA0, hV, rfl, hfz, hnd⟩ := hW
  have hA : DataW.TrodAll enc Try.prog W 0 (fun _ => true) true Try.f3.params.toList args.toList ds p := hA0
  rw [Try.params3] at hA hval
  obtain ⟨v0, v1, d0, d1, p0, p1, rfl, rfl, rfl, h0, h1⟩ := trodAll_two hA
  obtain ⟨na, xs, ha⟩ := open_intR (hval 0 24 v0 rfl rfl) h0
  obtain ⟨nb, ys, hb⟩ := open_intR (hval 1 24 v1 rfl rfl) h1
  refine (l1_IntegerMul v0 v1 na nb xs ys W ha hb).mono fun e W' ⟨he, hB⟩ => ?_
  subst he
  exact ⟨_, rfl, law_post hW' rfl (by kernel_rfl) (by kernel_rfl) (fun ds hl => by
    match ds, hl with
    | [_, _], _ => rfl) hB⟩

/-- **the given statement** -/
theorem integerMul_holds : Rows.IntegerMulSaid :=
  OpenClaim.holds_of_wide 3 Try.f3 rfl rfl rfl rfl rfl rfl rfl ⟨rfl, rfl, rfl, rfl, rfl⟩ rfl rfl rfl rfl rfl (by kernel_rfl) Try.func3 (by kernel_rfl)
    (of_decide_eq_true (by kernel_rfl)) (by unfold Func.isWrapper; rw [if_neg (of_decide_eq_false (by kernel_rfl))]; exact ⟨rfl, rfl⟩)
    (fun os started H enc _ => integerMul_lifted os started H enc)

end Go.Proofs.Ytdmijpechdaniaa
