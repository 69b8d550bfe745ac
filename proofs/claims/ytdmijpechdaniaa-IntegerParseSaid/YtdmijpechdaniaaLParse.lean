/- IntegerParse answers true. -/
import Derived.Test.YtdmijpechdaniaaIPrs
import Derived.Test.YtdmijpechdaniaaRPrs
import Derived.Test.YtdmijpechdaniaaAmL1
import Derived.ChangeMaps5
namespace Go.Proofs.Ytdmijpechdaniaa
open Go.ChangeShapes Go.WideShapes Go.ChangeAt Go.RowKit Go.Joins
open Go.ChangeMaps (open_string)

theorem okl_IntegerParse (s : ByteArray) : CallOK Try.prog 7 [dS s] (.one (dB true)) := by
  obtain ⟨l, rfl⟩ : ∃ l, Bs l = s := ⟨_, Bs_of s⟩
  show CallOK Try.prog _ [dL l] _
  have hsz := Bs_size l
  by_cases h : l.length > 200
  · refine callOK_of TT_ok mixT Try.func7 rfl rfl (Nat.le_of_ble_eq_true rfl) ?_
    repeat (first | refine r_op rfl rfl rfl rfl ?_ | refine r_skip rfl rfl rfl ?_ | refine .done ?_ | refine r_seq (T := TT) ?_ | refine r_region (T := TT) rfl ?_ | refine r_block (T := TT) ?_ | refine r_then (T := TT) rfl ?_ | refine r_else (T := TT) rfl ?_)
    refine r_call (ok_awake) rfl rfl rfl rfl rfl rfl rfl ?_
    iterate 5 (first | refine r_op rfl rfl rfl rfl ?_ | refine r_skip rfl rfl rfl ?_)
    refine r_eq (v' := .bool true) rfl rfl rfl rfl ?_ ?_
    · exact congrArg Value.bool (decide_eq_true (by omega))
    repeat (first | refine r_op rfl rfl rfl rfl ?_ | refine r_skip rfl rfl rfl ?_ | refine .done ?_ | refine r_seq (T := TT) ?_ | refine r_region (T := TT) rfl ?_ | refine r_block (T := TT) ?_ | refine r_then (T := TT) rfl ?_ | refine r_else (T := TT) rfl ?_)
    refine r_call (ok_awake) rfl rfl rfl rfl rfl rfl rfl ?_
    repeat (first | refine r_op rfl rfl rfl rfl ?_ | refine r_skip rfl rfl rfl ?_ | refine .done ?_ | refine r_seq (T := TT) ?_ | refine r_region (T := TT) rfl ?_ | refine r_block (T := TT) ?_ | refine r_then (T := TT) rfl ?_ | refine r_else (T := TT) rfl ?_)
    exact r_fin (T := TT) rfl rfl
  · refine callOK_of TT_ok mixT Try.func7 rfl rfl (Nat.le_of_ble_eq_true rfl) ?_
    repeat (first | refine r_op rfl rfl rfl rfl ?_ | refine r_skip rfl rfl rfl ?_ | refine .done ?_ | refine r_seq (T := TT) ?_ | refine r_region (T := TT) rfl ?_ | refine r_block (T := TT) ?_ | refine r_then (T := TT) rfl ?_ | refine r_else (T := TT) rfl ?_)
    refine r_call (ok_awake) rfl rfl rfl rfl rfl rfl rfl ?_
    iterate 5 (first | refine r_op rfl rfl rfl rfl ?_ | refine r_skip rfl rfl rfl ?_)
    refine r_eq (v' := .bool false) rfl rfl rfl rfl ?_ ?_
    · exact congrArg Value.bool (decide_eq_false (by omega))
    repeat (first | refine r_op rfl rfl rfl rfl ?_ | refine r_skip rfl rfl rfl ?_ | refine .done ?_ | refine r_seq (T := TT) ?_ | refine r_region (T := TT) rfl ?_ | refine r_block (T := TT) ?_ | refine r_then (T := TT) rfl ?_ | refine r_else (T := TT) rfl ?_)
    refine r_call (okz_i_Parse l) rfl rfl rfl rfl rfl rfl rfl ?_
    repeat (first | refine r_op rfl rfl rfl rfl ?_ | refine r_skip rfl rfl rfl ?_ | refine .done ?_ | refine r_seq (T := TT) ?_ | refine r_region (T := TT) rfl ?_ | refine r_block (T := TT) ?_ | refine r_then (T := TT) rfl ?_ | refine r_else (T := TT) rfl ?_)
    refine r_call (okz_r1_Parse l) rfl rfl rfl rfl rfl rfl rfl ?_
    repeat (first | refine r_op rfl rfl rfl rfl ?_ | refine r_skip rfl rfl rfl ?_ | refine .done ?_ | refine r_seq (T := TT) ?_ | refine r_region (T := TT) rfl ?_ | refine r_block (T := TT) ?_ | refine r_then (T := TT) rfl ?_ | refine r_else (T := TT) rfl ?_)
    refine r_call (okz_lsame rfl) rfl rfl rfl rfl rfl rfl rfl ?_
    iterate 3 (first | refine r_op rfl rfl rfl rfl ?_ | refine r_skip rfl rfl rfl ?_)
    refine r_eq (v' := .bool true) rfl rfl rfl rfl ?_ ?_
    · exact congrArg Value.bool (beq_self_eq_true _)
    repeat (first | refine r_op rfl rfl rfl rfl ?_ | refine r_skip rfl rfl rfl ?_ | refine .done ?_ | refine r_seq (T := TT) ?_ | refine r_region (T := TT) rfl ?_ | refine r_block (T := TT) ?_ | refine r_then (T := TT) rfl ?_ | refine r_else (T := TT) rfl ?_)
    exact r_fin (T := TT) rfl rfl

set_option maxRecDepth 100000 in
theorem integerParse_lifted (os : Os) (started : os.Started) (H : Type) (enc : TypeId × Value → H) :
    ReturnsInHanded {} Try.checked os 7 .any (Rows.integerParseSpec.pre6 enc Try.prog Try.f7 Rows.integerParseRow.domain false) (Rows.integerParseSpec.post enc Try.prog Try.f7 false true false false) := by
  refine returnsInHanded_of_change (C := Try.checked) Try.own started (by kernel_rfl) Try.func7
    (ChangeSpec.witness6 (enc := enc) (C := Try.checked) false ⟨#[], #[.string ByteArray.empty], []⟩ 8 (by kernel_rfl) (by kernel_rfl) (by kernel_rfl) (by kernel_rfl)) ?_
  intro W base args ds gs before hval0 hW _ _
  have hval : ∀ (j : Nat) t v, Try.f7.params[j]? = some t → args[j]? = some v → Value.okWide Try.prog W .any base t v := hval0
  have hW' := hW
  obtain ⟨p, q, hA0, hV, rfl, hfz, hnd⟩ := hW
  have hA : DataW.TrodAll enc Try.prog W 0 (fun _ => true) true Try.f7.params.toList args.toList ds p := hA0
  rw [Try.params7] at hA hval
  obtain ⟨v0, d0, rfl, rfl, h0⟩ := trodAll_one hA
  obtain ⟨x0, rfl, rfl, rfl, b0⟩ := open_string Try.underlying9 (hval 0 9 v0 rfl rfl) h0
  refine (law_calls (okl_IntegerParse x0) (vs := [_]) ⟨AV.M.val rfl, trivial⟩).mono fun e W' ⟨he, hB⟩ => ?_
  subst he
  exact ⟨_, rfl, law_post hW' rfl (by kernel_rfl) (by kernel_rfl) (fun ds hl => by
    match ds, hl with
    | [_], _ => rfl) hB⟩

/-- **the given statement** -/
theorem integerParse_holds : Rows.IntegerParseSaid :=
  OpenClaim.holds_of_wide 7 Try.f7 rfl rfl rfl rfl rfl rfl rfl ⟨rfl, rfl, rfl, rfl, rfl⟩ rfl rfl rfl rfl rfl (by kernel_rfl) Try.func7 (by kernel_rfl)
    (of_decide_eq_true (by kernel_rfl)) (by unfold Func.isWrapper; rw [if_neg (of_decide_eq_false (by kernel_rfl))]; exact ⟨rfl, rfl⟩)
    (fun os started H enc _ => integerParse_lifted os started H enc)

end Go.Proofs.Ytdmijpechdaniaa
