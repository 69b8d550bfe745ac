/- The frame of every law: a call that answers true and only makes memory proves the given statement. -/
import Derived.Test.YtecjnnhkbmkemaaGreatDoorRows
import Derived.Test.YtecjnnhkbmkemaaGreatDoorAwake
import Derived.ProofKit
import Derived.OpenShut
import Derived.ChangeCalls
import Derived.SizedLaws
import Derived.Lib.SmallJoins
namespace Go.Proofs.YtecjnnhkbmkemaaGreatDoor
open Go.ChangeShapes Go.WideShapes Go.ChangeAt Go.RowKit Go.Joins

theorem Tryz.own : ownKnob Tryz.prog.godebug = none := by kernel_rfl
theorem Tryz.laidOut : laidOutB Tryz.prog = true := by kernel_rfl

section
variable {H : Type} {enc : TypeId × Value → H}
theorem below_all {W W' : World} (hb : Below W.heap.size W W') :
    ∀ (ts : List TypeId) (vs : List Value) (ds : List (DataW H)) (ps : List MemPlace), (∀ t ∈ ts, Tryz.prog.readableRec t = true ∧ t < Tryz.prog.types.size) → DataW.TrodAll enc Tryz.prog W 0 (fun _ => true) true ts vs ds ps → (∀ x ∈ ps, x.block < W.heap.size) →
      DataW.TrodAll enc Tryz.prog W' 0 (fun b => decide (b < W.heap.size)) true ts vs ds ps := by
  intro ts
  induction ts with
  | nil =>
    intro vs ds ps _ h _
    obtain ⟨rfl, rfl, rfl⟩ := trodAll_nil h
    exact trodAll_mk0
  | cons t ts ih =>
    intro vs ds ps hr h hlt
    obtain ⟨v, vs', d, ds', p, p', rfl, rfl, rfl, h0, h1⟩ := trodAll_cons h
    exact trodAll_cons_mk (Below.trod Tryz.laidOut (hr t (by simp)).1 (hr t (by simp)).2 h0 hb (fun x hx => hlt x (by simp [hx]))) (ih _ _ _ (fun t' ht => hr t' (by simp [ht])) h1 (fun x hx => hlt x (by simp [hx])))

/-- the memory behind the call is as the row asks -/
theorem law_post {s : ChangeSpec} {fn : Func} {W W' : World} {args : Array Value} {ds gs : List (DataW H)} {ps : List MemPlace}
    (hW : DataW.Whole enc Tryz.prog fn.params.toList s.vars false W args.toList ds gs ps) (hv : s.vars = []) (hr : fn.resultTypes = #[4])
    (hrd : (fn.params.toList.all fun t => Tryz.prog.readableRec t && decide (t < Tryz.prog.types.size)) = true)
    (hs : ∀ ds : List (DataW H), ds.length = fn.params.size → s.fn H (ds ++ []) = { results := [.lit (.bool true)], args := ds }) (hb : Below W.heap.size W W') :
    s.post enc Tryz.prog fn false true false false W args (.bool true) W' := by
  have hW' := hW
  obtain ⟨p, q, hA, hV, rfl, hfz, _⟩ := hW
  have hl : ds.length = fn.params.size := by rw [(trodAll_length hA).2, Array.length_toList]
  rw [hv] at hV
  obtain ⟨rfl, rfl⟩ := trodVars_none hV
  have e1 := hs ds hl
  refine ⟨ds, [], _, [], p, [], hW', ?_, ?_, ?_, hb.frame _, fun h => by cases h⟩
  · rw [e1, hr]
    exact trodAll_mk1 (shut_bool Tryz.underlying4 true)
  · rw [e1]
    exact below_all hb _ _ _ _ (fun t ht => by have := List.all_eq_true.1 hrd t ht; rw [Bool.and_eq_true] at this; exact ⟨this.1, of_decide_eq_true this.2⟩) hA (fun x hx => hW'.lt x (by simp [hx]))
  · rw [e1, hv]
    exact rfl
end

set_option maxRecDepth 100000 in
/-- an integer that came in -/
theorem open_intR {H : Type} {enc : TypeId × Value → H} {W : World} {r : Reach} {b0 : Nat} {v : Value} {d : DataW H} {p : List MemPlace} (hv : Value.okWide Tryz.prog W r b0 24 v) (h : DataW.Trod enc Tryz.prog W 0 (fun _ => true) true 24 v d p) :
    ∃ na xs, IntR W v na xs := by
  obtain ⟨c0, c1, y0, y1, m, rfl, rfl, rfl, hy0, hy1⟩ := open_agg2 Tryz.underlying24 (by kernel_rfl) (by kernel_rfl) hv h
  obtain ⟨na, e0, -⟩ := DataW.trod_bool Tryz.underlying4 hy0
  rw [List.cons.injEq] at e0
  obtain ⟨rfl, -⟩ := e0
  rcases open_ints Tryz.underlying22 Tryz.underlying61 (by kernel_rfl) hy1 with ⟨e1, -⟩ | ⟨a, len, cap, zs, e1, -, hl, hm, hz, -, hcell, hwf⟩
  · rw [List.cons.injEq] at e1
    obtain ⟨rfl, -⟩ := e1
    exact ⟨na, [], intR_mk (Wrd.nil W)⟩
  · rw [List.cons.injEq] at e1
    obtain ⟨rfl, -⟩ := e1
    rw [if_pos rfl] at hz
    have hb : ∀ i, i < zs.length → 0 ≤ zs.getD i 0 ∧ zs.getD i 0 ≤ 4294967295 := by
      intro i hi
      have := hwf (zs.getD i 0) (by rw [List.getD_eq_getElem?_getD, List.getElem?_eq_getElem hi]; simp)
      exact bounds_u32 this
    refine ⟨na, (zs.take len).map Int.toNat, some a, len, cap, rfl, ⟨by simp; omega, hl, by unfold maxLen at hm; omega, ?_, ?_, fun h => by cases h⟩⟩
    · intro x hx
      rw [List.mem_map] at hx
      obtain ⟨n, hn, rfl⟩ := hx
      have := bounds_u32 (hwf n (List.mem_of_mem_take hn))
      omega
    · by_cases h0 : len = 0
      · subst h0; exact .inl (by simp)
      · obtain ⟨b, off, rfl, hc⟩ := ints_at hcell (by omega)
        refine .inr ⟨b, off, rfl, fun i v hv => ?_⟩
        rw [List.getElem?_map, List.getElem?_map, List.getElem?_take] at hv
        split at hv
        · rename_i hi
          have hi' : i < zs.length := by omega
          rw [List.getElem?_eq_getElem hi'] at hv
          simp only [Option.map_some, Option.some.injEq] at hv
          subst hv
          have h1 := hc i hi'
          have h2 := hb i hi'
          rw [List.getD_eq_getElem?_getD, List.getElem?_eq_getElem hi', Option.getD_some] at h1 h2
          rw [h1]
          simp only [W32, Option.some.injEq, Value.int.injEq, true_and]
          omega
        · cases hv

end Go.Proofs.YtecjnnhkbmkemaaGreatDoor
