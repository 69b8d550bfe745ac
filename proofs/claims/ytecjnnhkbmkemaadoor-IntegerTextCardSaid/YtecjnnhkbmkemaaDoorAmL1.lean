/- The helpers of the integer laws over plain data, and the frame of a law. -/
import Derived.Test.YtecjnnhkbmkemaaDoorAmK
import Derived.Test.YtecjnnhkbmkemaaDoorAh
import Derived.Test.YtecjnnhkbmkemaaDoorLaw
namespace Go.Proofs.YtecjnnhkbmkemaaDoor
open Go.ChangeShapes Go.WideShapes Go.ChangeAt Go.RowKit Go.Joins

theorem ok_awake : CallOK Tryd.prog 4 [] (.one (dB true)) :=
  ⟨enter_of Tryd.func4 rfl rfl, fun _ w vs _ hv => by
    match vs, hv with
    | [], _ => exact (l1_awake w).mono fun e w' h => retA_B h⟩
theorem ok_cp {na : Bool} {xs : List Nat} (hw : Wd xs) (hl : xs.length ≤ 4294967296) : CallOK Tryd.prog 7 [dI na xs] (.one (dI na xs)) :=
  ok1 (enter_of Tryd.func7 rfl rfl) hw (fun v w h => l1_cp v na xs w h hl) (fun _ _ _ _ hS h => retA_R hS h)
theorem ok_lsame {na nb : Bool} {xs ys : List Nat} {b : Bool} (hw : Wd xs) (hw' : Wd ys) (hb : sameB na nb xs ys = b) : CallOK Tryd.prog 10 [dI na xs, dI nb ys] (.one (dB b)) :=
  ok2 (enter_of Tryd.func10 rfl rfl) hw hw' (fun v u w h k => by have := l1_same v u na nb xs ys w h k; rwa [hb] at this) (fun _ _ _ _ _ h => retA_B h)
theorem okz_lsame {a b : Int} (h : a = b) : CallOK Tryd.prog 10 [dZ a, dZ b] (.one (dB true)) := ok_lsame (Wd_digs _) (Wd_digs _) (by rw [sameB_int, decide_eq_true h])
theorem ok_is {na : Bool} {xs : List Nat} {k : Int} {b : Bool} (hw : Wd xs) (h1 : -9223372036854775808 ≤ k) (h2 : k < 9223372036854775808) (hb : sameB na (decide (k < 0)) xs (digs k.natAbs) = b) : CallOK Tryd.prog 16 [dI na xs, dN .i64 k] (.one (dB b)) :=
  ⟨enter_of Tryd.func16 rfl rfl, fun _ w vs _ hv => by
    match vs, hv with
    | [v, u], ⟨h3, h4, _⟩ =>
      obtain rfl := av_val h4
      have := l1_is v na xs k w (intR_of h3 hw) h1 h2
      rw [hb] at this
      exact this.mono fun e w' h => retA_B h⟩
theorem aW_slice {S : Nat → Prop} {w : World} {xs : List Nat} {v : Value} (h : AV.M S w (aW xs) v) : ∃ A c, v = .slice A xs.length c ∧ xs.length ≤ c := by
  unfold aW at h
  generalize (xs.map fun x : Nat => AV.val (W32 x)) = cs at h
  cases h with
  | emp h1 _ _ => exact ⟨_, _, rfl, h1⟩
  | sl f h1 => exact ⟨_, _, rfl, h1⟩
def aIs (l : List (Bool × List Nat)) : List AV := l.flatMap fun p => aI p.1 p.2
theorem aIs_get : ∀ (l : List (Bool × List Nat)) (i : Nat) (p : Bool × List Nat), l[i]? = some p → (aIs l)[i * 2]? = some (.val (.bool p.1)) ∧ (aIs l)[i * 2 + 1]? = some (aW p.2)
  | [], i, p, h => by simp at h
  | q :: l, 0, p, h => by simp at h; subst h; exact ⟨rfl, rfl⟩
  | q :: l, i + 1, p, h => by
    have := aIs_get l i p (by simpa using h)
    rw [show (i + 1) * 2 = i * 2 + 2 by omega]
    exact this
/-- a law over plain data, at the model's values -/
theorem noS (w : World) (hT : TabG w) : NoWord (fun _ => False) w := ⟨hT, fun _ h => h.elim⟩
theorem law_calls {f : FuncId} {ds : List DV} (h : CallOK Tryd.prog f ds (.one (dB true))) {w : World} (hT : TabG w) {vs : List Value} (hv : VM (fun _ => False) w ds vs) : Calls Tryd.prog f vs.toArray w (RetB true w) :=
  (h.calls _ w vs (noS w hT) hv).mono fun e w' ⟨v, he, hm, hb⟩ => by
    obtain rfl := av_val (show AV.M _ _ _ _ from hm)
    exact ⟨he, hb⟩
theorem intR_wd {w : World} {v : Value} {na : Bool} {xs : List Nat} (h : IntR w v na xs) : Wd xs := by
  obtain ⟨_, _, _, _, hx⟩ := h
  exact hx.wd
theorem aIs_aI {l : List (Bool × List Nat)} {i : Nat} {p : Bool × List Nat} (h : l[i]? = some p) (j : Nat) (a : AV) (ha : (aI p.1 p.2)[j]? = some a) : (aIs l)[i * 2 + j]? = some a := by
  obtain ⟨h1, h2⟩ := aIs_get l i p h
  match j with
  | 0 => cases ha; exact h1
  | 1 => cases ha; exact h2
  | j + 2 => simp [aI] at ha
theorem ok_small (l : List (Bool × List Nat)) (hlen : l.length ≤ 1000) {b : Bool} (hb : (l.all fun p => decide (p.2.length ≤ 20)) = b) : CallOK Tryd.prog 5 [.leaf (.sl l.length (aIs l))] (.one (dB b)) := by
  refine callOK_of TT_ok mixT Tryd.func5 rfl rfl (Nat.le_of_ble_eq_true rfl) ?_
  refine r_seq ?_
  refine r_region rfl ?_
  iterate 1 refine r_op rfl rfl rfl rfl ?_
  refine .done ?_
  refine r_seq (T := TT) ?_
  refine r_seq ?_
  refine r_region rfl ?_
  iterate 3 refine r_op rfl rfl rfl rfl ?_
  refine .done ?_
  refine r_block (T := TT) ?_
  refine r_loop Nat (fun j => j ≤ l.length ∧ ∀ i p, i < j → l[i]? = some p → p.2.length ≤ 20) (fun j => ⟨[(5, .d (.leaf (.sl l.length (aIs l)))), (6, .d (dN .i64 l.length)), (7, .d (dN .i64 j))], []⟩) (fun j => l.length - j) 0 ⟨Nat.zero_le _, fun i p h => absurd h (Nat.not_lt_zero _)⟩ (weak ⟨rfl, rfl, rfl, trivial⟩ trivial rfl) ?_
  rintro j ⟨hj, hall⟩
  refine r_seq ?_
  refine r_region rfl ?_
  iterate 1 refine r_op rfl rfl rfl rfl ?_
  refine .done ?_
  refine r_seq (T := TT) ?_
  refine r_cond rfl (fun h => ?_) (fun h => ?_)
  · have hlt : j < l.length := by have := of_decide_eq_true h; omega
    refine r_skipc ?_
    refine r_seq (T := TT) ?_
    refine r_block ?_
    refine r_seq ?_
    refine r_region rfl ?_
    refine r_idx (cs' := aI l[j].1 l[j].2) hlt (aIs_aI (by simp [hlt])) (Nat.zero_lt_two) rfl rfl rfl rfl rfl rfl rfl rfl ?_
    iterate 3 refine r_op rfl rfl rfl rfl ?_
    refine .done ?_
    refine r_seq (T := TT) ?_
    refine r_region rfl ?_
    iterate 4 refine r_op rfl rfl rfl rfl ?_
    refine .done ?_
    refine r_cond (T := TT) rfl (fun h2 => ?_) (fun h2 => ?_)
    · refine r_seq ?_
      refine r_region rfl ?_
      iterate 1 refine r_op rfl rfl rfl rfl ?_
      refine .done ?_
      refine r_fin (T := TT) rfl ?_
      have h20 : 20 < l[j].2.length := by have := of_decide_eq_true h2; omega
      have : b = false := by
        rw [← hb, List.all_eq_false]
        exact ⟨l[j], by simp, by simp; omega⟩
      rw [this]
      rfl
    · refine r_skipc ?_
      refine r_region (T := TT) rfl ?_
      iterate 2 refine r_op rfl rfl rfl rfl ?_
      refine .done ?_
      have h20 : ¬ 20 < l[j].2.length := by have := of_decide_eq_false h2; omega
      refine ⟨j + 1, ⟨hlt, fun i p hi hp => ?_⟩, by omega, weak ⟨rfl, rfl, ?_, trivial⟩ trivial rfl⟩
      · rcases Nat.lt_succ_iff_lt_or_eq.1 hi with h3 | rfl
        · exact hall i p h3 hp
        · have : p = l[i] := by simp [hlt] at hp; exact hp.symm
          rw [this]; omega
      · exact tv_i64 (by omega) (by omega)
  · have hge : j = l.length := by have := of_decide_eq_false h; omega
    refine r_exit ?_
    refine r_seq (T := TT) ?_
    refine r_region rfl ?_
    iterate 1 refine r_op rfl rfl rfl rfl ?_
    refine .done ?_
    refine r_fin (T := TT) rfl ?_
    have : b = true := by
      rw [← hb, List.all_eq_true]
      intro p hp
      obtain ⟨i, hi⟩ := List.getElem?_of_mem hp
      have := hall i p (by rw [hge]; exact (List.getElem?_eq_some_iff.1 hi).1) hi
      simpa using this
    rw [this]
    rfl

end Go.Proofs.YtecjnnhkbmkemaaDoor
