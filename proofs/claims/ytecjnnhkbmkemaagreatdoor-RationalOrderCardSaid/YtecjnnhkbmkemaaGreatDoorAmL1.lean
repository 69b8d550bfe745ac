/- The helpers of the integer laws over plain data, and the frame of a law. -/
import Derived.Test.YtecjnnhkbmkemaaGreatDoorAmK
import Derived.Test.YtecjnnhkbmkemaaGreatDoorAh
import Derived.Test.YtecjnnhkbmkemaaGreatDoorLaw
namespace Go.Proofs.YtecjnnhkbmkemaaGreatDoor
open Go.ChangeShapes Go.WideShapes Go.ChangeAt Go.RowKit Go.Joins

theorem aW_slice {S : Nat → Prop} {w : World} {xs : List Nat} {v : Value} (h : AV.M S w (aW xs) v) : ∃ A c, v = .slice A xs.length c ∧ xs.length ≤ c := by
  unfold aW at h
  generalize (xs.map fun x : Nat => AV.val (W32 x)) = cs at h
  cases h with
  | emp h1 _ _ => exact ⟨_, _, rfl, h1⟩
  | sl f h1 => exact ⟨_, _, rfl, h1⟩
def aIs (l : List (Bool × List Nat)) : List AV := l.flatMap fun p => aI p.1 p.2
theorem aIs_get : ∀ (l : List (Bool × List Nat)) (i : Nat) (p : Bool × List Nat), l[i]? = some p → (aIs l)[i * 2]? = some (.val (.bool p.1)) ∧ (aIs l)[i * 2 + 1]? = some (aW p.2)
  | [], i, p, h => by simp at h
  | q :: l, 0, p, h => by simp at h; subst h; exact ⟨rfl, rfl⟩
  | q :: l, i + 1, p, h => by
    have := aIs_get l i p (by simpa using h)
    rw [show (i + 1) * 2 = i * 2 + 2 by omega]
    exact this
/-- a law over plain data, at the model's values -/
theorem noS (w : World) (hT : TabG w) : NoWord (fun _ => False) w := ⟨hT, fun _ h => h.elim⟩
theorem law_calls {f : FuncId} {ds : List DV} (h : CallOK Tryz.prog f ds (.one (dB true))) {w : World} (hT : TabG w) {vs : List Value} (hv : VM (fun _ => False) w ds vs) : Calls Tryz.prog f vs.toArray w (RetB true w) :=
  (h.calls _ w vs (noS w hT) hv).mono fun e w' ⟨v, he, hm, hb⟩ => by
    obtain rfl := av_val (show AV.M _ _ _ _ from hm)
    exact ⟨he, hb⟩
theorem intR_wd {w : World} {v : Value} {na : Bool} {xs : List Nat} (h : IntR w v na xs) : Wd xs := by
  obtain ⟨_, _, _, _, hx⟩ := h
  exact hx.wd
theorem aIs_aI {l : List (Bool × List Nat)} {i : Nat} {p : Bool × List Nat} (h : l[i]? = some p) (j : Nat) (a : AV) (ha : (aI p.1 p.2)[j]? = some a) : (aIs l)[i * 2 + j]? = some a := by
  obtain ⟨h1, h2⟩ := aIs_get l i p h
  match j with
  | 0 => cases ha; exact h1
  | 1 => cases ha; exact h2
  | j + 2 => simp [aI] at ha
end Go.Proofs.YtecjnnhkbmkemaaGreatDoor
