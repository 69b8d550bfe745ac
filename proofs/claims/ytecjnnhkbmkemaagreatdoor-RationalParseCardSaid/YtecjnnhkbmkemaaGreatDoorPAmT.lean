/- Calls with what is handed in: boxes that the callee writes, closures, rows of the caller's own. -/
import Derived.Test.YtecjnnhkbmkemaaGreatDoorPAm
namespace Go.Proofs.YtecjnnhkbmkemaaGreatDoor
open Go.RowKit
inductive RT where
  | v (r : RV)
  | own (j n k e : Nat)
def RT.tv : RT → TV
  | .v r => r.tv
  | .own j n k e => .own j n k e
abbrev BL := List (Nat × List AV)
def bAll : BL → List (Nat × Option (List AV))
  | [] => []
  | (j, cs) :: r => (j, some cs) :: bAll r
def sB (b : BL) : AS := ⟨[], bAll b⟩
def argV : Nat → List TV → List (Nat × TV)
  | _, [] => []
  | k, d :: r => (k, d) :: argV (k + 1) r
def TVs (S : Nat → Prop) (g : Nat → Nat) (s : AS) (w : World) : List TV → List Value → Prop
  | [], [] => True
  | x :: xs, v :: vs => TV.M S g s w x v ∧ TVs S g s w xs vs
  | _, _ => False
section
variable {n : Nat} {S0 : Nat → Prop} {w0 : Base} {g : Nat → Nat} {s : AS} {a : Act} {w w' : World}
theorem sB_bx {b : BL} {j : Nat} {cs : List AV} : (sB b).bx j = some cs ↔ look (bAll b) j = some (some cs) := by
  unfold sB AS.bx
  constructor
  · intro h; split at h
    · rename_i x hx; cases h; exact hx
    · cases h
  · intro h; simp only [h]
theorem TV.M.sub {S : Nat → Prop} {s s' : AS} {x : TV} {v : Value} (h : TV.M S g s w x v) (hk : ∀ j ∈ tvBox x, s'.kn j) (hb : ∀ j cs, s'.bx j = some cs → s.bx j = some cs) : TV.M S g s' w x v := by
  cases x with
  | d x => exact h
  | tup ts => exact h
  | box j o => exact ⟨hk j (by simp [tvBox]), fun cs hc => h.2 cs (hb j cs hc)⟩
  | rp cs => exact h
  | own j n k e0 => exact ⟨hk j (by simp [tvBox]), fun cs hc => h.2 cs (hb j cs hc)⟩
  | clo fn fs cs => obtain ⟨us, vs, e, h1, h2⟩ := h; exact ⟨us, vs, e, h1.weak hb (fun j hj => hk j (by simp [tvBox, hj])), h2.weak hb (fun j hj => hk j (by simp [tvBox, hj]))⟩
  | mp es => exact h
  | nil => exact h
  | und => exact h
  | junk => trivial
end
section
variable {P : Program} {T : TypeId → Option Ty} {n : Nat} {S0 : Nat → Prop} {w0 : Base}
theorem TVs.length {S : Nat → Prop} {g : Nat → Nat} {s : AS} {w : World} : ∀ {ts : List TV} {vs : List Value}, TVs S g s w ts vs → ts.length = vs.length
  | [], [], _ => rfl
  | _ :: ts, _ :: vs, h => by simp [TVs.length h.2]
  | [], _ :: _, h => h.elim
  | _ :: _, [], h => h.elim
theorem TVs.at {S : Nat → Prop} {g : Nat → Nat} {s : AS} {w : World} : ∀ {ts : List TV} {vs : List Value}, TVs S g s w ts vs → ∀ (k i : Nat), TV.M S g s w (match look (argV k ts) i with | some v => v | none => .junk) (if i < k then undef else vs.getD (i - k) undef)
  | [], [], _, k, i => trivial
  | d :: ds, v :: vs, h, k, i => by
    simp only [argV]
    by_cases e : k = i
    · subst e
      rw [look_same]
      simp only [Nat.lt_irrefl, if_false, Nat.sub_self]
      exact h.1
    · rw [look_ne _ _ e]
      have := TVs.at h.2 (k + 1) i
      by_cases h1 : i < k
      · rw [if_pos (by omega)] at this; rw [if_pos h1]; exact this
      · rw [if_neg (by omega)] at this
        rw [if_neg h1]
        have e2 : i - k = (i - (k + 1)) + 1 := by omega
        rw [e2]
        simpa using this
  | [], _ :: _, h, _, _ => h.elim
  | _ :: _, [], h, _, _ => h.elim
def LenOK (b b' : BL) : Prop := ∀ j cs cs', (sB b).bx j = some cs → (sB b').bx j = some cs' → cs.length ≤ cs'.length
theorem LenOK.refl (b : BL) : LenOK b b := fun j cs cs' h h' => by rw [h] at h'; cases h'; exact Nat.le_refl _
theorem LenOK.nil (b : BL) : LenOK [] b := fun j cs cs' h => by cases h
theorem LenOK.one {j : Nat} {cs cs' : List AV} (h : cs.length ≤ cs'.length) : LenOK [(j, cs)] [(j, cs')] := fun i c c' h1 h2 => by
  have h1 := sB_bx.1 h1
  have h2 := sB_bx.1 h2
  simp only [bAll] at h1 h2
  by_cases e : j = i
  · subst e; rw [look_same] at h1 h2; cases h1; cases h2; exact h
  · rw [look_ne _ _ e] at h1; cases h1
variable {ops : Array Oper} {id : Nat} {draw : Bool} {K : AS → Prop} {s : AS} {k : Nat} {o : Oper} {os : List Oper} {fps : List FP}
theorem r_cutE {α : Type} {x y : Code} {Q : AX → AS → Prop} (σ : α → AS) (φ : α → Prop) (hy : ∀ a, φ a → ∀ s', Weak s' (σ a) → AWp P T n y Q s') (hx : ∀ R : AX → AS → Prop, (∀ a, φ a → ∀ s', Weak s' (σ a) → R .normal s') → R .ret = Q .ret → AWp P T n x R s) : AWp P T n (.seq x y) Q s := r_seq (hx _ hy rfl)
end
end Go.Proofs.YtecjnnhkbmkemaaGreatDoor
