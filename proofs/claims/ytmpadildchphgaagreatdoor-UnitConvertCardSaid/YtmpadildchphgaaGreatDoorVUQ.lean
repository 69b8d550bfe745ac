/- Quantities and environments that come in. -/
import Derived.Test.YtmpadildchphgaaGreatDoorVU7
import Derived.Test.YtmpadildchphgaaGreatDoorVZ5
import Derived.Test.YtmpadildchphgaaGreatDoorVZ4
import Derived.ChangeMaps5
namespace Go.Proofs.YtmpadildchphgaaGreatDoor
open Go.ChangeShapes Go.WideShapes Go.ChangeAt Go.RowKit Go.Joins
theorem open_struct {H : Type} {enc : TypeId × Value → H} {W : World} {P : Program} {L : List TypeId} (hL : plainB P L = true) {t : TypeId} (ht : t ∈ L) {fs : Array Field} (hu : P.underlying t = some (.struct fs)) {r : Reach} {b0 : Nat} {v : Value} {d : DataW H} {p : List MemPlace} (hv : Value.okWide P W r b0 t v) (h : DataW.Trod enc P W 0 (fun _ => true) true t v d p) :
    ∃ n cs, DV.M (fun _ => False) W (.agg cs) v ∧ Sh P n t cs := by
  obtain ⟨cs, rfl, _⟩ := okWide_struct hu hv
  obtain ⟨n, xs, h1, h2⟩ := open_sh hL ht h
  exact ⟨n, xs, dv_agg h1, h2⟩
def qtyL : List TypeId := [28, 26, 24, 4, 22, 92, 3]
theorem qtyL_ok : plainB Tryz.prog qtyL = true := by kernel_rfl
set_option maxRecDepth 100000 in
theorem sh_qty {n : Nat} {cs : List AV} (h : Sh Tryz.prog n 28 cs) : ∃ na xs nb ys p, cs = aI2 na xs nb ys ++ [.val (.int .i64 p)] ∧ Wd xs ∧ Wd ys ∧ -9223372036854775808 ≤ p ∧ p ≤ 9223372036854775807 := by
  cases n with
  | zero => exact h.elim
  | succ n =>
    simp only [Sh, Tryz.underlying28, List.forall_mem_cons, List.not_mem_nil, false_imp_iff, implies_true, and_true] at h
    obtain ⟨hl, h0, h1⟩ := h
    rw [show Tryz.prog.cellsOf 28 = 5 by kernel_rfl] at hl
    rw [show Tryz.prog.cellsOf 26 = 4 by kernel_rfl] at h0
    rw [show Tryz.prog.cellsOf 3 = 1 by kernel_rfl] at h1
    match cs, hl with
    | [c0, c1, c2, c3, c4], _ =>
      obtain ⟨na, xs, nb, ys, e0, w0, w1⟩ := sh_rat h0
      obtain ⟨p, e1, b0, b1⟩ := sh_i64 h1
      refine ⟨na, xs, nb, ys, p, ?_, w0, w1, b0, b1⟩
      have e0 : [c0, c1, c2, c3] = aI2 na xs nb ys := e0
      have e1 : [c4] = [.val (.int .i64 p)] := e1
      show [c0, c1, c2, c3] ++ [c4] = _
      rw [e0, e1]
set_option maxRecDepth 100000 in
theorem open_qty {H : Type} {enc : TypeId × Value → H} {W : World} {r : Reach} {b0 : Nat} {v : Value} {d : DataW H} {p : List MemPlace} (hv : Value.okWide Tryz.prog W r b0 28 v) (h : DataW.Trod enc Tryz.prog W 0 (fun _ => true) true 28 v d p) :
    ∃ na xs nb ys p, DV.M (fun _ => False) W (dI3 na xs nb ys p) v ∧ Wd xs ∧ Wd ys ∧ -9223372036854775808 ≤ p ∧ p ≤ 9223372036854775807 := by
  obtain ⟨n, cs, h1, h2⟩ := open_struct qtyL_ok (by decide) Tryz.underlying28 hv h
  obtain ⟨na, xs, nb, ys, p, rfl, h3⟩ := sh_qty h2
  exact ⟨na, xs, nb, ys, p, h1, h3⟩
def rN1 : QR → Bool
  | .ok x => decide (x.1.num < 0)
  | .error _ => false
def rD1 : QR → List Nat
  | .ok x => digs x.1.num.natAbs
  | .error _ => []
def rN2 : QR → Bool
  | .ok x => decide ((x.1.den : Int) < 0)
  | .error _ => false
def rD2 : QR → List Nat
  | .ok x => digs (x.1.den : Int).natAbs
  | .error _ => []
def rPw : QR → Int
  | .ok x => x.2
  | .error _ => 0
def rEr : QR → Int
  | .ok _ => 0
  | .error e => e
def dR3 (r : QR) : DV := dI3 (rN1 r) (rD1 r) (rN2 r) (rD2 r) (rPw r)
theorem toRV_eq (r : QR) : toRV r = .tup [dR3 r, dN .i64 (rEr r)] := by cases r <;> rfl
theorem ok_l23_sameR {k : Nat} {r : QR} (h : ∀ x, r = .ok x → SzQ k x.1) (hk : k ≤ 2147483648) (he : ∀ e, r = .error e → e ≠ 0) : CallOK Tryz.prog 18 [dR3 r, dN .i64 (rEr r), dR3 r, dN .i64 (rEr r)] (.one (dB true)) := by
  cases r with
  | ok x => exact ok_l23_same_t (a := x.1) (p := x.2) (h x rfl) hk
  | error e => exact ok_l23_same_e (he e rfl)
theorem opR_ne {k : B4} {a b : Rat} {p p' e : Int} (h : opR k a p b p' = .error e) : e ≠ 0 := by rcases opR_err h with rfl | rfl <;> decide
end Go.Proofs.YtmpadildchphgaaGreatDoor
