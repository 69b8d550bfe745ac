/- Strings over plain data, more: decided comparisons, the front of a string, a string's bytes. -/
import Derived.Test.YtecjnnhkbmkemaaGreatDoorPAmS
import Derived.Laws.IdiomStrings
namespace Go.Proofs.YtecjnnhkbmkemaaGreatDoor
open Go.RowKit
theorem binV_eqT {t : TypeId} {x y : Operand} {a b : List UInt8} (h : a = b) : binV .eql t x y (vL a) (vL b) = some (.bool true) := by rw [binV_eqS, decide_eq_true h]
theorem binV_eqF {t : TypeId} {x y : Operand} {a b : List UInt8} (h : a ≠ b) : binV .eql t x y (vL a) (vL b) = some (.bool false) := by rw [binV_eqS, decide_eq_false h]
theorem binV_neT {t : TypeId} {x y : Operand} {a b : List UInt8} (h : a ≠ b) : binV .neq t x y (vL a) (vL b) = some (.bool true) := by rw [binV_neS, decide_eq_false h]; rfl
theorem binV_neF {t : TypeId} {x y : Operand} {a b : List UInt8} (h : a = b) : binV .neq t x y (vL a) (vL b) = some (.bool false) := by rw [binV_neS, decide_eq_true h]; rfl
section
variable {P : Program} {T : TypeId → Option Ty} {n : Nat} {ops : Array Oper} {id : Nat} {draw : Bool} {K : AS → Prop} {s : AS} {k : Nat} {o : Oper} {os : List Oper} {fps : List FP}
theorem r_shi (hT : ∀ t d, T t = some d → TyOK P t d) {t : TypeId} {ty : Ty} {x y : Operand} {l : List UInt8} {i : Nat} {ik : IntKind} (hi : i ≤ l.length) (h1 : gd ops s o = some true) (h2 : o.op = .slice t x none (some y) none) (h5 : T t = some ty) (h6 : ty.isStr = true) (h7 : s.ev x = .d (.leaf (.val (vL l)))) (h8 : s.ev y = .d (.leaf (.val (.int ik (i : Nat)))))
    (h3 : dstOK n o.dst = true) (h4 : chk draw ops (fpOf ops o ⟨.d (dL (l.take i)), none⟩ []) k fps = true) (h : AOps P T n ops id draw K (k + 1) os (s.eff o.dst ⟨.d (dL (l.take i)), none⟩) (fpOf ops o ⟨.d (dL (l.take i)), none⟩ [] :: fps)) : AOps P T n ops id draw K k (o :: os) s fps := by
  refine .run h1 (.gen fun s2 ht _ => ?_) h3 h4 h
  have hx := (rt_op ht (x := x) (by simp [h2, Op.operands])).trans h7
  have hy := (rt_op ht (x := y) (by simp [h2, Op.operands])).trans h8
  have hu := str_of (hT _ _ h5) h6
  refine sound_val fun n S0 w0 g a w hM => ⟨vL (l.take i), w, ?_, Below.refl _ _, AV.M.val rfl⟩
  unfold execOp
  rw [h2]
  have e1 : (Instr.sliceAt t (.string (Bs l)) none (some (.int ik i)) none).run P w = .ok (vL (l.take i)) w := by
    unfold Instr.sliceAt
    simp only [Sem.run_bind, run_underlying hu w, Result.andThen_ok]
    rw [run_slice_string_h w t (Bs l) hu ik i (by omega) (by rw [Bs_size]; omega), Bs_extract]
    simp [vL]
  simp only [ev_val hM hx, ev_val hM hy, vL, Option.map_some, Option.map_none, Sem.run_bind, e1, Result.andThen_ok]
  rfl
end
end Go.Proofs.YtecjnnhkbmkemaaGreatDoor
