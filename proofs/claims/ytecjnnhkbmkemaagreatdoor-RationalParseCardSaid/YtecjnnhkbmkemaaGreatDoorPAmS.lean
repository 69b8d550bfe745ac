/- Strings as lists of bytes: index, part, sum, comparison, over plain data. -/
import Derived.Test.YtecjnnhkbmkemaaGreatDoorPAmW
import Derived.Laws.BytesArg
import Derived.Laws.Strings2
namespace Go.Proofs.YtecjnnhkbmkemaaGreatDoor
open Go.RowKit
def Bs (l : List UInt8) : ByteArray := ⟨l.toArray⟩
def dL (l : List UInt8) : DV := dS (Bs l)
def vL (l : List UInt8) : Value := .string (Bs l)
theorem Bs_of (s : ByteArray) : Bs s.data.toList = s := rfl
theorem Bs_size (l : List UInt8) : (Bs l).size = l.length := by simp [Bs, ByteArray.size]
theorem Bs_toList (l : List UInt8) : (Bs l).toList = l := ByteArray.toList_mk l
theorem Bs_append (a b : List UInt8) : Bs a ++ Bs b = Bs (a ++ b) := by
  apply ByteArray.ext
  simp [Bs]
theorem Bs_extract (l : List UInt8) (i j : Nat) : (Bs l).extract i j = Bs ((l.take j).drop i) := by
  apply ByteArray.ext
  simp [Bs, ByteArray.data_extract, List.extract_eq_take_drop, List.drop_take]
theorem binV_eqS {t : TypeId} {x y : Operand} {a b : List UInt8} : binV .eql t x y (vL a) (vL b) = some (.bool (decide (a = b))) := by
  show some (Value.bool ((Bs a).toList == (Bs b).toList)) = _
  rw [Bs_toList, Bs_toList]
  congr 2
  by_cases h : a = b <;> simp [h]
theorem binV_neS {t : TypeId} {x y : Operand} {a b : List UInt8} : binV .neq t x y (vL a) (vL b) = some (.bool (!decide (a = b))) := by
  show some (Value.bool (!((Bs a).toList == (Bs b).toList))) = _
  rw [Bs_toList, Bs_toList]
  congr 3
  by_cases h : a = b <;> simp [h]
theorem binV_cat {t : TypeId} {x y : Operand} {a b : List UInt8} (h : a.length + b.length ≤ 9223372036854775807) : binV .add t x y (vL a) (vL b) = some (vL (a ++ b)) := by
  have h1 : ¬ (((Bs a).size + (Bs b).size : Nat) : Int) > IntKind.i64.max := by
    rw [Bs_size, Bs_size, show IntKind.i64.max = 9223372036854775807 from by decide]
    omega
  have : binOp .add t (vL a) (vL b) = .pure (vL (a ++ b)) := by
    simp only [binOp, vL, Op.stringOp, h1, if_false, Bs_append]
    rfl
  show semV (do eqGuard .add t x y (vL a) (vL b); binOp .add t (vL a) (vL b)) = _
  simp only [this]
  rfl
section
variable {P : Program} {T : TypeId → Option Ty} {n : Nat} {ops : Array Oper} {id : Nat} {draw : Bool} {K : AS → Prop} {s : AS} {k : Nat} {o : Oper} {os : List Oper} {fps : List FP}
theorem str_of {t : TypeId} {ty : Ty} (hT : TyOK P t ty) (hs : ty.isStr = true) : P.underlying t = some .string := by
  obtain ⟨d, hu, _, _, _, _, hst, _⟩ := hT.und
  rw [hu, hst hs]
theorem r_sidx (hT : ∀ t d, T t = some d → TyOK P t d) {t : TypeId} {ty : Ty} {x y : Operand} {l : List UInt8} {c : UInt8} {i : Nat} {ik : IntKind} (hi : l[i]? = some c) (h1 : gd ops s o = some true) (h2 : o.op = .index t x y) (h5 : T t = some ty) (h6 : ty.isStr = true) (h7 : s.ev x = .d (.leaf (.val (vL l)))) (h8 : s.ev y = .d (.leaf (.val (.int ik (i : Nat)))))
    (h3 : dstOK n o.dst = true) (h4 : chk draw ops (fpOf ops o ⟨.d (dN .u8 c.toNat), none⟩ []) k fps = true) (h : AOps P T n ops id draw K (k + 1) os (s.eff o.dst ⟨.d (dN .u8 c.toNat), none⟩) (fpOf ops o ⟨.d (dN .u8 c.toNat), none⟩ [] :: fps)) : AOps P T n ops id draw K k (o :: os) s fps := by
  refine .run h1 (.gen fun s2 ht _ => ?_) h3 h4 h
  have hx := (rt_op ht (x := x) (by simp [h2, Op.operands])).trans h7
  have hy := (rt_op ht (x := y) (by simp [h2, Op.operands])).trans h8
  have hu := str_of (hT _ _ h5) h6
  have hl : i < l.length := (List.getElem?_eq_some_iff.1 hi).1
  refine sound_val fun n S0 w0 g a w hM => ⟨.int .u8 c.toNat, w, ?_, Below.refl _ _, AV.M.val rfl⟩
  unfold execOp
  rw [h2]
  have hsz := Bs_size l
  have hget : (Bs l)[i]'(by rw [hsz]; exact hl) = c := by
    have := (List.getElem?_eq_some_iff.1 hi).2
    show (Bs l).data[i]'_ = c
    simpa [Bs] using this
  simp only [ev_val hM hx, ev_val hM hy, vL, Sem.run_bind, run_index_string _ t (Bs l) ik i hu]
  rw [dif_pos (by rw [hsz]; omega)]
  simp only [Result.andThen_ok, Int.toNat_natCast, hget]
  rfl
theorem r_slo (hT : ∀ t d, T t = some d → TyOK P t d) {t : TypeId} {ty : Ty} {x y : Operand} {l : List UInt8} {i : Nat} {ik : IntKind} (hi : i ≤ l.length) (h1 : gd ops s o = some true) (h2 : o.op = .slice t x (some y) none none) (h5 : T t = some ty) (h6 : ty.isStr = true) (h7 : s.ev x = .d (.leaf (.val (vL l)))) (h8 : s.ev y = .d (.leaf (.val (.int ik (i : Nat)))))
    (h3 : dstOK n o.dst = true) (h4 : chk draw ops (fpOf ops o ⟨.d (dL (l.drop i)), none⟩ []) k fps = true) (h : AOps P T n ops id draw K (k + 1) os (s.eff o.dst ⟨.d (dL (l.drop i)), none⟩) (fpOf ops o ⟨.d (dL (l.drop i)), none⟩ [] :: fps)) : AOps P T n ops id draw K k (o :: os) s fps := by
  refine .run h1 (.gen fun s2 ht _ => ?_) h3 h4 h
  have hx := (rt_op ht (x := x) (by simp [h2, Op.operands])).trans h7
  have hy := (rt_op ht (x := y) (by simp [h2, Op.operands])).trans h8
  have hu := str_of (hT _ _ h5) h6
  refine sound_val fun n S0 w0 g a w hM => ⟨vL (l.drop i), w, ?_, Below.refl _ _, AV.M.val rfl⟩
  unfold execOp
  rw [h2]
  have e1 : (Instr.sliceAt t (.string (Bs l)) (some (.int ik i)) none none).run P w = .ok (vL (l.drop i)) w := by
    unfold Instr.sliceAt
    simp only [Sem.run_bind, run_underlying hu w, Result.andThen_ok]
    rw [run_slice_string_l w t (Bs l) hu ik i (by omega) (by rw [Bs_size]; omega), Bs_extract, Bs_size]
    simp [vL]
  simp only [ev_val hM hx, ev_val hM hy, vL, Option.map_some, Option.map_none, Sem.run_bind, e1, Result.andThen_ok]
  rfl
end
end Go.Proofs.YtecjnnhkbmkemaaGreatDoor
