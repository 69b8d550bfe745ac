/- ownInt of the rational laws. A string's bytes as a slice; strings.Cut, CutPrefix and TrimLeft at one byte, over plain data. Rational numbers over plain data: normal forms, equality, roots, texts of both packages. The program's rational texts over plain data. Parse of the program's rational numbers over plain data. -/
import Derived.Test.YtecjnnhkbmkemaaGreatDoorPAh
import Derived.Deep.AppendLies
import Derived.Test.YtecjnnhkbmkemaaGreatDoorPAmS2
import Derived.Test.YtecjnnhkbmkemaaGreatDoorPShelf
import Derived.Test.YtecjnnhkbmkemaaGreatDoorPQa
import Derived.Test.YtecjnnhkbmkemaaGreatDoorPIFmt
import Derived.Test.YtecjnnhkbmkemaaGreatDoorPRFmt
import Derived.Test.YtecjnnhkbmkemaaGreatDoorPAmL1
import Derived.Test.YtecjnnhkbmkemaaGreatDoorPIPrs
namespace Go.Proofs.YtecjnnhkbmkemaaGreatDoor
open Go.RowKit
attribute [local go_sem ↓] Go.wp_at_zero Go.wp_at_succ
end Go.Proofs.YtecjnnhkbmkemaaGreatDoor
namespace Go.Proofs.YtecjnnhkbmkemaaGreatDoor
open Go.RowKit
def aBs (l : List UInt8) : List AV := l.map fun c => AV.val (.int .u8 c.toNat)
def dBs (l : List UInt8) : DV := .leaf (.sl l.length (aBs l))
theorem aBs_at {l : List UInt8} {i : Nat} {c : UInt8} (h : l[i]? = some c) : ∀ (j : Nat) (a : AV), [AV.val (.int .u8 c.toNat)][j]? = some a → (aBs l)[i * 1 + j]? = some a := by
  intro j a hj
  match j, hj with
  | 0, hj => unfold aBs; rw [Nat.mul_one, Nat.add_zero, List.getElem?_map, h]; exact hj
section
variable {P : Program} {T : TypeId → Option Ty} {n : Nat} {ops : Array Oper} {id : Nat} {draw : Bool} {K : AS → Prop} {s : AS} {k : Nat} {o : Oper} {os : List Oper} {fps : List FP}
theorem r_s2b (hT : ∀ t d, T t = some d → TyOK P t d) {t t' et : TypeId} {ty ty' te : Ty} {x : Operand} {l : List UInt8} (hl : l.length ≤ 9223372036854775807) (h1 : gd ops s o = some true) (h2 : o.op = .convert t t' x) (h5 : T t = some ty) (h6 : ty.isStr = true) (h9 : T t' = some ty') (h10 : ty'.elem = some (et, 1)) (h7 : T et = some te) (h8 : te.ik = some .u8) (h11 : s.ev x = .d (.leaf (.val (vL l))))
    (h3 : dstOK n o.dst = true) (h4 : chk draw ops (fpOf ops o ⟨.d (dBs l), none⟩ []) k fps = true) (h : AOps P T n ops id draw K (k + 1) os (s.eff o.dst ⟨.d (dBs l), none⟩) (fpOf ops o ⟨.d (dBs l), none⟩ [] :: fps)) : AOps P T n ops id draw K k (o :: os) s fps := by
  refine .run h1 (.gen fun s2 ht _ => ?_) h3 h4 h
  have hx := (rt_op ht (x := x) (by simp [h2, Op.operands])).trans h11
  have hu := str_of (hT _ _ h5) h6
  obtain ⟨d, hd, _, hel, _⟩ := (hT _ _ h9).und
  obtain ⟨rfl, _⟩ := hel et 1 h10
  obtain ⟨d2, hd2, _, _, _, _, _, hik, _⟩ := (hT _ _ h7).und
  obtain rfl := hik _ h8
  refine sound_val fun n S0 w0 g a w hM => ?_
  have hsz := Bs_size l
  have hge := grownCap_ge w l.length 0 et
  have hle := grownCap_le_maxLen w l.length 0 et (by unfold maxLen; omega)
  obtain ⟨C, hC⟩ : ∃ C, grownCap w l.length 0 et = C := ⟨_, rfl⟩
  rw [hC] at hge hle
  have hrun := run_bytes_of_string w t t' et (Bs l) hu hd hd2
  rw [hsz, hC] at hrun
  have hb : Below w.heap.size w (w.drew.alloc (.cells (bytesRow (Bs l) C) et ((bytesRow (Bs l) C).size, (bytesRow (Bs l) C).size + 1))) := ((Below.refl _ w).drew).alloc (Nat.le_refl _) _
  refine ⟨.slice (some ⟨w.heap.size, 0, none⟩) l.length C, _, ?_, hb, ?_⟩
  · unfold execOp
    rw [h2]
    simp only [ev_val hM hx, vL, Sem.run_bind, hrun, Result.andThen_ok, Sem.run_pure]
  · refine AV.M.sl (fun i => .int .u8 ((l.getD i 0).toNat : Int)) hge (by unfold maxLen at hle; omega) ?_ (by show w.heap.size < (w.heap.push _).size; simp) (fun i c hi => ?_) (fun i c hi => ?_)
    · intro hO
      exact absurd (hM.own_lt hO) (Nat.lt_irrefl _)
    · have hil : i < l.length := by have := (List.getElem?_eq_some_iff.1 hi).1; simpa [aBs] using this
      have h3 : (w.drew.alloc (.cells (bytesRow (Bs l) C) et ((bytesRow (Bs l) C).size, (bytesRow (Bs l) C).size + 1))).heap[w.heap.size]? = some (.cells (bytesRow (Bs l) C) et ((bytesRow (Bs l) C).size, (bytesRow (Bs l) C).size + 1)) := heap_alloc_new w.drew _
      rw [Nat.zero_add]
      simp only [World.cell?, h3]
      have := bytesRow_at (Bs l) C i (by show i < (Bs l).data.size; simpa [Bs] using hil)
      show (match (bytesRow (Bs l) C)[i]? with | v => v) = _
      refine Eq.trans this ?_
      simp [Bs, hil]
    · have hil : i < l.length := by have := (List.getElem?_eq_some_iff.1 hi).1; simpa [aBs] using this
      have : c = .val (.int .u8 ((l.getD i 0).toNat : Int)) := by
        unfold aBs at hi
        rw [List.getElem?_map, List.getElem?_eq_getElem hil] at hi
        simp at hi
        rw [← hi]
        simp [hil]
      rw [this]
      exact .val rfl
end
theorem ok_index_one (l : List UInt8) (c : UInt8) : CallOK Tryz.prog 158 [dL l, dL [c]] (.one (dN .i64 (Lib.indexByte l c))) := by
  refine ⟨enter_of Tryz.func158 rfl rfl, fun S w vs hS hv => ?_⟩
  match vs, hv with
  | [v, u], ⟨h1, h2, _⟩ =>
    obtain rfl := av_val h1
    obtain rfl := av_val h2
    refine (Tryz.stringslite_Index_one (Bs l) c w).mono ?_
    rintro e w' ⟨rfl, rfl⟩
    exact ⟨_, rfl, AV.M.val rfl, Below.refl _ _⟩
theorem indexByte_no {l : List UInt8} {c : UInt8} (h : c ∉ l) : Lib.indexByte l c = -1 := by
  induction l with
  | nil => rfl
  | cons b l ih =>
    have h1 : (b == c) = false := beq_eq_false_iff_ne.2 (fun e => h (by simp [e]))
    unfold Lib.indexByte
    rw [h1, ih (fun e => h (by simp [e]))]
    rfl
theorem indexByte_at {a b : List UInt8} {c : UInt8} (h : c ∉ a) : Lib.indexByte (a ++ c :: b) c = a.length := by
  induction a with
  | nil => simp [Lib.indexByte]
  | cons x a ih =>
    have h1 : (x == c) = false := beq_eq_false_iff_ne.2 (fun e => h (by simp [e]))
    rw [List.cons_append]
    unfold Lib.indexByte
    rw [h1, ih (fun e => h (by simp [e]))]
    have : (((a.length : Nat) : Int) == -1) = false := beq_eq_false_iff_ne.2 (by omega)
    simp only [Bool.false_eq_true, if_false, this]
    simp
theorem ok_scut {a b : List UInt8} {c : UInt8} (h : c ∉ a) (hl : a.length + b.length ≤ 1000000000) : CallOK Tryz.prog 142 [dL (a ++ c :: b), dL [c]] (.tup [dL a, dL b, dB true]) := by
  have c1 := ok_index_one (a ++ c :: b) c
  rw [indexByte_at h] at c1
  have e1 : (a ++ c :: b).take a.length = a := by simp
  have e2 : (a ++ c :: b).drop (a.length + 1) = b := by rw [← List.drop_drop]; simp
  refine callOK_of TT_ok mixT Tryz.func142 rfl rfl (Nat.le_of_ble_eq_true rfl) ?_
  repeat (first | refine r_op rfl rfl rfl rfl ?_ | refine r_skip rfl rfl rfl ?_ | refine .done ?_ | refine r_seq (T := TT) ?_ | refine r_region (T := TT) rfl ?_ | refine r_block (T := TT) ?_ | refine r_then (T := TT) rfl ?_ | refine r_else (T := TT) rfl ?_)
  refine r_call (c1) rfl rfl rfl rfl rfl rfl rfl ?_
  repeat (first | refine r_op rfl rfl rfl rfl ?_ | refine r_skip rfl rfl rfl ?_ | refine .done ?_ | refine r_seq (T := TT) ?_ | refine r_region (T := TT) rfl ?_ | refine r_block (T := TT) ?_ | refine r_then (T := TT) rfl ?_ | refine r_else (T := TT) rfl ?_)
  refine r_shi TT_ok (l := a ++ c :: b) (i := a.length) (by simp) rfl rfl rfl rfl rfl rfl rfl rfl ?_
  iterate 4 (first | refine r_op rfl rfl rfl rfl ?_ | refine r_skip rfl rfl rfl ?_)
  refine r_eq (v' := .int .i64 (((a.length + 1 : Nat) : Int))) rfl rfl rfl rfl ?_ ?_
  · exact congrArg (Value.int .i64) (by show IntKind.i64.wrap ((a.length : Int) + 1) = _; rw [IntWalk.i64_in _ (by omega)]; omega)
  refine r_slo TT_ok (l := a ++ c :: b) (i := a.length + 1) (by simp) rfl rfl rfl rfl rfl rfl rfl rfl ?_
  repeat (first | refine r_op rfl rfl rfl rfl ?_ | refine r_skip rfl rfl rfl ?_ | refine .done ?_ | refine r_seq (T := TT) ?_ | refine r_region (T := TT) rfl ?_ | refine r_block (T := TT) ?_ | refine r_then (T := TT) rfl ?_ | refine r_else (T := TT) rfl ?_)
  rw [e1, e2]
  exact r_fin (T := TT) rfl rfl
theorem ok_scut_no {a : List UInt8} {c : UInt8} (h : c ∉ a) : CallOK Tryz.prog 142 [dL a, dL [c]] (.tup [dL a, dL [], dB false]) := by
  have c1 := ok_index_one a c
  rw [indexByte_no h] at c1
  refine callOK_of TT_ok mixT Tryz.func142 rfl rfl (Nat.le_of_ble_eq_true rfl) ?_
  repeat (first | refine r_op rfl rfl rfl rfl ?_ | refine r_skip rfl rfl rfl ?_ | refine .done ?_ | refine r_seq (T := TT) ?_ | refine r_region (T := TT) rfl ?_ | refine r_block (T := TT) ?_ | refine r_then (T := TT) rfl ?_ | refine r_else (T := TT) rfl ?_)
  refine r_call (c1) rfl rfl rfl rfl rfl rfl rfl ?_
  repeat (first | refine r_op rfl rfl rfl rfl ?_ | refine r_skip rfl rfl rfl ?_ | refine .done ?_ | refine r_seq (T := TT) ?_ | refine r_region (T := TT) rfl ?_ | refine r_block (T := TT) ?_ | refine r_then (T := TT) rfl ?_ | refine r_else (T := TT) rfl ?_)
  exact r_fin (T := TT) rfl rfl
theorem ok_Cut {a b : List UInt8} {c : UInt8} (h : c ∉ a) (hl : a.length + b.length ≤ 1000000000) : CallOK Tryz.prog 110 [dL (a ++ c :: b), dL [c]] (.tup [dL a, dL b, dB true]) := by
  refine callOK_of TT_ok mixT Tryz.func110 rfl rfl (Nat.le_of_ble_eq_true rfl) ?_
  repeat (first | refine r_op rfl rfl rfl rfl ?_ | refine r_skip rfl rfl rfl ?_ | refine .done ?_ | refine r_seq (T := TT) ?_ | refine r_region (T := TT) rfl ?_ | refine r_block (T := TT) ?_ | refine r_then (T := TT) rfl ?_ | refine r_else (T := TT) rfl ?_)
  refine r_call (ok_scut h hl) rfl rfl rfl rfl rfl rfl rfl ?_
  repeat (first | refine r_op rfl rfl rfl rfl ?_ | refine r_skip rfl rfl rfl ?_ | refine .done ?_ | refine r_seq (T := TT) ?_ | refine r_region (T := TT) rfl ?_ | refine r_block (T := TT) ?_ | refine r_then (T := TT) rfl ?_ | refine r_else (T := TT) rfl ?_)
  exact r_fin (T := TT) rfl rfl
theorem ok_Cut_no {a : List UInt8} {c : UInt8} (h : c ∉ a) : CallOK Tryz.prog 110 [dL a, dL [c]] (.tup [dL a, dL [], dB false]) := by
  refine callOK_of TT_ok mixT Tryz.func110 rfl rfl (Nat.le_of_ble_eq_true rfl) ?_
  repeat (first | refine r_op rfl rfl rfl rfl ?_ | refine r_skip rfl rfl rfl ?_ | refine .done ?_ | refine r_seq (T := TT) ?_ | refine r_region (T := TT) rfl ?_ | refine r_block (T := TT) ?_ | refine r_then (T := TT) rfl ?_ | refine r_else (T := TT) rfl ?_)
  refine r_call (ok_scut_no h) rfl rfl rfl rfl rfl rfl rfl ?_
  repeat (first | refine r_op rfl rfl rfl rfl ?_ | refine r_skip rfl rfl rfl ?_ | refine .done ?_ | refine r_seq (T := TT) ?_ | refine r_region (T := TT) rfl ?_ | refine r_block (T := TT) ?_ | refine r_then (T := TT) rfl ?_ | refine r_else (T := TT) rfl ?_)
  exact r_fin (T := TT) rfl rfl
theorem ok_TrimLeft0 (l : List UInt8) : CallOK Tryz.prog 144 [dL l, dL [48]] (.one (dL (l.dropWhile (· == 48)))) := by
  refine ⟨enter_of Tryz.func144 rfl rfl, fun S w vs hS hv => ?_⟩
  match vs, hv with
  | [v, u], ⟨h1, h2, _⟩ =>
    obtain rfl := av_val h1
    obtain rfl := av_val h2
    refine (Tryz.strings_TrimLeft_one (Bs l) 48 (by decide) w).mono ?_
    rintro e w' ⟨rfl, rfl⟩
    exact ⟨_, rfl, AV.M.val rfl, Below.refl _ _⟩
end Go.Proofs.YtecjnnhkbmkemaaGreatDoor
namespace Go.Proofs.YtecjnnhkbmkemaaGreatDoor
open Go.RowKit
theorem aW_at {xs : List Nat} {i x : Nat} (h : xs[i]? = some x) : ∀ (j : Nat) (a : AV), [AV.val (W32 x)][j]? = some a → (xs.map fun x : Nat => AV.val (W32 x))[i * 1 + j]? = some a := by
  intro j a hj
  match j, hj with
  | 0, hj => rw [Nat.mul_one, Nat.add_zero, List.getElem?_map, h]; exact hj
theorem sameB_ne {na nb : Bool} {xs ys : List Nat} (h : xs ≠ ys) : sameB na nb xs ys = false := by unfold sameB; rw [decide_eq_false h, Bool.and_false]
theorem sameB_eq {na : Bool} {xs ys : List Nat} (h : xs = ys) : sameB na na xs ys = true := by unfold sameB; rw [decide_eq_true h]; cases na <;> rfl
set_option maxHeartbeats 1000000 in
theorem ok_r2_SameInt {na nb : Bool} {xs ys : List Nat} (hl : xs.length ≤ 2147483648) {b : Bool} (hb : sameB na nb xs ys = b) : CallOK Tryz.prog 17 [dI na xs, dI nb ys] (.one (dB b)) := by
  subst hb
  by_cases hn : na = nb
  · subst hn
    by_cases hxy : xs.length = ys.length
    · cases na
      · refine callOK_of TT_ok mixT Tryz.func17 rfl rfl (Nat.le_of_ble_eq_true rfl) ?_
        repeat refine r_seq (T := TT) ?_
        refine r_region (T := TT) rfl ?_
        repeat (first | refine r_op rfl rfl rfl rfl ?_ | refine r_skip rfl rfl rfl ?_)
        try refine .done ?_
        repeat refine r_seq (T := TT) ?_
        refine r_region (T := TT) rfl ?_
        iterate 12 (first | refine r_op rfl rfl rfl rfl ?_ | refine r_skip rfl rfl rfl ?_)
        refine r_eq (v' := .bool false) rfl rfl rfl rfl ?_ ?_
        · exact congrArg Value.bool ((by simp [hxy]))
        repeat (first | refine r_op rfl rfl rfl rfl ?_ | refine r_skip rfl rfl rfl ?_ | refine .done ?_ | refine r_seq (T := TT) ?_ | refine r_region (T := TT) rfl ?_ | refine r_block (T := TT) ?_ | refine r_then (T := TT) rfl ?_ | refine r_else (T := TT) rfl ?_)
        refine r_loop Nat (fun j => j ≤ xs.length ∧ ∀ i, i < j → xs[i]? = ys[i]?) (fun j => ⟨[(2, .box 0 0), (3, .box 1 0), (5, .d (dN .i64 j))], [(0, some (aI false xs)), (1, some (aI false ys))]⟩) (fun j => xs.length - j) 0 ⟨Nat.zero_le _, fun i h => absurd h (Nat.not_lt_zero _)⟩ (weak ⟨rfl, rfl, rfl, trivial⟩ ⟨rfl, rfl, trivial⟩ rfl) ?_
        rintro j ⟨hj, hall⟩
        repeat (first | refine r_op rfl rfl rfl rfl ?_ | refine r_skip rfl rfl rfl ?_ | refine .done ?_ | refine r_seq (T := TT) ?_ | refine r_region (T := TT) rfl ?_ | refine r_block (T := TT) ?_ | refine r_then (T := TT) rfl ?_ | refine r_else (T := TT) rfl ?_)
        refine r_cond rfl (fun h => ?_) (fun h => ?_)
        · have hlt : j < xs.length := by have := of_decide_eq_true h; omega
          have hlt' : j < ys.length := by omega
          repeat (first | refine r_op rfl rfl rfl rfl ?_ | refine r_skip rfl rfl rfl ?_ | refine .done ?_ | refine r_seq (T := TT) ?_ | refine r_region (T := TT) rfl ?_ | refine r_block (T := TT) ?_ | refine r_then (T := TT) rfl ?_ | refine r_else (T := TT) rfl ?_)
          refine r_idx (cs' := [AV.val (W32 xs[j])]) hlt (aW_at (by simp [hlt])) (Nat.lt_succ_self 0) rfl rfl rfl rfl rfl rfl rfl rfl ?_
          repeat (first | refine r_op rfl rfl rfl rfl ?_ | refine r_skip rfl rfl rfl ?_ | refine .done ?_ | refine r_seq (T := TT) ?_ | refine r_region (T := TT) rfl ?_ | refine r_block (T := TT) ?_ | refine r_then (T := TT) rfl ?_ | refine r_else (T := TT) rfl ?_)
          refine r_idx (cs' := [AV.val (W32 ys[j])]) hlt' (aW_at (by simp [hlt'])) (Nat.lt_succ_self 0) rfl rfl rfl rfl rfl rfl rfl rfl ?_
          repeat (first | refine r_op rfl rfl rfl rfl ?_ | refine r_skip rfl rfl rfl ?_ | refine .done ?_ | refine r_seq (T := TT) ?_ | refine r_region (T := TT) rfl ?_ | refine r_block (T := TT) ?_ | refine r_then (T := TT) rfl ?_ | refine r_else (T := TT) rfl ?_)
          refine r_cond rfl (fun h2 => ?_) (fun h2 => ?_)
          · repeat (first | refine r_op rfl rfl rfl rfl ?_ | refine r_skip rfl rfl rfl ?_ | refine .done ?_ | refine r_seq (T := TT) ?_ | refine r_region (T := TT) rfl ?_ | refine r_block (T := TT) ?_ | refine r_then (T := TT) rfl ?_ | refine r_else (T := TT) rfl ?_)
            have hne : xs[j] ≠ ys[j] := fun e => by rw [e] at h2; simp at h2
            rw [sameB_ne (fun e => hne (by subst e; rfl))]
            exact r_fin (T := TT) rfl rfl
          · have heq : xs[j] = ys[j] := by simp at h2; omega
            repeat (first | refine r_op rfl rfl rfl rfl ?_ | refine r_skip rfl rfl rfl ?_ | refine .done ?_ | refine r_seq (T := TT) ?_ | refine r_region (T := TT) rfl ?_ | refine r_block (T := TT) ?_ | refine r_then (T := TT) rfl ?_ | refine r_else (T := TT) rfl ?_)
            refine ⟨j + 1, ⟨hlt, fun i hi => ?_⟩, by omega, weak ⟨rfl, rfl, ?_, trivial⟩ ⟨rfl, rfl, trivial⟩ rfl⟩
            · rcases Nat.lt_succ_iff_lt_or_eq.1 hi with h3 | rfl
              · exact hall i h3
              · rw [List.getElem?_eq_getElem hlt, List.getElem?_eq_getElem hlt', heq]
            · exact tv_i64 (by omega) (by omega)
        · have hge : j = xs.length := by have := of_decide_eq_false h; omega
          refine r_exit ?_
          repeat (first | refine r_op rfl rfl rfl rfl ?_ | refine r_skip rfl rfl rfl ?_ | refine .done ?_ | refine r_seq (T := TT) ?_ | refine r_region (T := TT) rfl ?_ | refine r_block (T := TT) ?_ | refine r_then (T := TT) rfl ?_ | refine r_else (T := TT) rfl ?_)
          have he : xs = ys := by
            apply List.ext_getElem? fun i => ?_
            by_cases hi : i < xs.length
            · exact hall i (by omega)
            · rw [List.getElem?_eq_none (by omega), List.getElem?_eq_none (by omega)]
          rw [sameB_eq he]
          exact r_fin (T := TT) rfl rfl
      · refine callOK_of TT_ok mixT Tryz.func17 rfl rfl (Nat.le_of_ble_eq_true rfl) ?_
        repeat refine r_seq (T := TT) ?_
        refine r_region (T := TT) rfl ?_
        repeat (first | refine r_op rfl rfl rfl rfl ?_ | refine r_skip rfl rfl rfl ?_)
        try refine .done ?_
        repeat refine r_seq (T := TT) ?_
        refine r_region (T := TT) rfl ?_
        iterate 12 (first | refine r_op rfl rfl rfl rfl ?_ | refine r_skip rfl rfl rfl ?_)
        refine r_eq (v' := .bool false) rfl rfl rfl rfl ?_ ?_
        · exact congrArg Value.bool ((by simp [hxy]))
        repeat (first | refine r_op rfl rfl rfl rfl ?_ | refine r_skip rfl rfl rfl ?_ | refine .done ?_ | refine r_seq (T := TT) ?_ | refine r_region (T := TT) rfl ?_ | refine r_block (T := TT) ?_ | refine r_then (T := TT) rfl ?_ | refine r_else (T := TT) rfl ?_)
        refine r_loop Nat (fun j => j ≤ xs.length ∧ ∀ i, i < j → xs[i]? = ys[i]?) (fun j => ⟨[(2, .box 0 0), (3, .box 1 0), (5, .d (dN .i64 j))], [(0, some (aI true xs)), (1, some (aI true ys))]⟩) (fun j => xs.length - j) 0 ⟨Nat.zero_le _, fun i h => absurd h (Nat.not_lt_zero _)⟩ (weak ⟨rfl, rfl, rfl, trivial⟩ ⟨rfl, rfl, trivial⟩ rfl) ?_
        rintro j ⟨hj, hall⟩
        repeat (first | refine r_op rfl rfl rfl rfl ?_ | refine r_skip rfl rfl rfl ?_ | refine .done ?_ | refine r_seq (T := TT) ?_ | refine r_region (T := TT) rfl ?_ | refine r_block (T := TT) ?_ | refine r_then (T := TT) rfl ?_ | refine r_else (T := TT) rfl ?_)
        refine r_cond rfl (fun h => ?_) (fun h => ?_)
        · have hlt : j < xs.length := by have := of_decide_eq_true h; omega
          have hlt' : j < ys.length := by omega
          repeat (first | refine r_op rfl rfl rfl rfl ?_ | refine r_skip rfl rfl rfl ?_ | refine .done ?_ | refine r_seq (T := TT) ?_ | refine r_region (T := TT) rfl ?_ | refine r_block (T := TT) ?_ | refine r_then (T := TT) rfl ?_ | refine r_else (T := TT) rfl ?_)
          refine r_idx (cs' := [AV.val (W32 xs[j])]) hlt (aW_at (by simp [hlt])) (Nat.lt_succ_self 0) rfl rfl rfl rfl rfl rfl rfl rfl ?_
          repeat (first | refine r_op rfl rfl rfl rfl ?_ | refine r_skip rfl rfl rfl ?_ | refine .done ?_ | refine r_seq (T := TT) ?_ | refine r_region (T := TT) rfl ?_ | refine r_block (T := TT) ?_ | refine r_then (T := TT) rfl ?_ | refine r_else (T := TT) rfl ?_)
          refine r_idx (cs' := [AV.val (W32 ys[j])]) hlt' (aW_at (by simp [hlt'])) (Nat.lt_succ_self 0) rfl rfl rfl rfl rfl rfl rfl rfl ?_
          repeat (first | refine r_op rfl rfl rfl rfl ?_ | refine r_skip rfl rfl rfl ?_ | refine .done ?_ | refine r_seq (T := TT) ?_ | refine r_region (T := TT) rfl ?_ | refine r_block (T := TT) ?_ | refine r_then (T := TT) rfl ?_ | refine r_else (T := TT) rfl ?_)
          refine r_cond rfl (fun h2 => ?_) (fun h2 => ?_)
          · repeat (first | refine r_op rfl rfl rfl rfl ?_ | refine r_skip rfl rfl rfl ?_ | refine .done ?_ | refine r_seq (T := TT) ?_ | refine r_region (T := TT) rfl ?_ | refine r_block (T := TT) ?_ | refine r_then (T := TT) rfl ?_ | refine r_else (T := TT) rfl ?_)
            have hne : xs[j] ≠ ys[j] := fun e => by rw [e] at h2; simp at h2
            rw [sameB_ne (fun e => hne (by subst e; rfl))]
            exact r_fin (T := TT) rfl rfl
          · have heq : xs[j] = ys[j] := by simp at h2; omega
            repeat (first | refine r_op rfl rfl rfl rfl ?_ | refine r_skip rfl rfl rfl ?_ | refine .done ?_ | refine r_seq (T := TT) ?_ | refine r_region (T := TT) rfl ?_ | refine r_block (T := TT) ?_ | refine r_then (T := TT) rfl ?_ | refine r_else (T := TT) rfl ?_)
            refine ⟨j + 1, ⟨hlt, fun i hi => ?_⟩, by omega, weak ⟨rfl, rfl, ?_, trivial⟩ ⟨rfl, rfl, trivial⟩ rfl⟩
            · rcases Nat.lt_succ_iff_lt_or_eq.1 hi with h3 | rfl
              · exact hall i h3
              · rw [List.getElem?_eq_getElem hlt, List.getElem?_eq_getElem hlt', heq]
            · exact tv_i64 (by omega) (by omega)
        · have hge : j = xs.length := by have := of_decide_eq_false h; omega
          refine r_exit ?_
          repeat (first | refine r_op rfl rfl rfl rfl ?_ | refine r_skip rfl rfl rfl ?_ | refine .done ?_ | refine r_seq (T := TT) ?_ | refine r_region (T := TT) rfl ?_ | refine r_block (T := TT) ?_ | refine r_then (T := TT) rfl ?_ | refine r_else (T := TT) rfl ?_)
          have he : xs = ys := by
            apply List.ext_getElem? fun i => ?_
            by_cases hi : i < xs.length
            · exact hall i (by omega)
            · rw [List.getElem?_eq_none (by omega), List.getElem?_eq_none (by omega)]
          rw [sameB_eq he]
          exact r_fin (T := TT) rfl rfl
    · rw [sameB_ne (fun e => hxy (by rw [e]))]
      cases na
      · refine callOK_of TT_ok mixT Tryz.func17 rfl rfl (Nat.le_of_ble_eq_true rfl) ?_
        repeat refine r_seq (T := TT) ?_
        refine r_region (T := TT) rfl ?_
        repeat (first | refine r_op rfl rfl rfl rfl ?_ | refine r_skip rfl rfl rfl ?_)
        try refine .done ?_
        repeat refine r_seq (T := TT) ?_
        refine r_region (T := TT) rfl ?_
        iterate 12 (first | refine r_op rfl rfl rfl rfl ?_ | refine r_skip rfl rfl rfl ?_)
        refine r_eq (v' := .bool true) rfl rfl rfl rfl ?_ ?_
        · exact congrArg Value.bool ((by simp; omega))
        repeat (first | refine r_op rfl rfl rfl rfl ?_ | refine r_skip rfl rfl rfl ?_ | refine .done ?_ | refine r_seq (T := TT) ?_ | refine r_region (T := TT) rfl ?_ | refine r_block (T := TT) ?_ | refine r_then (T := TT) rfl ?_ | refine r_else (T := TT) rfl ?_)
        exact r_fin (T := TT) rfl rfl
      · refine callOK_of TT_ok mixT Tryz.func17 rfl rfl (Nat.le_of_ble_eq_true rfl) ?_
        repeat refine r_seq (T := TT) ?_
        refine r_region (T := TT) rfl ?_
        repeat (first | refine r_op rfl rfl rfl rfl ?_ | refine r_skip rfl rfl rfl ?_)
        try refine .done ?_
        repeat refine r_seq (T := TT) ?_
        refine r_region (T := TT) rfl ?_
        iterate 12 (first | refine r_op rfl rfl rfl rfl ?_ | refine r_skip rfl rfl rfl ?_)
        refine r_eq (v' := .bool true) rfl rfl rfl rfl ?_ ?_
        · exact congrArg Value.bool ((by simp; omega))
        repeat (first | refine r_op rfl rfl rfl rfl ?_ | refine r_skip rfl rfl rfl ?_ | refine .done ?_ | refine r_seq (T := TT) ?_ | refine r_region (T := TT) rfl ?_ | refine r_block (T := TT) ?_ | refine r_then (T := TT) rfl ?_ | refine r_else (T := TT) rfl ?_)
        exact r_fin (T := TT) rfl rfl
  · have e : sameB na nb xs ys = false := by unfold sameB; cases na <;> cases nb <;> first | rfl | exact absurd rfl hn
    rw [e]
    cases na <;> cases nb
    · exact absurd rfl hn
    · refine callOK_of TT_ok mixT Tryz.func17 rfl rfl (Nat.le_of_ble_eq_true rfl) ?_
      repeat (first | refine r_op rfl rfl rfl rfl ?_ | refine r_skip rfl rfl rfl ?_ | refine .done ?_ | refine r_seq (T := TT) ?_ | refine r_region (T := TT) rfl ?_ | refine r_block (T := TT) ?_ | refine r_then (T := TT) rfl ?_ | refine r_else (T := TT) rfl ?_)
      exact r_fin (T := TT) rfl rfl
    · refine callOK_of TT_ok mixT Tryz.func17 rfl rfl (Nat.le_of_ble_eq_true rfl) ?_
      repeat (first | refine r_op rfl rfl rfl rfl ?_ | refine r_skip rfl rfl rfl ?_ | refine .done ?_ | refine r_seq (T := TT) ?_ | refine r_region (T := TT) rfl ?_ | refine r_block (T := TT) ?_ | refine r_then (T := TT) rfl ?_ | refine r_else (T := TT) rfl ?_)
      exact r_fin (T := TT) rfl rfl
    · exact absurd rfl hn
theorem okz_r2_SameInt {a b : Int} (h : FitZ a) {t : Bool} (ht : decide (a = b) = t) : CallOK Tryz.prog 17 [dZ a, dZ b] (.one (dB t)) := ok_r2_SameInt h (by rw [sameB_int, ht])
theorem rat_ext_iff {a b : Rat} : decide (a = b) = (decide (a.num = b.num) && decide ((a.den : Int) = (b.den : Int))) := by
  by_cases h : a = b
  · subst h; simp
  · rw [decide_eq_false h]
    by_cases h1 : a.num = b.num
    · have : ¬ (a.den : Int) = b.den := fun e => h (Rat.ext h1 (by omega))
      simp [h1]; omega
    · simp [h1]
theorem ok_r2_Same {k : Nat} {a b : Rat} (h : SzQ k a) (hk : k ≤ 2147483648) {t : Bool} (ht : decide (a = b) = t) : CallOK Tryz.prog 25 [dQ a, dQ b] (.one (dB t)) := by
  rw [rat_ext_iff] at ht
  subst ht
  by_cases h1 : a.num = b.num
  · rw [decide_eq_true h1, Bool.true_and]
    refine callOK_of TT_ok mixT Tryz.func25 rfl rfl (Nat.le_of_ble_eq_true rfl) ?_
    repeat (first | refine r_op rfl rfl rfl rfl ?_ | refine r_skip rfl rfl rfl ?_ | refine .done ?_ | refine r_seq (T := TT) ?_ | refine r_region (T := TT) rfl ?_ | refine r_block (T := TT) ?_ | refine r_then (T := TT) rfl ?_ | refine r_else (T := TT) rfl ?_)
    refine r_call (okz_r2_SameInt (h.1.fit hk) (decide_eq_true h1)) rfl rfl rfl rfl rfl rfl rfl ?_
    repeat (first | refine r_op rfl rfl rfl rfl ?_ | refine r_skip rfl rfl rfl ?_ | refine .done ?_ | refine r_seq (T := TT) ?_ | refine r_region (T := TT) rfl ?_ | refine r_block (T := TT) ?_ | refine r_then (T := TT) rfl ?_ | refine r_else (T := TT) rfl ?_)
    refine r_call (okz_r2_SameInt (h.2.fit hk) rfl) rfl rfl rfl rfl rfl rfl rfl ?_
    repeat (first | refine r_op rfl rfl rfl rfl ?_ | refine r_skip rfl rfl rfl ?_ | refine .done ?_ | refine r_seq (T := TT) ?_ | refine r_region (T := TT) rfl ?_ | refine r_block (T := TT) ?_ | refine r_then (T := TT) rfl ?_ | refine r_else (T := TT) rfl ?_)
    exact r_fin (T := TT) rfl rfl
  · rw [decide_eq_false h1, Bool.false_and]
    refine callOK_of TT_ok mixT Tryz.func25 rfl rfl (Nat.le_of_ble_eq_true rfl) ?_
    repeat (first | refine r_op rfl rfl rfl rfl ?_ | refine r_skip rfl rfl rfl ?_ | refine .done ?_ | refine r_seq (T := TT) ?_ | refine r_region (T := TT) rfl ?_ | refine r_block (T := TT) ?_ | refine r_then (T := TT) rfl ?_ | refine r_else (T := TT) rfl ?_)
    refine r_call (okz_r2_SameInt (h.1.fit hk) (decide_eq_false h1)) rfl rfl rfl rfl rfl rfl rfl ?_
    repeat (first | refine r_op rfl rfl rfl rfl ?_ | refine r_skip rfl rfl rfl ?_ | refine .done ?_ | refine r_seq (T := TT) ?_ | refine r_region (T := TT) rfl ?_ | refine r_block (T := TT) ?_ | refine r_then (T := TT) rfl ?_ | refine r_else (T := TT) rfl ?_)
    exact r_fin (T := TT) rfl rfl
theorem fmt_len {z : Int} {k : Nat} (h : Sz k z) : (fmt z).length ≤ 10 * k + 2 := by
  have h1 : (dec z.natAbs).length ≤ 10 * k := dec_len _ _ (Nat.lt_of_lt_of_le h (by rw [Nat.pow_mul]; exact Nat.pow_le_pow_left (by decide) _))
  unfold fmt
  split
  · simp
  · rw [List.length_append]
    have : (if z < 0 then [45] else [] : List UInt8).length ≤ 1 := by split <;> simp
    omega
theorem fmtQ_cat {q : Rat} (h : ¬ q.den = 1) : fmtQ q = (fmt q.num ++ [47]) ++ fmt q.den := by
  unfold fmtQ; rw [if_neg h, List.append_assoc]; rfl
theorem ok_q_Format {k : Nat} {q : Rat} (h : SzQ k q) (hk : k ≤ 1000) {l : List UInt8} (hl : fmtQ q = l) : CallOK Tryz.prog 29 [dQ q] (.one (dL l)) := by
  subst hl
  have h1 := fmt_len h.1
  have h2 := fmt_len h.2
  by_cases hd : q.den = 1
  · have e : fmtQ q = fmt q.num := by unfold fmtQ; rw [if_pos hd]
    rw [e]
    refine callOK_of TT_ok mixT Tryz.func29 rfl rfl (Nat.le_of_ble_eq_true rfl) ?_
    repeat (first | refine r_op rfl rfl rfl rfl ?_ | refine r_skip rfl rfl rfl ?_ | refine .done ?_ | refine r_seq (T := TT) ?_ | refine r_region (T := TT) rfl ?_ | refine r_block (T := TT) ?_ | refine r_then (T := TT) rfl ?_ | refine r_else (T := TT) rfl ?_)
    refine r_call (okz_i_Format (Nat.le_trans h.1.digs hk)) rfl rfl rfl rfl rfl rfl rfl ?_
    repeat (first | refine r_op rfl rfl rfl rfl ?_ | refine r_skip rfl rfl rfl ?_ | refine .done ?_ | refine r_seq (T := TT) ?_ | refine r_region (T := TT) rfl ?_ | refine r_block (T := TT) ?_ | refine r_then (T := TT) rfl ?_ | refine r_else (T := TT) rfl ?_)
    refine r_call (okz_q_isOne (one_t hd)) rfl rfl rfl rfl rfl rfl rfl ?_
    repeat (first | refine r_op rfl rfl rfl rfl ?_ | refine r_skip rfl rfl rfl ?_ | refine .done ?_ | refine r_seq (T := TT) ?_ | refine r_region (T := TT) rfl ?_ | refine r_block (T := TT) ?_ | refine r_then (T := TT) rfl ?_ | refine r_else (T := TT) rfl ?_)
    exact r_fin (T := TT) rfl rfl
  · rw [fmtQ_cat hd]
    refine callOK_of TT_ok mixT Tryz.func29 rfl rfl (Nat.le_of_ble_eq_true rfl) ?_
    repeat (first | refine r_op rfl rfl rfl rfl ?_ | refine r_skip rfl rfl rfl ?_ | refine .done ?_ | refine r_seq (T := TT) ?_ | refine r_region (T := TT) rfl ?_ | refine r_block (T := TT) ?_ | refine r_then (T := TT) rfl ?_ | refine r_else (T := TT) rfl ?_)
    refine r_call (okz_i_Format (Nat.le_trans h.1.digs hk)) rfl rfl rfl rfl rfl rfl rfl ?_
    repeat (first | refine r_op rfl rfl rfl rfl ?_ | refine r_skip rfl rfl rfl ?_ | refine .done ?_ | refine r_seq (T := TT) ?_ | refine r_region (T := TT) rfl ?_ | refine r_block (T := TT) ?_ | refine r_then (T := TT) rfl ?_ | refine r_else (T := TT) rfl ?_)
    refine r_call (okz_q_isOne (one_f hd)) rfl rfl rfl rfl rfl rfl rfl ?_
    repeat (first | refine r_op rfl rfl rfl rfl ?_ | refine r_skip rfl rfl rfl ?_ | refine .done ?_ | refine r_seq (T := TT) ?_ | refine r_region (T := TT) rfl ?_ | refine r_block (T := TT) ?_ | refine r_then (T := TT) rfl ?_ | refine r_else (T := TT) rfl ?_)
    refine r_bin rfl rfl rfl rfl rfl rfl rfl (binV_cat (a := fmt q.num) (b := [47]) (by simp; omega)) ?_
    repeat (first | refine r_op rfl rfl rfl rfl ?_ | refine r_skip rfl rfl rfl ?_ | refine .done ?_ | refine r_seq (T := TT) ?_ | refine r_region (T := TT) rfl ?_ | refine r_block (T := TT) ?_ | refine r_then (T := TT) rfl ?_ | refine r_else (T := TT) rfl ?_)
    refine r_call (okz_i_Format (Nat.le_trans h.2.digs hk)) rfl rfl rfl rfl rfl rfl rfl ?_
    refine r_bin rfl rfl rfl rfl rfl rfl rfl (binV_cat (a := fmt q.num ++ [47]) (b := fmt q.den) (by simp; omega)) ?_
    repeat (first | refine r_op rfl rfl rfl rfl ?_ | refine r_skip rfl rfl rfl ?_ | refine .done ?_ | refine r_seq (T := TT) ?_ | refine r_region (T := TT) rfl ?_ | refine r_block (T := TT) ?_ | refine r_then (T := TT) rfl ?_ | refine r_else (T := TT) rfl ?_)
    exact r_fin (T := TT) rfl rfl
theorem le_sq (r : Nat) : r ≤ r * r := by
  rcases Nat.eq_zero_or_pos r with h | h
  · subst h; exact Nat.le_refl _
  · exact Nat.le_mul_of_pos_left _ h
theorem ok_q_root {z : Int} {r : Nat} {b : Bool} (hz : 0 ≤ z) (hl : (digs z.natAbs).length ≤ 2147483) (h1 : r * r ≤ z.natAbs) (h2 : z.natAbs < (r + 1) * (r + 1)) (hb : decide (((r : Int) * r) = z) = b) : CallOK Tryz.prog 63 [dZ z] (.tup [dZ r, dB b]) := by
  have hr : FitZ r := Nat.le_trans (digs_len_mono (Nat.le_trans (show (r : Int).natAbs ≤ r * r by rw [Int.natAbs_natCast]; exact le_sq r) h1)) (by omega)
  obtain ⟨o, ho⟩ : ∃ o, ordI ((r : Int) * r) z = o := ⟨_, rfl⟩
  have hob : (o == 0) = b := by
    rw [← hb, ← ho]
    unfold ordI
    by_cases h : ((r : Int) * r) = z
    · rw [if_neg (by omega), if_neg (by omega), decide_eq_true h]; rfl
    · rw [decide_eq_false h]
      split
      · rfl
      · split
        · rfl
        · omega
  have hc : CallOK Tryz.prog 86 [dZ ((r : Int) * r), dZ z] (.one (dN .i64 o)) := by have := okz_i_Cmp ((r : Int) * r) z; rwa [ho] at this
  refine callOK_of TT_ok mixT Tryz.func63 rfl rfl (Nat.le_of_ble_eq_true rfl) ?_
  repeat (first | refine r_op rfl rfl rfl rfl ?_ | refine r_skip rfl rfl rfl ?_ | refine .done ?_ | refine r_seq (T := TT) ?_ | refine r_region (T := TT) rfl ?_ | refine r_block (T := TT) ?_ | refine r_then (T := TT) rfl ?_ | refine r_else (T := TT) rfl ?_)
  refine r_call (okz_i_Sqrt hz hl h1 h2) rfl rfl rfl rfl rfl rfl rfl ?_
  repeat (first | refine r_op rfl rfl rfl rfl ?_ | refine r_skip rfl rfl rfl ?_ | refine .done ?_ | refine r_seq (T := TT) ?_ | refine r_region (T := TT) rfl ?_ | refine r_block (T := TT) ?_ | refine r_then (T := TT) rfl ?_ | refine r_else (T := TT) rfl ?_)
  refine r_call (okz_i_Mul hr hr) rfl rfl rfl rfl rfl rfl rfl ?_
  repeat (first | refine r_op rfl rfl rfl rfl ?_ | refine r_skip rfl rfl rfl ?_ | refine .done ?_ | refine r_seq (T := TT) ?_ | refine r_region (T := TT) rfl ?_ | refine r_block (T := TT) ?_ | refine r_then (T := TT) rfl ?_ | refine r_else (T := TT) rfl ?_)
  refine r_call (hc) rfl rfl rfl rfl rfl rfl rfl ?_
  cases b
  · refine r_eq (v' := .bool false) rfl rfl rfl rfl ?_ ?_
    · exact congrArg Value.bool (hob)
    repeat (first | refine r_op rfl rfl rfl rfl ?_ | refine r_skip rfl rfl rfl ?_ | refine .done ?_ | refine r_seq (T := TT) ?_ | refine r_region (T := TT) rfl ?_ | refine r_block (T := TT) ?_ | refine r_then (T := TT) rfl ?_ | refine r_else (T := TT) rfl ?_)
    exact r_fin (T := TT) rfl rfl
  · refine r_eq (v' := .bool true) rfl rfl rfl rfl ?_ ?_
    · exact congrArg Value.bool (hob)
    repeat (first | refine r_op rfl rfl rfl rfl ?_ | refine r_skip rfl rfl rfl ?_ | refine .done ?_ | refine r_seq (T := TT) ?_ | refine r_region (T := TT) rfl ?_ | refine r_block (T := TT) ?_ | refine r_then (T := TT) rfl ?_ | refine r_else (T := TT) rfl ?_)
    exact r_fin (T := TT) rfl rfl
end Go.Proofs.YtecjnnhkbmkemaaGreatDoor
namespace Go.Proofs.YtecjnnhkbmkemaaGreatDoor
open Go.RowKit
theorem dZ0_eq : dZ 0 = .agg [.val (.bool false), .sl 0 []] := by unfold dZ; rw [e0]
def digB (l : List UInt8) : Bool := l.all isDb && !decide (l = [])
theorem digB_iff {l : List UInt8} : digB l = true ↔ (∀ c ∈ l, isD c) ∧ l ≠ [] := by
  unfold digB
  simp [List.all_eq_true, isDb_iff]
theorem ok_q_digits {l : List UInt8} (hl : l.length ≤ 1000000000) {b : Bool} (hb : digB l = b) : CallOK Tryz.prog 143 [dL l] (.one (dB b)) := by
  subst hb
  have hsz := Bs_size l
  refine callOK_of TT_ok mixT Tryz.func143 rfl rfl (Nat.le_of_ble_eq_true rfl) ?_
  repeat (first | refine r_op rfl rfl rfl rfl ?_ | refine r_skip rfl rfl rfl ?_ | refine .done ?_ | refine r_seq (T := TT) ?_ | refine r_region (T := TT) rfl ?_ | refine r_block (T := TT) ?_ | refine r_then (T := TT) rfl ?_ | refine r_else (T := TT) rfl ?_)
  refine r_s2b TT_ok (l := l) (by omega) rfl rfl rfl rfl rfl rfl rfl rfl rfl rfl rfl ?_
  repeat (first | refine r_op rfl rfl rfl rfl ?_ | refine r_skip rfl rfl rfl ?_ | refine .done ?_ | refine r_seq (T := TT) ?_ | refine r_region (T := TT) rfl ?_ | refine r_block (T := TT) ?_ | refine r_then (T := TT) rfl ?_ | refine r_else (T := TT) rfl ?_)
  refine r_loop Nat (fun j => j ≤ l.length ∧ ∀ i c, i < j → l[i]? = some c → isD c) (fun j => ⟨[(0, .d (dL l)), (6, .d (dBs l)), (7, .d (dN .i64 l.length)), (8, .d (dN .i64 j))], []⟩) (fun j => l.length - j) 0 ⟨Nat.zero_le _, fun i c h => absurd h (Nat.not_lt_zero _)⟩ (weak ⟨rfl, rfl, rfl, rfl, trivial⟩ trivial rfl) ?_
  rintro j ⟨hj, hall⟩
  repeat (first | refine r_op rfl rfl rfl rfl ?_ | refine r_skip rfl rfl rfl ?_ | refine .done ?_ | refine r_seq (T := TT) ?_ | refine r_region (T := TT) rfl ?_ | refine r_block (T := TT) ?_ | refine r_then (T := TT) rfl ?_ | refine r_else (T := TT) rfl ?_)
  refine r_cond rfl (fun h => ?_) (fun h => ?_)
  · have hlt : j < l.length := by have := of_decide_eq_true h; omega
    obtain ⟨c, hc⟩ : ∃ c, l[j] = c := ⟨_, rfl⟩
    have hcj : l[j]? = some c := by rw [List.getElem?_eq_getElem hlt, hc]
    repeat (first | refine r_op rfl rfl rfl rfl ?_ | refine r_skip rfl rfl rfl ?_ | refine .done ?_ | refine r_seq (T := TT) ?_ | refine r_region (T := TT) rfl ?_ | refine r_block (T := TT) ?_ | refine r_then (T := TT) rfl ?_ | refine r_else (T := TT) rfl ?_)
    refine r_idx (cs' := [AV.val (.int .u8 c.toNat)]) hlt (aBs_at hcj) (Nat.lt_succ_self 0) rfl rfl rfl rfl rfl rfl rfl rfl ?_
    repeat (first | refine r_op rfl rfl rfl rfl ?_ | refine r_skip rfl rfl rfl ?_ | refine .done ?_)
    repeat refine r_seq (T := TT) ?_
    refine r_region (T := TT) rfl ?_
    iterate 1 (first | refine r_op rfl rfl rfl rfl ?_ | refine r_skip rfl rfl rfl ?_)
    by_cases h1 : c.toNat < 48
    · refine r_eq (v' := .bool true) rfl rfl rfl rfl ?_ ?_
      · exact congrArg Value.bool (decide_eq_true (by omega))
      repeat (first | refine r_op rfl rfl rfl rfl ?_ | refine r_skip rfl rfl rfl ?_ | refine .done ?_ | refine r_seq (T := TT) ?_ | refine r_region (T := TT) rfl ?_ | refine r_block (T := TT) ?_ | refine r_then (T := TT) rfl ?_ | refine r_else (T := TT) rfl ?_)
      rw [show digB l = false by
        cases hd : digB l
        · rfl
        · have := (digB_iff.1 hd).1 c (List.mem_of_getElem? hcj)
          unfold isD at this
          omega]
      exact r_fin (T := TT) rfl rfl
    · refine r_eq (v' := .bool false) rfl rfl rfl rfl ?_ ?_
      · exact congrArg Value.bool (decide_eq_false (by omega))
      iterate 2 (first | refine r_op rfl rfl rfl rfl ?_ | refine r_skip rfl rfl rfl ?_)
      by_cases h2 : 57 < c.toNat
      · refine r_eq (v' := .bool true) rfl rfl rfl rfl ?_ ?_
        · exact congrArg Value.bool (decide_eq_true (by omega))
        repeat (first | refine r_op rfl rfl rfl rfl ?_ | refine r_skip rfl rfl rfl ?_ | refine .done ?_ | refine r_seq (T := TT) ?_ | refine r_region (T := TT) rfl ?_ | refine r_block (T := TT) ?_ | refine r_then (T := TT) rfl ?_ | refine r_else (T := TT) rfl ?_)
        rw [show digB l = false by
          cases hd : digB l
          · rfl
          · have := (digB_iff.1 hd).1 c (List.mem_of_getElem? hcj)
            unfold isD at this
            omega]
        exact r_fin (T := TT) rfl rfl
      · refine r_eq (v' := .bool false) rfl rfl rfl rfl ?_ ?_
        · exact congrArg Value.bool (decide_eq_false (by omega))
        repeat (first | refine r_op rfl rfl rfl rfl ?_ | refine r_skip rfl rfl rfl ?_ | refine .done ?_ | refine r_seq (T := TT) ?_ | refine r_region (T := TT) rfl ?_ | refine r_block (T := TT) ?_ | refine r_then (T := TT) rfl ?_ | refine r_else (T := TT) rfl ?_)
        refine ⟨j + 1, ⟨hlt, fun i c' hi hp => ?_⟩, by omega, weak ⟨rfl, rfl, rfl, ?_, trivial⟩ trivial rfl⟩
        · rcases Nat.lt_succ_iff_lt_or_eq.1 hi with h3 | rfl
          · exact hall i c' h3 hp
          · have : c' = c := by rw [hcj] at hp; exact (Option.some.inj hp).symm
            rw [this]
            unfold isD
            omega
        · exact tv_i64 (by omega) (by omega)
  · have hge : j = l.length := by have := of_decide_eq_false h; omega
    refine r_exit ?_
    repeat refine r_seq (T := TT) ?_
    refine r_region (T := TT) rfl ?_
    iterate 1 (first | refine r_op rfl rfl rfl rfl ?_ | refine r_skip rfl rfl rfl ?_)
    refine r_bin rfl rfl rfl rfl rfl rfl rfl (binV_neS (a := l) (b := [])) ?_
    repeat (first | refine r_op rfl rfl rfl rfl ?_ | refine r_skip rfl rfl rfl ?_ | refine .done ?_ | refine r_seq (T := TT) ?_ | refine r_region (T := TT) rfl ?_ | refine r_block (T := TT) ?_ | refine r_then (T := TT) rfl ?_ | refine r_else (T := TT) rfl ?_)
    have ha : l.all isDb = true := List.all_eq_true.2 fun c hc => isDb_iff.2 (by
      obtain ⟨i, hi⟩ := List.getElem?_of_mem hc
      exact hall i c (by rw [hge]; exact (List.getElem?_eq_some_iff.1 hi).1) hi)
    rw [show digB l = !decide (l = []) by unfold digB; rw [ha]; rfl]
    exact r_fin (T := TT) rfl rfl
theorem pds_all {l : List UInt8} (h : ∀ c ∈ l, isD c) : pneg l = false ∧ pds l = l := by
  have := pds_sg (b := false) (l := l) (fun c r e => h c (by rw [e]; simp))
  simp at this
  exact ⟨this.2, this.1⟩
open Classical in
theorem pz_all {l : List UInt8} (h : ∀ c ∈ l, isD c) (hl : l.length ≤ 65536) : pz l = if okT false l then ((num l : Int), 0) else (0, 2) := by
  obtain ⟨h1, h2⟩ := pds_all h
  by_cases ho : okT false l
  · rw [if_pos ho, pz_ok ⟨hl, by rw [h1, h2]; exact ho⟩, h1, h2]; rfl
  · rw [if_neg ho, pz_bad (fun e => ho (by have := e.2; rwa [h1, h2] at this))]
theorem ok_q_whole {l : List UInt8} (hl : l.length ≤ 65536) (h : okT false l) : CallOK Tryz.prog 113 [dL l] (.tup [dZ (num l), dB true]) := by
  have c1 := okz_i_Parse l
  rw [pz_all (okT_all h) hl, if_pos h] at c1
  refine callOK_of TT_ok mixT Tryz.func113 rfl rfl (Nat.le_of_ble_eq_true rfl) ?_
  repeat (first | refine r_op rfl rfl rfl rfl ?_ | refine r_skip rfl rfl rfl ?_ | refine .done ?_ | refine r_seq (T := TT) ?_ | refine r_region (T := TT) rfl ?_ | refine r_block (T := TT) ?_ | refine r_then (T := TT) rfl ?_ | refine r_else (T := TT) rfl ?_)
  refine r_call (ok_q_digits (b := true) (Nat.le_trans hl (by decide)) (digB_iff.2 ⟨okT_all h, h.1⟩)) rfl rfl rfl rfl rfl rfl rfl ?_
  repeat (first | refine r_op rfl rfl rfl rfl ?_ | refine r_skip rfl rfl rfl ?_ | refine .done ?_ | refine r_seq (T := TT) ?_ | refine r_region (T := TT) rfl ?_ | refine r_block (T := TT) ?_ | refine r_then (T := TT) rfl ?_ | refine r_else (T := TT) rfl ?_)
  refine r_call (c1) rfl rfl rfl rfl rfl rfl rfl ?_
  repeat (first | refine r_op rfl rfl rfl rfl ?_ | refine r_skip rfl rfl rfl ?_ | refine .done ?_ | refine r_seq (T := TT) ?_ | refine r_region (T := TT) rfl ?_ | refine r_block (T := TT) ?_ | refine r_then (T := TT) rfl ?_ | refine r_else (T := TT) rfl ?_)
  exact r_fin (T := TT) rfl rfl
theorem ok_q_wholeN {l : List UInt8} (hl : l.length ≤ 65536) (h : ¬ okT false l) : CallOK Tryz.prog 113 [dL l] (.tup [dZ 0, dB false]) := by
  by_cases hd : digB l = true
  · have c1 := okz_i_Parse l
    rw [pz_all (digB_iff.1 hd).1 hl, if_neg h] at c1
    refine callOK_of TT_ok mixT Tryz.func113 rfl rfl (Nat.le_of_ble_eq_true rfl) ?_
    repeat (first | refine r_op rfl rfl rfl rfl ?_ | refine r_skip rfl rfl rfl ?_ | refine .done ?_ | refine r_seq (T := TT) ?_ | refine r_region (T := TT) rfl ?_ | refine r_block (T := TT) ?_ | refine r_then (T := TT) rfl ?_ | refine r_else (T := TT) rfl ?_)
    refine r_call (ok_q_digits (b := true) (Nat.le_trans hl (by decide)) hd) rfl rfl rfl rfl rfl rfl rfl ?_
    repeat (first | refine r_op rfl rfl rfl rfl ?_ | refine r_skip rfl rfl rfl ?_ | refine .done ?_ | refine r_seq (T := TT) ?_ | refine r_region (T := TT) rfl ?_ | refine r_block (T := TT) ?_ | refine r_then (T := TT) rfl ?_ | refine r_else (T := TT) rfl ?_)
    refine r_call (c1) rfl rfl rfl rfl rfl rfl rfl ?_
    repeat (first | refine r_op rfl rfl rfl rfl ?_ | refine r_skip rfl rfl rfl ?_ | refine .done ?_ | refine r_seq (T := TT) ?_ | refine r_region (T := TT) rfl ?_ | refine r_block (T := TT) ?_ | refine r_then (T := TT) rfl ?_ | refine r_else (T := TT) rfl ?_)
    exact r_fin (T := TT) rfl rfl
  · rw [dZ0_eq]
    refine callOK_of TT_ok mixT Tryz.func113 rfl rfl (Nat.le_of_ble_eq_true rfl) ?_
    repeat (first | refine r_op rfl rfl rfl rfl ?_ | refine r_skip rfl rfl rfl ?_ | refine .done ?_ | refine r_seq (T := TT) ?_ | refine r_region (T := TT) rfl ?_ | refine r_block (T := TT) ?_ | refine r_then (T := TT) rfl ?_ | refine r_else (T := TT) rfl ?_)
    refine r_call (ok_q_digits (b := false) (Nat.le_trans hl (by decide)) (by simpa using hd)) rfl rfl rfl rfl rfl rfl rfl ?_
    repeat (first | refine r_op rfl rfl rfl rfl ?_ | refine r_skip rfl rfl rfl ?_ | refine .done ?_ | refine r_seq (T := TT) ?_ | refine r_region (T := TT) rfl ?_ | refine r_block (T := TT) ?_ | refine r_then (T := TT) rfl ?_ | refine r_else (T := TT) rfl ?_)
    exact r_fin (T := TT) rfl rfl
theorem pow10_lt (k : Nat) : (max 1 (10 : Int).natAbs) ^ k < 4294967296 ^ (k + 1) := by
  show 10 ^ k < _
  have h1 : (10 : Nat) ^ k ≤ 4294967296 ^ k := Nat.pow_le_pow_left (by decide) _
  have h2 : 0 < (4294967296 : Nat) ^ k := Nat.pow_pos (by decide)
  rw [Nat.pow_succ]
  omega
theorem sz_pow10 (k : Nat) : Sz (k + 1) ((10 : Int) ^ k) := by
  unfold Sz
  rw [Int.natAbs_pow]
  exact pow10_lt k
theorem fit10 : FitZ 10 := .small (by decide)
theorem Sz.of_pow {k j e : Nat} {y : Int} (h : Sz k y) (hj : k + e ≤ j) : Sz j (y * 10 ^ e) := by
  refine Sz.mono (j := k + e) ?_ hj
  unfold Sz at *
  rw [Int.natAbs_mul, Int.natAbs_pow, Nat.pow_add]
  have h1 : (10 : Int).natAbs ^ e ≤ 4294967296 ^ e := Nat.pow_le_pow_left (by decide) _
  exact Nat.lt_of_le_of_lt (Nat.mul_le_mul_left _ h1) (Nat.mul_lt_mul_of_pos_right h (Nat.pow_pos (by decide)))
theorem pow_e (e : Nat) (he : e ≤ 4096) : ∃ t : Int, (∀ y : Int, ∀ m, e ≤ m → y * t * 10 ^ (m - e) = y * 10 ^ m) ∧ (∀ (k j : Nat) (y : Int), Sz k y → k + e ≤ j → Sz j (y * t)) ∧ FitZ t ∧ (10 : Int) ^ e = t ∧ CallOK Tryz.prog 163 [dZ 10, dN .i64 e] (.tup [dZ t, dN .i64 0]) := by
  refine ⟨10 ^ e, fun y m hm => ?_, fun k j y h hj => h.of_pow hj, (sz_pow10 e).fit (by omega), rfl, okz_i_Pow he (by omega) (pow10_lt e) fit10 rfl⟩
  rw [Int.mul_assoc, ← Int.pow_add, show e + (m - e) = m by omega]
theorem ok_q_power {n : Nat} (hn : n ≤ 65536) {z : Int} (hz : (10 : Int) ^ n = z) : CallOK Tryz.prog 146 [dN .i64 n] (.one (dZ z)) := by
  refine callOK_of TT_ok mixT Tryz.func146 rfl rfl (Nat.le_of_ble_eq_true rfl) ?_
  repeat (first | refine r_op rfl rfl rfl rfl ?_ | refine r_skip rfl rfl rfl ?_ | refine .done ?_ | refine r_seq (T := TT) ?_ | refine r_region (T := TT) rfl ?_ | refine r_block (T := TT) ?_ | refine r_then (T := TT) rfl ?_ | refine r_else (T := TT) rfl ?_)
  refine r_call (ok_q_one) rfl rfl rfl rfl rfl rfl rfl ?_
  repeat (first | refine r_op rfl rfl rfl rfl ?_ | refine r_skip rfl rfl rfl ?_ | refine .done ?_ | refine r_seq (T := TT) ?_ | refine r_region (T := TT) rfl ?_ | refine r_block (T := TT) ?_ | refine r_then (T := TT) rfl ?_ | refine r_else (T := TT) rfl ?_)
  refine r_loop (Nat × Int) (fun p => p.1 ≤ n ∧ p.2 * 10 ^ p.1 = z ∧ Sz (n - p.1 + 1) p.2) (fun p => ⟨[(0, .d (dN .i64 p.1)), (2, .box 0 0), (3, .box 1001 0)], [(0, some [.val (.bool false), .sl 0 []]), (1001, some (aZ p.2))]⟩) (fun p => p.1) (n, 1) ⟨Nat.le_refl _, by rw [Int.one_mul]; exact hz, (Sz.small (z := 1) (by decide)).mono (by omega)⟩ (weak ⟨rfl, rfl, rfl, trivial⟩ ⟨rfl, rfl, trivial⟩ rfl) ?_
  rintro ⟨m, y⟩ ⟨hm, hy, hs⟩
  dsimp only at hm hy hs ⊢
  repeat (first | refine r_op rfl rfl rfl rfl ?_ | refine r_skip rfl rfl rfl ?_ | refine .done ?_ | refine r_seq (T := TT) ?_ | refine r_region (T := TT) rfl ?_ | refine r_block (T := TT) ?_ | refine r_then (T := TT) rfl ?_ | refine r_else (T := TT) rfl ?_)
  refine r_cond rfl (fun h => ?_) (fun h => ?_)
  · have h4 : 4096 < m := by have := of_decide_eq_true h; omega
    obtain ⟨t, t1, t2, t3, _, t4⟩ := pow_e 4096 (Nat.le_refl _)
    repeat (first | refine r_op rfl rfl rfl rfl ?_ | refine r_skip rfl rfl rfl ?_ | refine .done ?_ | refine r_seq (T := TT) ?_ | refine r_region (T := TT) rfl ?_ | refine r_block (T := TT) ?_ | refine r_then (T := TT) rfl ?_ | refine r_else (T := TT) rfl ?_)
    refine r_call (ok_i_FromInt 10 (by decide) (by decide)) rfl rfl rfl rfl rfl rfl rfl ?_
    repeat (first | refine r_op rfl rfl rfl rfl ?_ | refine r_skip rfl rfl rfl ?_ | refine .done ?_ | refine r_seq (T := TT) ?_ | refine r_region (T := TT) rfl ?_ | refine r_block (T := TT) ?_ | refine r_then (T := TT) rfl ?_ | refine r_else (T := TT) rfl ?_)
    refine r_call (t4) rfl rfl rfl rfl rfl rfl rfl ?_
    repeat (first | refine r_op rfl rfl rfl rfl ?_ | refine r_skip rfl rfl rfl ?_ | refine .done ?_ | refine r_seq (T := TT) ?_ | refine r_region (T := TT) rfl ?_ | refine r_block (T := TT) ?_ | refine r_then (T := TT) rfl ?_ | refine r_else (T := TT) rfl ?_)
    refine r_call (okz_i_Mul (hs.fit (by omega)) t3) rfl rfl rfl rfl rfl rfl rfl ?_
    repeat (first | refine r_op rfl rfl rfl rfl ?_ | refine r_skip rfl rfl rfl ?_ | refine .done ?_ | refine r_seq (T := TT) ?_ | refine r_region (T := TT) rfl ?_ | refine r_block (T := TT) ?_ | refine r_then (T := TT) rfl ?_ | refine r_else (T := TT) rfl ?_)
    refine ⟨(m - 4096, y * t), ⟨by omega, ?_, ?_⟩, by dsimp only; omega, weak ⟨?_, rfl, rfl, trivial⟩ ⟨rfl, rfl, trivial⟩ rfl⟩
    · exact (t1 y m (by omega)).trans hy
    · exact t2 _ _ y hs (by dsimp only; omega)
    · exact tv_i64 (by omega) (by omega)
  · have h4 : m ≤ 4096 := by have := of_decide_eq_false h; omega
    obtain ⟨t, _, _, t3, ht, t4⟩ := pow_e m h4
    refine r_exit ?_
    repeat (first | refine r_op rfl rfl rfl rfl ?_ | refine r_skip rfl rfl rfl ?_ | refine .done ?_ | refine r_seq (T := TT) ?_ | refine r_region (T := TT) rfl ?_ | refine r_block (T := TT) ?_ | refine r_then (T := TT) rfl ?_ | refine r_else (T := TT) rfl ?_)
    refine r_call (ok_i_FromInt 10 (by decide) (by decide)) rfl rfl rfl rfl rfl rfl rfl ?_
    repeat (first | refine r_op rfl rfl rfl rfl ?_ | refine r_skip rfl rfl rfl ?_ | refine .done ?_ | refine r_seq (T := TT) ?_ | refine r_region (T := TT) rfl ?_ | refine r_block (T := TT) ?_ | refine r_then (T := TT) rfl ?_ | refine r_else (T := TT) rfl ?_)
    refine r_call (t4) rfl rfl rfl rfl rfl rfl rfl ?_
    repeat (first | refine r_op rfl rfl rfl rfl ?_ | refine r_skip rfl rfl rfl ?_ | refine .done ?_ | refine r_seq (T := TT) ?_ | refine r_region (T := TT) rfl ?_ | refine r_block (T := TT) ?_ | refine r_then (T := TT) rfl ?_ | refine r_else (T := TT) rfl ?_)
    refine r_call (okz_i_Mul (hs.fit (by omega)) t3) rfl rfl rfl rfl rfl rfl rfl ?_
    repeat (first | refine r_op rfl rfl rfl rfl ?_ | refine r_skip rfl rfl rfl ?_ | refine .done ?_ | refine r_seq (T := TT) ?_ | refine r_region (T := TT) rfl ?_ | refine r_block (T := TT) ?_ | refine r_then (T := TT) rfl ?_ | refine r_else (T := TT) rfl ?_)
    rw [← hy, ht]
    exact r_fin (T := TT) rfl rfl
end Go.Proofs.YtecjnnhkbmkemaaGreatDoor
namespace Go.Proofs.YtecjnnhkbmkemaaGreatDoor
open Go.RowKit
theorem sz_num {l : List UInt8} (h : ∀ c ∈ l, isD c) : Sz l.length (num l : Int) := by
  unfold Sz
  rw [Int.natAbs_natCast]
  exact Nat.lt_of_lt_of_le (num_lt _ l rfl h) (Nat.pow_le_pow_left (by decide) _)
theorem ok_q_decimal {a b : List UInt8} (hl : a.length + b.length ≤ 65536) (ha : okT false a) (hb : b ≠ []) (hd : ∀ x ∈ b, isD x) {q : Rat} (hq : Rat.divInt ((num a * 10 ^ b.length + num b : Nat) : Int) ((10 ^ b.length : Nat) : Int) = q) : CallOK Tryz.prog 112 [dL a, dL b] (.tup [dQ q, dB true]) := by
  obtain ⟨p, hp⟩ : ∃ p, (10 : Int) ^ b.length = p := ⟨_, rfl⟩
  have hpc : ((10 ^ b.length : Nat) : Int) = p := by rw [← hp, Int.natCast_pow]; rfl
  have hp0 : p ≠ 0 := by rw [← hpc]; have := Nat.pow_pos (a := 10) (n := b.length) (by decide); omega
  have sp : Sz (b.length + 1) p := by rw [← hp]; exact sz_pow10 _
  have sa := sz_num (okT_all ha)
  have sb := sz_num hd
  have hn : ((num a * 10 ^ b.length + num b : Nat) : Int) = (num a : Int) * p + num b := by rw [Int.natCast_add, Int.natCast_mul, hpc]
  rw [hn, hpc] at hq
  have sn : Sz (a.length + b.length + 2) ((num a : Int) * p + num b) := (sa.mul sp).add (sb.mono (by omega))
  have c2 := okz_i_Parse (tl0 b)
  have htl : (tl0 b).length ≤ b.length := (List.dropWhile_sublist _).length_le
  have htd : ∀ c ∈ tl0 b, isD c := fun c hc => hd c ((List.dropWhile_sublist _).subset hc)
  rw [pz_all htd (by omega), num_tl0] at c2
  by_cases ht : tl0 b = []
  · have hb0 : num b = 0 := by rw [← num_tl0, ht]; rfl
    rw [hb0] at hq sn
    refine callOK_of TT_ok mixT Tryz.func112 rfl rfl (Nat.le_of_ble_eq_true rfl) ?_
    repeat (first | refine r_op rfl rfl rfl rfl ?_ | refine r_skip rfl rfl rfl ?_ | refine .done ?_ | refine r_seq (T := TT) ?_ | refine r_region (T := TT) rfl ?_ | refine r_block (T := TT) ?_ | refine r_then (T := TT) rfl ?_ | refine r_else (T := TT) rfl ?_)
    refine r_call (ok_q_whole (by omega) ha) rfl rfl rfl rfl rfl rfl rfl ?_
    repeat (first | refine r_op rfl rfl rfl rfl ?_ | refine r_skip rfl rfl rfl ?_ | refine .done ?_ | refine r_seq (T := TT) ?_ | refine r_region (T := TT) rfl ?_ | refine r_block (T := TT) ?_ | refine r_then (T := TT) rfl ?_ | refine r_else (T := TT) rfl ?_)
    refine r_call (ok_q_digits (b := true) (by omega) (digB_iff.2 ⟨hd, hb⟩)) rfl rfl rfl rfl rfl rfl rfl ?_
    repeat (first | refine r_op rfl rfl rfl rfl ?_ | refine r_skip rfl rfl rfl ?_ | refine .done ?_ | refine r_seq (T := TT) ?_ | refine r_region (T := TT) rfl ?_ | refine r_block (T := TT) ?_ | refine r_then (T := TT) rfl ?_ | refine r_else (T := TT) rfl ?_)
    refine r_call (ok_TrimLeft0 b) rfl rfl rfl rfl rfl rfl rfl ?_
    repeat (first | refine r_op rfl rfl rfl rfl ?_ | refine r_skip rfl rfl rfl ?_ | refine .done ?_)
    repeat refine r_seq (T := TT) ?_
    refine r_region (T := TT) rfl ?_
    repeat (first | refine r_op rfl rfl rfl rfl ?_ | refine r_skip rfl rfl rfl ?_)
    try refine .done ?_
    repeat refine r_seq (T := TT) ?_
    refine r_region (T := TT) rfl ?_
    iterate 1 (first | refine r_op rfl rfl rfl rfl ?_ | refine r_skip rfl rfl rfl ?_)
    refine r_bin rfl rfl rfl rfl rfl rfl rfl (binV_neF (a := tl0 b) (b := []) ht) ?_
    repeat (first | refine r_op rfl rfl rfl rfl ?_ | refine r_skip rfl rfl rfl ?_ | refine .done ?_ | refine r_seq (T := TT) ?_ | refine r_region (T := TT) rfl ?_ | refine r_block (T := TT) ?_ | refine r_then (T := TT) rfl ?_ | refine r_else (T := TT) rfl ?_)
    refine r_call (ok_q_power (n := b.length) (by omega) hp) rfl rfl rfl rfl rfl rfl rfl ?_
    repeat (first | refine r_op rfl rfl rfl rfl ?_ | refine r_skip rfl rfl rfl ?_ | refine .done ?_ | refine r_seq (T := TT) ?_ | refine r_region (T := TT) rfl ?_ | refine r_block (T := TT) ?_ | refine r_then (T := TT) rfl ?_ | refine r_else (T := TT) rfl ?_)
    refine r_call (okz_i_Mul (sa.fit (by omega)) (sp.fit (by omega))) rfl rfl rfl rfl rfl rfl rfl ?_
    repeat (first | refine r_op rfl rfl rfl rfl ?_ | refine r_skip rfl rfl rfl ?_ | refine .done ?_ | refine r_seq (T := TT) ?_ | refine r_region (T := TT) rfl ?_ | refine r_block (T := TT) ?_ | refine r_then (T := TT) rfl ?_ | refine r_else (T := TT) rfl ?_)
    refine r_call (ok_i_Add (na := decide ((num a : Int) * p < 0)) (xs := digs ((num a : Int) * p).natAbs) (nb := false) (ys := []) (Wd_digs _) Wd.nil ((sa.mul sp).fit (by omega)) (by unfold Fit; simp) (z := (num a : Int) * p + (0 : Nat)) (by rw [toZ_int]; rfl)) rfl rfl rfl rfl rfl rfl rfl ?_
    repeat (first | refine r_op rfl rfl rfl rfl ?_ | refine r_skip rfl rfl rfl ?_ | refine .done ?_ | refine r_seq (T := TT) ?_ | refine r_region (T := TT) rfl ?_ | refine r_block (T := TT) ?_ | refine r_then (T := TT) rfl ?_ | refine r_else (T := TT) rfl ?_)
    refine r_call (ok_q_lowest sn (sp.mono (by omega)) (by omega) hp0 hq) rfl rfl rfl rfl rfl rfl rfl ?_
    repeat (first | refine r_op rfl rfl rfl rfl ?_ | refine r_skip rfl rfl rfl ?_ | refine .done ?_ | refine r_seq (T := TT) ?_ | refine r_region (T := TT) rfl ?_ | refine r_block (T := TT) ?_ | refine r_then (T := TT) rfl ?_ | refine r_else (T := TT) rfl ?_)
    exact r_fin (T := TT) rfl rfl
  · rw [if_pos (tl0_ok hd ht)] at c2
    refine callOK_of TT_ok mixT Tryz.func112 rfl rfl (Nat.le_of_ble_eq_true rfl) ?_
    repeat (first | refine r_op rfl rfl rfl rfl ?_ | refine r_skip rfl rfl rfl ?_ | refine .done ?_ | refine r_seq (T := TT) ?_ | refine r_region (T := TT) rfl ?_ | refine r_block (T := TT) ?_ | refine r_then (T := TT) rfl ?_ | refine r_else (T := TT) rfl ?_)
    refine r_call (ok_q_whole (by omega) ha) rfl rfl rfl rfl rfl rfl rfl ?_
    repeat (first | refine r_op rfl rfl rfl rfl ?_ | refine r_skip rfl rfl rfl ?_ | refine .done ?_ | refine r_seq (T := TT) ?_ | refine r_region (T := TT) rfl ?_ | refine r_block (T := TT) ?_ | refine r_then (T := TT) rfl ?_ | refine r_else (T := TT) rfl ?_)
    refine r_call (ok_q_digits (b := true) (by omega) (digB_iff.2 ⟨hd, hb⟩)) rfl rfl rfl rfl rfl rfl rfl ?_
    repeat (first | refine r_op rfl rfl rfl rfl ?_ | refine r_skip rfl rfl rfl ?_ | refine .done ?_ | refine r_seq (T := TT) ?_ | refine r_region (T := TT) rfl ?_ | refine r_block (T := TT) ?_ | refine r_then (T := TT) rfl ?_ | refine r_else (T := TT) rfl ?_)
    refine r_call (ok_TrimLeft0 b) rfl rfl rfl rfl rfl rfl rfl ?_
    repeat (first | refine r_op rfl rfl rfl rfl ?_ | refine r_skip rfl rfl rfl ?_ | refine .done ?_)
    repeat refine r_seq (T := TT) ?_
    refine r_region (T := TT) rfl ?_
    repeat (first | refine r_op rfl rfl rfl rfl ?_ | refine r_skip rfl rfl rfl ?_)
    try refine .done ?_
    repeat refine r_seq (T := TT) ?_
    refine r_region (T := TT) rfl ?_
    iterate 1 (first | refine r_op rfl rfl rfl rfl ?_ | refine r_skip rfl rfl rfl ?_)
    refine r_bin rfl rfl rfl rfl rfl rfl rfl (binV_neT (a := tl0 b) (b := []) ht) ?_
    repeat (first | refine r_op rfl rfl rfl rfl ?_ | refine r_skip rfl rfl rfl ?_ | refine .done ?_ | refine r_seq (T := TT) ?_ | refine r_region (T := TT) rfl ?_ | refine r_block (T := TT) ?_ | refine r_then (T := TT) rfl ?_ | refine r_else (T := TT) rfl ?_)
    refine r_call (c2) rfl rfl rfl rfl rfl rfl rfl ?_
    repeat (first | refine r_op rfl rfl rfl rfl ?_ | refine r_skip rfl rfl rfl ?_ | refine .done ?_ | refine r_seq (T := TT) ?_ | refine r_region (T := TT) rfl ?_ | refine r_block (T := TT) ?_ | refine r_then (T := TT) rfl ?_ | refine r_else (T := TT) rfl ?_)
    refine r_call (ok_q_power (n := b.length) (by omega) hp) rfl rfl rfl rfl rfl rfl rfl ?_
    repeat (first | refine r_op rfl rfl rfl rfl ?_ | refine r_skip rfl rfl rfl ?_ | refine .done ?_ | refine r_seq (T := TT) ?_ | refine r_region (T := TT) rfl ?_ | refine r_block (T := TT) ?_ | refine r_then (T := TT) rfl ?_ | refine r_else (T := TT) rfl ?_)
    refine r_call (okz_i_Mul (sa.fit (by omega)) (sp.fit (by omega))) rfl rfl rfl rfl rfl rfl rfl ?_
    repeat (first | refine r_op rfl rfl rfl rfl ?_ | refine r_skip rfl rfl rfl ?_ | refine .done ?_ | refine r_seq (T := TT) ?_ | refine r_region (T := TT) rfl ?_ | refine r_block (T := TT) ?_ | refine r_then (T := TT) rfl ?_ | refine r_else (T := TT) rfl ?_)
    refine r_call (okz_i_Add ((sa.mul sp).fit (by omega)) (sb.fit (by omega))) rfl rfl rfl rfl rfl rfl rfl ?_
    repeat (first | refine r_op rfl rfl rfl rfl ?_ | refine r_skip rfl rfl rfl ?_ | refine .done ?_ | refine r_seq (T := TT) ?_ | refine r_region (T := TT) rfl ?_ | refine r_block (T := TT) ?_ | refine r_then (T := TT) rfl ?_ | refine r_else (T := TT) rfl ?_)
    refine r_call (ok_q_lowest sn (sp.mono (by omega)) (by omega) hp0 hq) rfl rfl rfl rfl rfl rfl rfl ?_
    repeat (first | refine r_op rfl rfl rfl rfl ?_ | refine r_skip rfl rfl rfl ?_ | refine .done ?_ | refine r_seq (T := TT) ?_ | refine r_region (T := TT) rfl ?_ | refine r_block (T := TT) ?_ | refine r_then (T := TT) rfl ?_ | refine r_else (T := TT) rfl ?_)
    exact r_fin (T := TT) rfl rfl
theorem ok_q_decimalN {a b : List UInt8} (hl : a.length + b.length ≤ 65536) (h : ¬ (okT false a ∧ b ≠ [] ∧ ∀ x ∈ b, isD x)) : CallOK Tryz.prog 112 [dL a, dL b] (.tup [dQ0, dB false]) := by
  by_cases ha : okT false a
  · refine callOK_of TT_ok mixT Tryz.func112 rfl rfl (Nat.le_of_ble_eq_true rfl) ?_
    repeat (first | refine r_op rfl rfl rfl rfl ?_ | refine r_skip rfl rfl rfl ?_ | refine .done ?_ | refine r_seq (T := TT) ?_ | refine r_region (T := TT) rfl ?_ | refine r_block (T := TT) ?_ | refine r_then (T := TT) rfl ?_ | refine r_else (T := TT) rfl ?_)
    refine r_call (ok_q_whole (by omega) ha) rfl rfl rfl rfl rfl rfl rfl ?_
    repeat (first | refine r_op rfl rfl rfl rfl ?_ | refine r_skip rfl rfl rfl ?_ | refine .done ?_ | refine r_seq (T := TT) ?_ | refine r_region (T := TT) rfl ?_ | refine r_block (T := TT) ?_ | refine r_then (T := TT) rfl ?_ | refine r_else (T := TT) rfl ?_)
    refine r_call (ok_q_digits (l := b) (b := false) (by omega) (Bool.eq_false_iff.2 fun hb => h ⟨ha, (digB_iff.1 hb).2, (digB_iff.1 hb).1⟩)) rfl rfl rfl rfl rfl rfl rfl ?_
    repeat (first | refine r_op rfl rfl rfl rfl ?_ | refine r_skip rfl rfl rfl ?_ | refine .done ?_ | refine r_seq (T := TT) ?_ | refine r_region (T := TT) rfl ?_ | refine r_block (T := TT) ?_ | refine r_then (T := TT) rfl ?_ | refine r_else (T := TT) rfl ?_)
    exact r_fin (T := TT) rfl rfl
  · refine callOK_of TT_ok mixT Tryz.func112 rfl rfl (Nat.le_of_ble_eq_true rfl) ?_
    repeat (first | refine r_op rfl rfl rfl rfl ?_ | refine r_skip rfl rfl rfl ?_ | refine .done ?_ | refine r_seq (T := TT) ?_ | refine r_region (T := TT) rfl ?_ | refine r_block (T := TT) ?_ | refine r_then (T := TT) rfl ?_ | refine r_else (T := TT) rfl ?_)
    refine r_call (ok_q_wholeN (by omega) ha) rfl rfl rfl rfl rfl rfl rfl ?_
    repeat (first | refine r_op rfl rfl rfl rfl ?_ | refine r_skip rfl rfl rfl ?_ | refine .done ?_ | refine r_seq (T := TT) ?_ | refine r_region (T := TT) rfl ?_ | refine r_block (T := TT) ?_ | refine r_then (T := TT) rfl ?_ | refine r_else (T := TT) rfl ?_)
    exact r_fin (T := TT) rfl rfl
theorem ok_q_quotient {a b : List UInt8} (hl : a.length + b.length ≤ 65536) (h : okT false a ∧ okT false b ∧ num b ≠ 0 ∧ num b ≠ 1 ∧ Nat.gcd (num a) (num b) = 1) {q : Rat} (hq : Rat.divInt (num a : Int) (num b : Int) = q) : CallOK Tryz.prog 111 [dL a, dL b] (.tup [dQ q, dB true]) := by
  obtain ⟨h1, h2, h3, h4, h5⟩ := h
  have sa := sz_num (okT_all h1)
  have sb := sz_num (okT_all h2)
  have e : q.num = num a ∧ q.den = num b := by
    refine rat_eq (Nat.pos_of_ne_zero h3) (by rw [Int.natAbs_natCast]; exact h5) ?_
    have h0 : (q.den : Int) ≠ 0 := by have := den_pos q; omega
    have := (Rat.divInt_eq_divInt_iff h0 (show (num b : Int) ≠ 0 by omega)).1 ((divInt_num_den q).trans hq.symm)
    exact this.symm
  rw [dQ_of e.1 (d := num b) (by rw [e.2])]
  refine callOK_of TT_ok mixT Tryz.func111 rfl rfl (Nat.le_of_ble_eq_true rfl) ?_
  repeat (first | refine r_op rfl rfl rfl rfl ?_ | refine r_skip rfl rfl rfl ?_ | refine .done ?_ | refine r_seq (T := TT) ?_ | refine r_region (T := TT) rfl ?_ | refine r_block (T := TT) ?_ | refine r_then (T := TT) rfl ?_ | refine r_else (T := TT) rfl ?_)
  refine r_call (ok_q_whole (by omega) h1) rfl rfl rfl rfl rfl rfl rfl ?_
  repeat (first | refine r_op rfl rfl rfl rfl ?_ | refine r_skip rfl rfl rfl ?_ | refine .done ?_ | refine r_seq (T := TT) ?_ | refine r_region (T := TT) rfl ?_ | refine r_block (T := TT) ?_ | refine r_then (T := TT) rfl ?_ | refine r_else (T := TT) rfl ?_)
  refine r_call (ok_q_whole (by omega) h2) rfl rfl rfl rfl rfl rfl rfl ?_
  repeat (first | refine r_op rfl rfl rfl rfl ?_ | refine r_skip rfl rfl rfl ?_ | refine .done ?_ | refine r_seq (T := TT) ?_ | refine r_region (T := TT) rfl ?_ | refine r_block (T := TT) ?_ | refine r_then (T := TT) rfl ?_ | refine r_else (T := TT) rfl ?_)
  refine r_call (okz_q_isZero (decide_eq_false (show ¬ (num b : Int) = 0 by omega))) rfl rfl rfl rfl rfl rfl rfl ?_
  repeat (first | refine r_op rfl rfl rfl rfl ?_ | refine r_skip rfl rfl rfl ?_ | refine .done ?_ | refine r_seq (T := TT) ?_ | refine r_region (T := TT) rfl ?_ | refine r_block (T := TT) ?_ | refine r_then (T := TT) rfl ?_ | refine r_else (T := TT) rfl ?_)
  refine r_call (okz_q_isOne (decide_eq_false (show ¬ (num b : Int) = 1 by omega))) rfl rfl rfl rfl rfl rfl rfl ?_
  repeat (first | refine r_op rfl rfl rfl rfl ?_ | refine r_skip rfl rfl rfl ?_ | refine .done ?_ | refine r_seq (T := TT) ?_ | refine r_region (T := TT) rfl ?_ | refine r_block (T := TT) ?_ | refine r_then (T := TT) rfl ?_ | refine r_else (T := TT) rfl ?_)
  refine r_call (okz_i_GCD (sa.fit (by omega)) (sb.fit (by omega)) (g := 1) (by rw [Int.natAbs_natCast, Int.natAbs_natCast]; exact h5)) rfl rfl rfl rfl rfl rfl rfl ?_
  repeat (first | refine r_op rfl rfl rfl rfl ?_ | refine r_skip rfl rfl rfl ?_ | refine .done ?_ | refine r_seq (T := TT) ?_ | refine r_region (T := TT) rfl ?_ | refine r_block (T := TT) ?_ | refine r_then (T := TT) rfl ?_ | refine r_else (T := TT) rfl ?_)
  refine r_call (okz_q_isOne (b := true) rfl) rfl rfl rfl rfl rfl rfl rfl ?_
  repeat (first | refine r_op rfl rfl rfl rfl ?_ | refine r_skip rfl rfl rfl ?_ | refine .done ?_ | refine r_seq (T := TT) ?_ | refine r_region (T := TT) rfl ?_ | refine r_block (T := TT) ?_ | refine r_then (T := TT) rfl ?_ | refine r_else (T := TT) rfl ?_)
  exact r_fin (T := TT) rfl rfl
theorem ok_q_quotientN {a b : List UInt8} (hl : a.length + b.length ≤ 65536) (h : ¬ (okT false a ∧ okT false b ∧ num b ≠ 0 ∧ num b ≠ 1 ∧ Nat.gcd (num a) (num b) = 1)) : CallOK Tryz.prog 111 [dL a, dL b] (.tup [dQ0, dB false]) := by
  by_cases h1 : okT false a
  · by_cases h2 : okT false b
    · have sa := sz_num (okT_all h1)
      have sb := sz_num (okT_all h2)
      by_cases h3 : num b = 0
      · refine callOK_of TT_ok mixT Tryz.func111 rfl rfl (Nat.le_of_ble_eq_true rfl) ?_
        repeat (first | refine r_op rfl rfl rfl rfl ?_ | refine r_skip rfl rfl rfl ?_ | refine .done ?_ | refine r_seq (T := TT) ?_ | refine r_region (T := TT) rfl ?_ | refine r_block (T := TT) ?_ | refine r_then (T := TT) rfl ?_ | refine r_else (T := TT) rfl ?_)
        refine r_call (ok_q_whole (by omega) h1) rfl rfl rfl rfl rfl rfl rfl ?_
        repeat (first | refine r_op rfl rfl rfl rfl ?_ | refine r_skip rfl rfl rfl ?_ | refine .done ?_ | refine r_seq (T := TT) ?_ | refine r_region (T := TT) rfl ?_ | refine r_block (T := TT) ?_ | refine r_then (T := TT) rfl ?_ | refine r_else (T := TT) rfl ?_)
        refine r_call (ok_q_whole (by omega) h2) rfl rfl rfl rfl rfl rfl rfl ?_
        repeat (first | refine r_op rfl rfl rfl rfl ?_ | refine r_skip rfl rfl rfl ?_ | refine .done ?_ | refine r_seq (T := TT) ?_ | refine r_region (T := TT) rfl ?_ | refine r_block (T := TT) ?_ | refine r_then (T := TT) rfl ?_ | refine r_else (T := TT) rfl ?_)
        refine r_call (okz_q_isZero (decide_eq_true (show (num b : Int) = 0 by omega))) rfl rfl rfl rfl rfl rfl rfl ?_
        repeat (first | refine r_op rfl rfl rfl rfl ?_ | refine r_skip rfl rfl rfl ?_ | refine .done ?_ | refine r_seq (T := TT) ?_ | refine r_region (T := TT) rfl ?_ | refine r_block (T := TT) ?_ | refine r_then (T := TT) rfl ?_ | refine r_else (T := TT) rfl ?_)
        exact r_fin (T := TT) rfl rfl
      · by_cases h4 : num b = 1
        · refine callOK_of TT_ok mixT Tryz.func111 rfl rfl (Nat.le_of_ble_eq_true rfl) ?_
          repeat (first | refine r_op rfl rfl rfl rfl ?_ | refine r_skip rfl rfl rfl ?_ | refine .done ?_ | refine r_seq (T := TT) ?_ | refine r_region (T := TT) rfl ?_ | refine r_block (T := TT) ?_ | refine r_then (T := TT) rfl ?_ | refine r_else (T := TT) rfl ?_)
          refine r_call (ok_q_whole (by omega) h1) rfl rfl rfl rfl rfl rfl rfl ?_
          repeat (first | refine r_op rfl rfl rfl rfl ?_ | refine r_skip rfl rfl rfl ?_ | refine .done ?_ | refine r_seq (T := TT) ?_ | refine r_region (T := TT) rfl ?_ | refine r_block (T := TT) ?_ | refine r_then (T := TT) rfl ?_ | refine r_else (T := TT) rfl ?_)
          refine r_call (ok_q_whole (by omega) h2) rfl rfl rfl rfl rfl rfl rfl ?_
          repeat (first | refine r_op rfl rfl rfl rfl ?_ | refine r_skip rfl rfl rfl ?_ | refine .done ?_ | refine r_seq (T := TT) ?_ | refine r_region (T := TT) rfl ?_ | refine r_block (T := TT) ?_ | refine r_then (T := TT) rfl ?_ | refine r_else (T := TT) rfl ?_)
          refine r_call (okz_q_isZero (decide_eq_false (show ¬ (num b : Int) = 0 by omega))) rfl rfl rfl rfl rfl rfl rfl ?_
          repeat (first | refine r_op rfl rfl rfl rfl ?_ | refine r_skip rfl rfl rfl ?_ | refine .done ?_ | refine r_seq (T := TT) ?_ | refine r_region (T := TT) rfl ?_ | refine r_block (T := TT) ?_ | refine r_then (T := TT) rfl ?_ | refine r_else (T := TT) rfl ?_)
          refine r_call (okz_q_isOne (decide_eq_true (show (num b : Int) = 1 by omega))) rfl rfl rfl rfl rfl rfl rfl ?_
          repeat (first | refine r_op rfl rfl rfl rfl ?_ | refine r_skip rfl rfl rfl ?_ | refine .done ?_ | refine r_seq (T := TT) ?_ | refine r_region (T := TT) rfl ?_ | refine r_block (T := TT) ?_ | refine r_then (T := TT) rfl ?_ | refine r_else (T := TT) rfl ?_)
          exact r_fin (T := TT) rfl rfl
        · obtain ⟨g, hg⟩ : ∃ g, Nat.gcd (num a) (num b) = g := ⟨_, rfl⟩
          have hg1 : g ≠ 1 := fun e => h ⟨h1, h2, h3, h4, hg.trans e⟩
          refine callOK_of TT_ok mixT Tryz.func111 rfl rfl (Nat.le_of_ble_eq_true rfl) ?_
          repeat (first | refine r_op rfl rfl rfl rfl ?_ | refine r_skip rfl rfl rfl ?_ | refine .done ?_ | refine r_seq (T := TT) ?_ | refine r_region (T := TT) rfl ?_ | refine r_block (T := TT) ?_ | refine r_then (T := TT) rfl ?_ | refine r_else (T := TT) rfl ?_)
          refine r_call (ok_q_whole (by omega) h1) rfl rfl rfl rfl rfl rfl rfl ?_
          repeat (first | refine r_op rfl rfl rfl rfl ?_ | refine r_skip rfl rfl rfl ?_ | refine .done ?_ | refine r_seq (T := TT) ?_ | refine r_region (T := TT) rfl ?_ | refine r_block (T := TT) ?_ | refine r_then (T := TT) rfl ?_ | refine r_else (T := TT) rfl ?_)
          refine r_call (ok_q_whole (by omega) h2) rfl rfl rfl rfl rfl rfl rfl ?_
          repeat (first | refine r_op rfl rfl rfl rfl ?_ | refine r_skip rfl rfl rfl ?_ | refine .done ?_ | refine r_seq (T := TT) ?_ | refine r_region (T := TT) rfl ?_ | refine r_block (T := TT) ?_ | refine r_then (T := TT) rfl ?_ | refine r_else (T := TT) rfl ?_)
          refine r_call (okz_q_isZero (decide_eq_false (show ¬ (num b : Int) = 0 by omega))) rfl rfl rfl rfl rfl rfl rfl ?_
          repeat (first | refine r_op rfl rfl rfl rfl ?_ | refine r_skip rfl rfl rfl ?_ | refine .done ?_ | refine r_seq (T := TT) ?_ | refine r_region (T := TT) rfl ?_ | refine r_block (T := TT) ?_ | refine r_then (T := TT) rfl ?_ | refine r_else (T := TT) rfl ?_)
          refine r_call (okz_q_isOne (decide_eq_false (show ¬ (num b : Int) = 1 by omega))) rfl rfl rfl rfl rfl rfl rfl ?_
          repeat (first | refine r_op rfl rfl rfl rfl ?_ | refine r_skip rfl rfl rfl ?_ | refine .done ?_ | refine r_seq (T := TT) ?_ | refine r_region (T := TT) rfl ?_ | refine r_block (T := TT) ?_ | refine r_then (T := TT) rfl ?_ | refine r_else (T := TT) rfl ?_)
          refine r_call (okz_i_GCD (sa.fit (by omega)) (sb.fit (by omega)) (g := g) (by rw [Int.natAbs_natCast, Int.natAbs_natCast]; exact hg)) rfl rfl rfl rfl rfl rfl rfl ?_
          repeat (first | refine r_op rfl rfl rfl rfl ?_ | refine r_skip rfl rfl rfl ?_ | refine .done ?_ | refine r_seq (T := TT) ?_ | refine r_region (T := TT) rfl ?_ | refine r_block (T := TT) ?_ | refine r_then (T := TT) rfl ?_ | refine r_else (T := TT) rfl ?_)
          refine r_call (okz_q_isOne (decide_eq_false (show ¬ (g : Int) = 1 by omega))) rfl rfl rfl rfl rfl rfl rfl ?_
          repeat (first | refine r_op rfl rfl rfl rfl ?_ | refine r_skip rfl rfl rfl ?_ | refine .done ?_ | refine r_seq (T := TT) ?_ | refine r_region (T := TT) rfl ?_ | refine r_block (T := TT) ?_ | refine r_then (T := TT) rfl ?_ | refine r_else (T := TT) rfl ?_)
          exact r_fin (T := TT) rfl rfl
    · refine callOK_of TT_ok mixT Tryz.func111 rfl rfl (Nat.le_of_ble_eq_true rfl) ?_
      repeat (first | refine r_op rfl rfl rfl rfl ?_ | refine r_skip rfl rfl rfl ?_ | refine .done ?_ | refine r_seq (T := TT) ?_ | refine r_region (T := TT) rfl ?_ | refine r_block (T := TT) ?_ | refine r_then (T := TT) rfl ?_ | refine r_else (T := TT) rfl ?_)
      refine r_call (ok_q_whole (by omega) h1) rfl rfl rfl rfl rfl rfl rfl ?_
      repeat (first | refine r_op rfl rfl rfl rfl ?_ | refine r_skip rfl rfl rfl ?_ | refine .done ?_ | refine r_seq (T := TT) ?_ | refine r_region (T := TT) rfl ?_ | refine r_block (T := TT) ?_ | refine r_then (T := TT) rfl ?_ | refine r_else (T := TT) rfl ?_)
      refine r_call (ok_q_wholeN (by omega) h2) rfl rfl rfl rfl rfl rfl rfl ?_
      repeat (first | refine r_op rfl rfl rfl rfl ?_ | refine r_skip rfl rfl rfl ?_ | refine .done ?_ | refine r_seq (T := TT) ?_ | refine r_region (T := TT) rfl ?_ | refine r_block (T := TT) ?_ | refine r_then (T := TT) rfl ?_ | refine r_else (T := TT) rfl ?_)
      exact r_fin (T := TT) rfl rfl
  · by_cases h2 : okT false b
    · refine callOK_of TT_ok mixT Tryz.func111 rfl rfl (Nat.le_of_ble_eq_true rfl) ?_
      repeat (first | refine r_op rfl rfl rfl rfl ?_ | refine r_skip rfl rfl rfl ?_ | refine .done ?_ | refine r_seq (T := TT) ?_ | refine r_region (T := TT) rfl ?_ | refine r_block (T := TT) ?_ | refine r_then (T := TT) rfl ?_ | refine r_else (T := TT) rfl ?_)
      refine r_call (ok_q_wholeN (by omega) h1) rfl rfl rfl rfl rfl rfl rfl ?_
      repeat (first | refine r_op rfl rfl rfl rfl ?_ | refine r_skip rfl rfl rfl ?_ | refine .done ?_ | refine r_seq (T := TT) ?_ | refine r_region (T := TT) rfl ?_ | refine r_block (T := TT) ?_ | refine r_then (T := TT) rfl ?_ | refine r_else (T := TT) rfl ?_)
      refine r_call (ok_q_whole (by omega) h2) rfl rfl rfl rfl rfl rfl rfl ?_
      repeat (first | refine r_op rfl rfl rfl rfl ?_ | refine r_skip rfl rfl rfl ?_ | refine .done ?_ | refine r_seq (T := TT) ?_ | refine r_region (T := TT) rfl ?_ | refine r_block (T := TT) ?_ | refine r_then (T := TT) rfl ?_ | refine r_else (T := TT) rfl ?_)
      exact r_fin (T := TT) rfl rfl
    · refine callOK_of TT_ok mixT Tryz.func111 rfl rfl (Nat.le_of_ble_eq_true rfl) ?_
      repeat (first | refine r_op rfl rfl rfl rfl ?_ | refine r_skip rfl rfl rfl ?_ | refine .done ?_ | refine r_seq (T := TT) ?_ | refine r_region (T := TT) rfl ?_ | refine r_block (T := TT) ?_ | refine r_then (T := TT) rfl ?_ | refine r_else (T := TT) rfl ?_)
      refine r_call (ok_q_wholeN (by omega) h1) rfl rfl rfl rfl rfl rfl rfl ?_
      repeat (first | refine r_op rfl rfl rfl rfl ?_ | refine r_skip rfl rfl rfl ?_ | refine .done ?_ | refine r_seq (T := TT) ?_ | refine r_region (T := TT) rfl ?_ | refine r_block (T := TT) ?_ | refine r_then (T := TT) rfl ?_ | refine r_else (T := TT) rfl ?_)
      refine r_call (ok_q_wholeN (by omega) h2) rfl rfl rfl rfl rfl rfl rfl ?_
      repeat (first | refine r_op rfl rfl rfl rfl ?_ | refine r_skip rfl rfl rfl ?_ | refine .done ?_ | refine r_seq (T := TT) ?_ | refine r_region (T := TT) rfl ?_ | refine r_block (T := TT) ?_ | refine r_then (T := TT) rfl ?_ | refine r_else (T := TT) rfl ?_)
      exact r_fin (T := TT) rfl rfl
theorem split_at {c : UInt8} {t : List UInt8} (h : c ∈ t) : ∃ a b, t = a ++ c :: b ∧ c ∉ a := by
  induction t with
  | nil => cases h
  | cons x t ih =>
    by_cases hx : x = c
    · subst hx; exact ⟨[], t, rfl, by simp⟩
    · have h' : c ∈ t := by
        rcases List.mem_cons.1 h with e | e
        · exact absurd e.symm hx
        · exact e
      obtain ⟨a, b, rfl, hn⟩ := ih h'
      exact ⟨x :: a, b, rfl, fun e => by
        rcases List.mem_cons.1 e with e | e
        · exact hx e.symm
        · exact hn e⟩
theorem ok_q_positive {t : List UInt8} (hl : t.length ≤ 65536) : (∃ q, posQ t = some q ∧ SzQ 200000 q ∧ CallOK Tryz.prog 70 [dL t] (.tup [dQ q, dB true])) ∨ (posQ t = none ∧ ∃ x, (x = dQ0 ∨ x = .agg (aZ 0 ++ aZ 1)) ∧ CallOK Tryz.prog 70 [dL t] (.tup [x, dB false])) := by
  by_cases h47 : 47 ∈ t
  · obtain ⟨a, b, rfl, ha⟩ := split_at h47
    have hab : a.length + b.length ≤ 65536 := by simp at hl; omega
    rw [pos_slash ha]
    by_cases h : okT false a ∧ okT false b ∧ num b ≠ 0 ∧ num b ≠ 1 ∧ Nat.gcd (num a) (num b) = 1
    · rw [if_pos h]
      refine .inl ⟨_, rfl, .divInt ((sz_num (okT_all h.1)).mono (by omega)) ((sz_num (okT_all h.2.1)).mono (by omega)) (by have := h.2.2.1; omega), ?_⟩
      refine callOK_of TT_ok mixT Tryz.func70 rfl rfl (Nat.le_of_ble_eq_true rfl) ?_
      repeat (first | refine r_op rfl rfl rfl rfl ?_ | refine r_skip rfl rfl rfl ?_ | refine .done ?_ | refine r_seq (T := TT) ?_ | refine r_region (T := TT) rfl ?_ | refine r_block (T := TT) ?_ | refine r_then (T := TT) rfl ?_ | refine r_else (T := TT) rfl ?_)
      refine r_call (ok_Cut ha (by omega)) rfl rfl rfl rfl rfl rfl rfl ?_
      repeat (first | refine r_op rfl rfl rfl rfl ?_ | refine r_skip rfl rfl rfl ?_ | refine .done ?_ | refine r_seq (T := TT) ?_ | refine r_region (T := TT) rfl ?_ | refine r_block (T := TT) ?_ | refine r_then (T := TT) rfl ?_ | refine r_else (T := TT) rfl ?_)
      refine r_call (ok_q_quotient hab h rfl) rfl rfl rfl rfl rfl rfl rfl ?_
      repeat (first | refine r_op rfl rfl rfl rfl ?_ | refine r_skip rfl rfl rfl ?_ | refine .done ?_ | refine r_seq (T := TT) ?_ | refine r_region (T := TT) rfl ?_ | refine r_block (T := TT) ?_ | refine r_then (T := TT) rfl ?_ | refine r_else (T := TT) rfl ?_)
      exact r_fin (T := TT) rfl rfl
    · rw [if_neg h]
      refine .inr ⟨rfl, dQ0, .inl rfl, ?_⟩
      refine callOK_of TT_ok mixT Tryz.func70 rfl rfl (Nat.le_of_ble_eq_true rfl) ?_
      repeat (first | refine r_op rfl rfl rfl rfl ?_ | refine r_skip rfl rfl rfl ?_ | refine .done ?_ | refine r_seq (T := TT) ?_ | refine r_region (T := TT) rfl ?_ | refine r_block (T := TT) ?_ | refine r_then (T := TT) rfl ?_ | refine r_else (T := TT) rfl ?_)
      refine r_call (ok_Cut ha (by omega)) rfl rfl rfl rfl rfl rfl rfl ?_
      repeat (first | refine r_op rfl rfl rfl rfl ?_ | refine r_skip rfl rfl rfl ?_ | refine .done ?_ | refine r_seq (T := TT) ?_ | refine r_region (T := TT) rfl ?_ | refine r_block (T := TT) ?_ | refine r_then (T := TT) rfl ?_ | refine r_else (T := TT) rfl ?_)
      refine r_call (ok_q_quotientN hab h) rfl rfl rfl rfl rfl rfl rfl ?_
      repeat (first | refine r_op rfl rfl rfl rfl ?_ | refine r_skip rfl rfl rfl ?_ | refine .done ?_ | refine r_seq (T := TT) ?_ | refine r_region (T := TT) rfl ?_ | refine r_block (T := TT) ?_ | refine r_then (T := TT) rfl ?_ | refine r_else (T := TT) rfl ?_)
      exact r_fin (T := TT) rfl rfl
  by_cases h46 : 46 ∈ t
  · obtain ⟨a, b, rfl, ha⟩ := split_at h46
    have hab : a.length + b.length ≤ 65536 := by simp at hl; omega
    rw [pos_dot h47 ha]
    by_cases h : okT false a ∧ b ≠ [] ∧ ∀ x ∈ b, isD x
    · rw [if_pos h]
      have hp0 : ((10 ^ b.length : Nat) : Int) ≠ 0 := by have := Nat.pow_pos (a := 10) (n := b.length) (by decide); omega
      have s1 : Sz 200000 ((10 ^ b.length : Nat) : Int) := by rw [Int.natCast_pow]; exact (sz_pow10 b.length).mono (by omega)
      have s2 : Sz 200000 ((num a * 10 ^ b.length + num b : Nat) : Int) := by
        rw [Int.natCast_add, Int.natCast_mul, Int.natCast_pow]
        exact (((sz_num (okT_all h.1)).of_pow (j := 131072) (by omega)).add ((sz_num h.2.2).mono (by omega))).mono (by omega)
      refine .inl ⟨_, rfl, .divInt s2 s1 hp0, ?_⟩
      refine callOK_of TT_ok mixT Tryz.func70 rfl rfl (Nat.le_of_ble_eq_true rfl) ?_
      repeat (first | refine r_op rfl rfl rfl rfl ?_ | refine r_skip rfl rfl rfl ?_ | refine .done ?_ | refine r_seq (T := TT) ?_ | refine r_region (T := TT) rfl ?_ | refine r_block (T := TT) ?_ | refine r_then (T := TT) rfl ?_ | refine r_else (T := TT) rfl ?_)
      refine r_call (ok_Cut_no h47) rfl rfl rfl rfl rfl rfl rfl ?_
      repeat (first | refine r_op rfl rfl rfl rfl ?_ | refine r_skip rfl rfl rfl ?_ | refine .done ?_ | refine r_seq (T := TT) ?_ | refine r_region (T := TT) rfl ?_ | refine r_block (T := TT) ?_ | refine r_then (T := TT) rfl ?_ | refine r_else (T := TT) rfl ?_)
      refine r_call (ok_Cut ha (by omega)) rfl rfl rfl rfl rfl rfl rfl ?_
      repeat (first | refine r_op rfl rfl rfl rfl ?_ | refine r_skip rfl rfl rfl ?_ | refine .done ?_ | refine r_seq (T := TT) ?_ | refine r_region (T := TT) rfl ?_ | refine r_block (T := TT) ?_ | refine r_then (T := TT) rfl ?_ | refine r_else (T := TT) rfl ?_)
      refine r_call (ok_q_decimal hab h.1 h.2.1 h.2.2 rfl) rfl rfl rfl rfl rfl rfl rfl ?_
      repeat (first | refine r_op rfl rfl rfl rfl ?_ | refine r_skip rfl rfl rfl ?_ | refine .done ?_ | refine r_seq (T := TT) ?_ | refine r_region (T := TT) rfl ?_ | refine r_block (T := TT) ?_ | refine r_then (T := TT) rfl ?_ | refine r_else (T := TT) rfl ?_)
      exact r_fin (T := TT) rfl rfl
    · rw [if_neg h]
      refine .inr ⟨rfl, dQ0, .inl rfl, ?_⟩
      refine callOK_of TT_ok mixT Tryz.func70 rfl rfl (Nat.le_of_ble_eq_true rfl) ?_
      repeat (first | refine r_op rfl rfl rfl rfl ?_ | refine r_skip rfl rfl rfl ?_ | refine .done ?_ | refine r_seq (T := TT) ?_ | refine r_region (T := TT) rfl ?_ | refine r_block (T := TT) ?_ | refine r_then (T := TT) rfl ?_ | refine r_else (T := TT) rfl ?_)
      refine r_call (ok_Cut_no h47) rfl rfl rfl rfl rfl rfl rfl ?_
      repeat (first | refine r_op rfl rfl rfl rfl ?_ | refine r_skip rfl rfl rfl ?_ | refine .done ?_ | refine r_seq (T := TT) ?_ | refine r_region (T := TT) rfl ?_ | refine r_block (T := TT) ?_ | refine r_then (T := TT) rfl ?_ | refine r_else (T := TT) rfl ?_)
      refine r_call (ok_Cut ha (by omega)) rfl rfl rfl rfl rfl rfl rfl ?_
      repeat (first | refine r_op rfl rfl rfl rfl ?_ | refine r_skip rfl rfl rfl ?_ | refine .done ?_ | refine r_seq (T := TT) ?_ | refine r_region (T := TT) rfl ?_ | refine r_block (T := TT) ?_ | refine r_then (T := TT) rfl ?_ | refine r_else (T := TT) rfl ?_)
      refine r_call (ok_q_decimalN hab h) rfl rfl rfl rfl rfl rfl rfl ?_
      repeat (first | refine r_op rfl rfl rfl rfl ?_ | refine r_skip rfl rfl rfl ?_ | refine .done ?_ | refine r_seq (T := TT) ?_ | refine r_region (T := TT) rfl ?_ | refine r_block (T := TT) ?_ | refine r_then (T := TT) rfl ?_ | refine r_else (T := TT) rfl ?_)
      exact r_fin (T := TT) rfl rfl
  rw [pos_none h47 h46]
  by_cases h : okT false t
  · rw [if_pos h]
    refine .inl ⟨_, rfl, ⟨(sz_num (okT_all h)).mono (by omega), (Sz.small (z := 1) (by decide)).mono (by omega)⟩, ?_⟩
    refine callOK_of TT_ok mixT Tryz.func70 rfl rfl (Nat.le_of_ble_eq_true rfl) ?_
    repeat (first | refine r_op rfl rfl rfl rfl ?_ | refine r_skip rfl rfl rfl ?_ | refine .done ?_ | refine r_seq (T := TT) ?_ | refine r_region (T := TT) rfl ?_ | refine r_block (T := TT) ?_ | refine r_then (T := TT) rfl ?_ | refine r_else (T := TT) rfl ?_)
    refine r_call (ok_Cut_no h47) rfl rfl rfl rfl rfl rfl rfl ?_
    repeat (first | refine r_op rfl rfl rfl rfl ?_ | refine r_skip rfl rfl rfl ?_ | refine .done ?_ | refine r_seq (T := TT) ?_ | refine r_region (T := TT) rfl ?_ | refine r_block (T := TT) ?_ | refine r_then (T := TT) rfl ?_ | refine r_else (T := TT) rfl ?_)
    refine r_call (ok_Cut_no h46) rfl rfl rfl rfl rfl rfl rfl ?_
    repeat (first | refine r_op rfl rfl rfl rfl ?_ | refine r_skip rfl rfl rfl ?_ | refine .done ?_ | refine r_seq (T := TT) ?_ | refine r_region (T := TT) rfl ?_ | refine r_block (T := TT) ?_ | refine r_then (T := TT) rfl ?_ | refine r_else (T := TT) rfl ?_)
    refine r_call (ok_q_whole hl h) rfl rfl rfl rfl rfl rfl rfl ?_
    repeat (first | refine r_op rfl rfl rfl rfl ?_ | refine r_skip rfl rfl rfl ?_ | refine .done ?_ | refine r_seq (T := TT) ?_ | refine r_region (T := TT) rfl ?_ | refine r_block (T := TT) ?_ | refine r_then (T := TT) rfl ?_ | refine r_else (T := TT) rfl ?_)
    refine r_call (ok_q_one) rfl rfl rfl rfl rfl rfl rfl ?_
    repeat (first | refine r_op rfl rfl rfl rfl ?_ | refine r_skip rfl rfl rfl ?_ | refine .done ?_ | refine r_seq (T := TT) ?_ | refine r_region (T := TT) rfl ?_ | refine r_block (T := TT) ?_ | refine r_then (T := TT) rfl ?_ | refine r_else (T := TT) rfl ?_)
    exact r_fin (T := TT) rfl rfl
  · rw [if_neg h]
    refine .inr ⟨rfl, _, .inr rfl, ?_⟩
    refine callOK_of TT_ok mixT Tryz.func70 rfl rfl (Nat.le_of_ble_eq_true rfl) ?_
    repeat (first | refine r_op rfl rfl rfl rfl ?_ | refine r_skip rfl rfl rfl ?_ | refine .done ?_ | refine r_seq (T := TT) ?_ | refine r_region (T := TT) rfl ?_ | refine r_block (T := TT) ?_ | refine r_then (T := TT) rfl ?_ | refine r_else (T := TT) rfl ?_)
    refine r_call (ok_Cut_no h47) rfl rfl rfl rfl rfl rfl rfl ?_
    repeat (first | refine r_op rfl rfl rfl rfl ?_ | refine r_skip rfl rfl rfl ?_ | refine .done ?_ | refine r_seq (T := TT) ?_ | refine r_region (T := TT) rfl ?_ | refine r_block (T := TT) ?_ | refine r_then (T := TT) rfl ?_ | refine r_else (T := TT) rfl ?_)
    refine r_call (ok_Cut_no h46) rfl rfl rfl rfl rfl rfl rfl ?_
    repeat (first | refine r_op rfl rfl rfl rfl ?_ | refine r_skip rfl rfl rfl ?_ | refine .done ?_ | refine r_seq (T := TT) ?_ | refine r_region (T := TT) rfl ?_ | refine r_block (T := TT) ?_ | refine r_then (T := TT) rfl ?_ | refine r_else (T := TT) rfl ?_)
    refine r_call (ok_q_wholeN hl h) rfl rfl rfl rfl rfl rfl rfl ?_
    repeat (first | refine r_op rfl rfl rfl rfl ?_ | refine r_skip rfl rfl rfl ?_ | refine .done ?_ | refine r_seq (T := TT) ?_ | refine r_region (T := TT) rfl ?_ | refine r_block (T := TT) ?_ | refine r_then (T := TT) rfl ?_ | refine r_else (T := TT) rfl ?_)
    refine r_call (ok_q_one) rfl rfl rfl rfl rfl rfl rfl ?_
    repeat (first | refine r_op rfl rfl rfl rfl ?_ | refine r_skip rfl rfl rfl ?_ | refine .done ?_ | refine r_seq (T := TT) ?_ | refine r_region (T := TT) rfl ?_ | refine r_block (T := TT) ?_ | refine r_then (T := TT) rfl ?_ | refine r_else (T := TT) rfl ?_)
    exact r_fin (T := TT) rfl rfl
theorem ok_q_Parse {s : List UInt8} {q : Rat} (h : parseQ s = some q) : CallOK Tryz.prog 30 [dL s] (.tup [dQ q, dN .i64 0]) := by
  have hsz := Bs_size s
  unfold parseQ at h
  split at h
  · rename_i hl
    have hdl := pds_len s
    rcases ok_q_positive (t := pds s) (by omega) with ⟨p, hp, sp, c1⟩ | ⟨hp, _⟩
    · rw [hp] at h
      dsimp only at h
      cases hn : pneg s
      · rw [hn] at h
        simp only [Bool.false_eq_true, if_false, Option.some.injEq] at h
        subst h
        refine callOK_of TT_ok mixT Tryz.func30 rfl rfl (Nat.le_of_ble_eq_true rfl) ?_
        repeat (first | refine r_op rfl rfl rfl rfl ?_ | refine r_skip rfl rfl rfl ?_ | refine .done ?_ | refine r_seq (T := TT) ?_ | refine r_region (T := TT) rfl ?_ | refine r_block (T := TT) ?_ | refine r_then (T := TT) rfl ?_ | refine r_else (T := TT) rfl ?_)
        refine r_call (ok_cut s) rfl rfl rfl rfl rfl rfl rfl ?_
        repeat (first | refine r_op rfl rfl rfl rfl ?_ | refine r_skip rfl rfl rfl ?_ | refine .done ?_ | refine r_seq (T := TT) ?_ | refine r_region (T := TT) rfl ?_ | refine r_block (T := TT) ?_ | refine r_then (T := TT) rfl ?_ | refine r_else (T := TT) rfl ?_)
        refine r_else2 (T := TT) rfl ?_ ?_
        · exact decide_eq_false (by omega)
        repeat (first | refine r_op rfl rfl rfl rfl ?_ | refine r_skip rfl rfl rfl ?_ | refine .done ?_ | refine r_seq (T := TT) ?_ | refine r_region (T := TT) rfl ?_ | refine r_block (T := TT) ?_ | refine r_then (T := TT) rfl ?_ | refine r_else (T := TT) rfl ?_)
        refine r_call (c1) rfl rfl rfl rfl rfl rfl rfl ?_
        repeat (first | refine r_op rfl rfl rfl rfl ?_ | refine r_skip rfl rfl rfl ?_ | refine .done ?_)
        repeat refine r_seq (T := TT) ?_
        refine r_region (T := TT) rfl ?_
        iterate 3 (first | refine r_op rfl rfl rfl rfl ?_ | refine r_skip rfl rfl rfl ?_)
        refine r_eq (v' := .bool false) rfl rfl rfl rfl ?_ ?_
        · exact congrArg Value.bool (hn)
        repeat (first | refine r_op rfl rfl rfl rfl ?_ | refine r_skip rfl rfl rfl ?_ | refine .done ?_ | refine r_seq (T := TT) ?_ | refine r_region (T := TT) rfl ?_ | refine r_block (T := TT) ?_ | refine r_then (T := TT) rfl ?_ | refine r_else (T := TT) rfl ?_)
        refine r_else2 (T := TT) rfl ?_ ?_
        · exact hn
        repeat (first | refine r_op rfl rfl rfl rfl ?_ | refine r_skip rfl rfl rfl ?_ | refine .done ?_ | refine r_seq (T := TT) ?_ | refine r_region (T := TT) rfl ?_ | refine r_block (T := TT) ?_ | refine r_then (T := TT) rfl ?_ | refine r_else (T := TT) rfl ?_)
        exact r_fin (T := TT) rfl rfl
      · rw [hn] at h
        simp only [if_true] at h
        split at h
        · cases h
        · rename_i hp0
          cases h
          have h0 : ¬ p.num = 0 := fun e => hp0 (Rat.num_eq_zero.1 e)
          refine callOK_of TT_ok mixT Tryz.func30 rfl rfl (Nat.le_of_ble_eq_true rfl) ?_
          repeat (first | refine r_op rfl rfl rfl rfl ?_ | refine r_skip rfl rfl rfl ?_ | refine .done ?_ | refine r_seq (T := TT) ?_ | refine r_region (T := TT) rfl ?_ | refine r_block (T := TT) ?_ | refine r_then (T := TT) rfl ?_ | refine r_else (T := TT) rfl ?_)
          refine r_call (ok_cut s) rfl rfl rfl rfl rfl rfl rfl ?_
          repeat (first | refine r_op rfl rfl rfl rfl ?_ | refine r_skip rfl rfl rfl ?_ | refine .done ?_ | refine r_seq (T := TT) ?_ | refine r_region (T := TT) rfl ?_ | refine r_block (T := TT) ?_ | refine r_then (T := TT) rfl ?_ | refine r_else (T := TT) rfl ?_)
          refine r_else2 (T := TT) rfl ?_ ?_
          · exact decide_eq_false (by omega)
          repeat (first | refine r_op rfl rfl rfl rfl ?_ | refine r_skip rfl rfl rfl ?_ | refine .done ?_ | refine r_seq (T := TT) ?_ | refine r_region (T := TT) rfl ?_ | refine r_block (T := TT) ?_ | refine r_then (T := TT) rfl ?_ | refine r_else (T := TT) rfl ?_)
          refine r_call (c1) rfl rfl rfl rfl rfl rfl rfl ?_
          repeat (first | refine r_op rfl rfl rfl rfl ?_ | refine r_skip rfl rfl rfl ?_ | refine .done ?_)
          repeat refine r_seq (T := TT) ?_
          refine r_region (T := TT) rfl ?_
          iterate 3 (first | refine r_op rfl rfl rfl rfl ?_ | refine r_skip rfl rfl rfl ?_)
          refine r_eq (v' := .bool true) rfl rfl rfl rfl ?_ ?_
          · exact congrArg Value.bool (hn)
          repeat (first | refine r_op rfl rfl rfl rfl ?_ | refine r_skip rfl rfl rfl ?_ | refine .done ?_ | refine r_seq (T := TT) ?_ | refine r_region (T := TT) rfl ?_ | refine r_block (T := TT) ?_ | refine r_then (T := TT) rfl ?_ | refine r_else (T := TT) rfl ?_)
          refine r_call (okz_q_isZero (decide_eq_false h0)) rfl rfl rfl rfl rfl rfl rfl ?_
          repeat (first | refine r_op rfl rfl rfl rfl ?_ | refine r_skip rfl rfl rfl ?_ | refine .done ?_ | refine r_seq (T := TT) ?_ | refine r_region (T := TT) rfl ?_ | refine r_block (T := TT) ?_ | refine r_then (T := TT) rfl ?_ | refine r_else (T := TT) rfl ?_)
          refine r_then2 (T := TT) rfl ?_ ?_
          · exact hn
          repeat (first | refine r_op rfl rfl rfl rfl ?_ | refine r_skip rfl rfl rfl ?_ | refine .done ?_ | refine r_seq (T := TT) ?_ | refine r_region (T := TT) rfl ?_ | refine r_block (T := TT) ?_ | refine r_then (T := TT) rfl ?_ | refine r_else (T := TT) rfl ?_)
          refine r_call (ok_q_Neg sp (by decide) rfl) rfl rfl rfl rfl rfl rfl rfl ?_
          repeat (first | refine r_op rfl rfl rfl rfl ?_ | refine r_skip rfl rfl rfl ?_ | refine .done ?_ | refine r_seq (T := TT) ?_ | refine r_region (T := TT) rfl ?_ | refine r_block (T := TT) ?_ | refine r_then (T := TT) rfl ?_ | refine r_else (T := TT) rfl ?_)
          exact r_fin (T := TT) rfl rfl
    · rw [hp] at h; cases h
  · cases h
theorem ok_q_ParseN {s : List UInt8} (h : parseQ s = none) : CallOK Tryz.prog 30 [dL s] (.tup [dQ0, dN .i64 2]) := by
  have hsz := Bs_size s
  by_cases hl : s.length ≤ 65536
  · have hdl := pds_len s
    unfold parseQ at h
    rw [if_pos hl] at h
    rcases ok_q_positive (t := pds s) (by omega) with ⟨p, hp, sp, c1⟩ | ⟨hp, x, hx, c1⟩
    · rw [hp] at h
      dsimp only at h
      cases hn : pneg s
      · rw [hn] at h
        simp at h
      · rw [hn] at h
        simp only [if_true] at h
        split at h
        · rename_i hp0
          have h0 : p.num = 0 := Rat.num_eq_zero.2 hp0
          refine callOK_of TT_ok mixT Tryz.func30 rfl rfl (Nat.le_of_ble_eq_true rfl) ?_
          repeat (first | refine r_op rfl rfl rfl rfl ?_ | refine r_skip rfl rfl rfl ?_ | refine .done ?_ | refine r_seq (T := TT) ?_ | refine r_region (T := TT) rfl ?_ | refine r_block (T := TT) ?_ | refine r_then (T := TT) rfl ?_ | refine r_else (T := TT) rfl ?_)
          refine r_call (ok_cut s) rfl rfl rfl rfl rfl rfl rfl ?_
          repeat (first | refine r_op rfl rfl rfl rfl ?_ | refine r_skip rfl rfl rfl ?_ | refine .done ?_ | refine r_seq (T := TT) ?_ | refine r_region (T := TT) rfl ?_ | refine r_block (T := TT) ?_ | refine r_then (T := TT) rfl ?_ | refine r_else (T := TT) rfl ?_)
          refine r_else2 (T := TT) rfl ?_ ?_
          · exact decide_eq_false (by omega)
          repeat (first | refine r_op rfl rfl rfl rfl ?_ | refine r_skip rfl rfl rfl ?_ | refine .done ?_ | refine r_seq (T := TT) ?_ | refine r_region (T := TT) rfl ?_ | refine r_block (T := TT) ?_ | refine r_then (T := TT) rfl ?_ | refine r_else (T := TT) rfl ?_)
          refine r_call (c1) rfl rfl rfl rfl rfl rfl rfl ?_
          repeat (first | refine r_op rfl rfl rfl rfl ?_ | refine r_skip rfl rfl rfl ?_ | refine .done ?_)
          repeat refine r_seq (T := TT) ?_
          refine r_region (T := TT) rfl ?_
          iterate 3 (first | refine r_op rfl rfl rfl rfl ?_ | refine r_skip rfl rfl rfl ?_)
          refine r_eq (v' := .bool true) rfl rfl rfl rfl ?_ ?_
          · exact congrArg Value.bool (hn)
          repeat (first | refine r_op rfl rfl rfl rfl ?_ | refine r_skip rfl rfl rfl ?_ | refine .done ?_ | refine r_seq (T := TT) ?_ | refine r_region (T := TT) rfl ?_ | refine r_block (T := TT) ?_ | refine r_then (T := TT) rfl ?_ | refine r_else (T := TT) rfl ?_)
          refine r_call (okz_q_isZero (decide_eq_true h0)) rfl rfl rfl rfl rfl rfl rfl ?_
          repeat (first | refine r_op rfl rfl rfl rfl ?_ | refine r_skip rfl rfl rfl ?_ | refine .done ?_ | refine r_seq (T := TT) ?_ | refine r_region (T := TT) rfl ?_ | refine r_block (T := TT) ?_ | refine r_then (T := TT) rfl ?_ | refine r_else (T := TT) rfl ?_)
          exact r_fin (T := TT) rfl rfl
        · cases h
    · rcases hx with rfl | rfl
      · refine callOK_of TT_ok mixT Tryz.func30 rfl rfl (Nat.le_of_ble_eq_true rfl) ?_
        repeat (first | refine r_op rfl rfl rfl rfl ?_ | refine r_skip rfl rfl rfl ?_ | refine .done ?_ | refine r_seq (T := TT) ?_ | refine r_region (T := TT) rfl ?_ | refine r_block (T := TT) ?_ | refine r_then (T := TT) rfl ?_ | refine r_else (T := TT) rfl ?_)
        refine r_call (ok_cut s) rfl rfl rfl rfl rfl rfl rfl ?_
        repeat (first | refine r_op rfl rfl rfl rfl ?_ | refine r_skip rfl rfl rfl ?_ | refine .done ?_ | refine r_seq (T := TT) ?_ | refine r_region (T := TT) rfl ?_ | refine r_block (T := TT) ?_ | refine r_then (T := TT) rfl ?_ | refine r_else (T := TT) rfl ?_)
        refine r_else2 (T := TT) rfl ?_ ?_
        · exact decide_eq_false (by omega)
        repeat (first | refine r_op rfl rfl rfl rfl ?_ | refine r_skip rfl rfl rfl ?_ | refine .done ?_ | refine r_seq (T := TT) ?_ | refine r_region (T := TT) rfl ?_ | refine r_block (T := TT) ?_ | refine r_then (T := TT) rfl ?_ | refine r_else (T := TT) rfl ?_)
        refine r_call (c1) rfl rfl rfl rfl rfl rfl rfl ?_
        repeat (first | refine r_op rfl rfl rfl rfl ?_ | refine r_skip rfl rfl rfl ?_ | refine .done ?_ | refine r_seq (T := TT) ?_ | refine r_region (T := TT) rfl ?_ | refine r_block (T := TT) ?_ | refine r_then (T := TT) rfl ?_ | refine r_else (T := TT) rfl ?_)
        exact r_fin (T := TT) rfl rfl
      · refine callOK_of TT_ok mixT Tryz.func30 rfl rfl (Nat.le_of_ble_eq_true rfl) ?_
        repeat (first | refine r_op rfl rfl rfl rfl ?_ | refine r_skip rfl rfl rfl ?_ | refine .done ?_ | refine r_seq (T := TT) ?_ | refine r_region (T := TT) rfl ?_ | refine r_block (T := TT) ?_ | refine r_then (T := TT) rfl ?_ | refine r_else (T := TT) rfl ?_)
        refine r_call (ok_cut s) rfl rfl rfl rfl rfl rfl rfl ?_
        repeat (first | refine r_op rfl rfl rfl rfl ?_ | refine r_skip rfl rfl rfl ?_ | refine .done ?_ | refine r_seq (T := TT) ?_ | refine r_region (T := TT) rfl ?_ | refine r_block (T := TT) ?_ | refine r_then (T := TT) rfl ?_ | refine r_else (T := TT) rfl ?_)
        refine r_else2 (T := TT) rfl ?_ ?_
        · exact decide_eq_false (by omega)
        repeat (first | refine r_op rfl rfl rfl rfl ?_ | refine r_skip rfl rfl rfl ?_ | refine .done ?_ | refine r_seq (T := TT) ?_ | refine r_region (T := TT) rfl ?_ | refine r_block (T := TT) ?_ | refine r_then (T := TT) rfl ?_ | refine r_else (T := TT) rfl ?_)
        refine r_call (c1) rfl rfl rfl rfl rfl rfl rfl ?_
        repeat (first | refine r_op rfl rfl rfl rfl ?_ | refine r_skip rfl rfl rfl ?_ | refine .done ?_ | refine r_seq (T := TT) ?_ | refine r_region (T := TT) rfl ?_ | refine r_block (T := TT) ?_ | refine r_then (T := TT) rfl ?_ | refine r_else (T := TT) rfl ?_)
        exact r_fin (T := TT) rfl rfl
  · refine callOK_of TT_ok mixT Tryz.func30 rfl rfl (Nat.le_of_ble_eq_true rfl) ?_
    repeat (first | refine r_op rfl rfl rfl rfl ?_ | refine r_skip rfl rfl rfl ?_ | refine .done ?_ | refine r_seq (T := TT) ?_ | refine r_region (T := TT) rfl ?_ | refine r_block (T := TT) ?_ | refine r_then (T := TT) rfl ?_ | refine r_else (T := TT) rfl ?_)
    refine r_call (ok_cut s) rfl rfl rfl rfl rfl rfl rfl ?_
    repeat (first | refine r_op rfl rfl rfl rfl ?_ | refine r_skip rfl rfl rfl ?_ | refine .done ?_ | refine r_seq (T := TT) ?_ | refine r_region (T := TT) rfl ?_ | refine r_block (T := TT) ?_ | refine r_then (T := TT) rfl ?_ | refine r_else (T := TT) rfl ?_)
    refine r_then2 (T := TT) rfl ?_ ?_
    · exact decide_eq_true (by omega)
    repeat (first | refine r_op rfl rfl rfl rfl ?_ | refine r_skip rfl rfl rfl ?_ | refine .done ?_ | refine r_seq (T := TT) ?_ | refine r_region (T := TT) rfl ?_ | refine r_block (T := TT) ?_ | refine r_then (T := TT) rfl ?_ | refine r_else (T := TT) rfl ?_)
    exact r_fin (T := TT) rfl rfl
end Go.Proofs.YtecjnnhkbmkemaaGreatDoor
