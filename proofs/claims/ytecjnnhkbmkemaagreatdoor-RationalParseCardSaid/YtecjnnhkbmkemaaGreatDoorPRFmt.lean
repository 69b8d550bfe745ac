/- Format and Parse of the reference, over plain data. -/
import Derived.Test.YtecjnnhkbmkemaaGreatDoorPDec
namespace Go.Proofs.YtecjnnhkbmkemaaGreatDoor
open Go.RowKit
theorem ok_r1_by {a b : Nat} (h : (digs a).length ≤ 4294967296) (hb0 : 0 < b) (hb1 : b < 4294967296) : CallOK Tryz.prog 114 [dW (digs a), dN .u32 b] (.tup [dW (digs (a / b)), dN .u32 (a % b : Nat)]) :=
  ⟨enter_of Tryz.func114 rfl rfl, fun S w vs hS hv => by
    match vs, hv with
    | [v, u], ⟨h1, h2, _⟩ =>
      obtain rfl := av_val h2
      obtain ⟨A, n, c, rfl, hx⟩ := wrd_of h1 (Wd_digs _)
      have := r1_by A n c b (digs a) w hx (by rw [← hx.len]; exact h) hb0 hb1
      rw [val_digs] at this
      refine this.mono ?_
      rintro e w' ⟨A', n', c', rfl, hq, hb⟩
      refine ⟨_, rfl, ⟨[.slice A' n' c', .int .u32 (a % b : Nat)], rfl, rfl, fun i x u h1 h2 => ?_⟩, hb⟩
      match i with
      | 0 => simp at h1 h2; subst h1 h2; exact aW_of (hS.grow hb) hq
      | 1 => simp at h1 h2; subst h1 h2; exact AV.M.val rfl
      | i + 2 => simp at h1⟩
section
variable {P : Program} {T : TypeId → Option Ty} {n : Nat} {ops : Array Oper} {id : Nat} {draw : Bool} {K : AS → Prop} {s : AS} {k : Nat} {o : Oper} {os : List Oper} {fps : List FP}
theorem r_b2s (hT : ∀ t d, T t = some d → TyOK P t d) {t t' et : TypeId} {ty ty' te : Ty} {x : Operand} {l : List UInt8} {cs : List AV} (hcs : cs = l.map fun c => AV.val (.int .u8 c.toNat)) (hl : l ≠ []) (h1 : gd ops s o = some true) (h2 : o.op = .convert t t' x) (h5 : T t = some ty) (h6 : ty.elem = some (et, 1)) (h7 : T et = some te) (h8 : te.ik = some .u8) (h9 : T t' = some ty') (h10 : ty'.isStr = true) (h11 : s.ev x = .d (.leaf (.sl l.length cs)))
    (h3 : dstOK n o.dst = true) (h4 : chk draw ops (fpOf ops o ⟨.d (dL l), none⟩ []) k fps = true) (h : AOps P T n ops id draw K (k + 1) os (s.eff o.dst ⟨.d (dL l), none⟩) (fpOf ops o ⟨.d (dL l), none⟩ [] :: fps)) : AOps P T n ops id draw K k (o :: os) s fps := by
  refine .run h1 (.gen fun s2 ht _ => ?_) h3 h4 h
  have hx := (rt_op ht (x := x) (by simp [h2, Op.operands])).trans h11
  have hu := str_of (hT _ _ h9) h10
  obtain ⟨d, hd, _, hel, _⟩ := (hT _ _ h5).und
  obtain ⟨rfl, _⟩ := hel et 1 h6
  obtain ⟨d2, hd2, _, _, _, _, _, hik, _⟩ := (hT _ _ h7).und
  obtain rfl := hik _ h8
  refine sound_val fun n S0 w0 g a w hM => ⟨vL l, w, ?_, Below.refl _ _, AV.M.val rfl⟩
  have hm := hM.ev x
  rw [hx] at hm
  have hm : AV.M (Own S0 g s2) w (.sl l.length cs) (a.eval x) := hm
  unfold execOp
  rw [h2]
  obtain ⟨v, hv⟩ : ∃ v, a.eval x = v := ⟨_, rfl⟩
  rw [hv] at hm
  cases hm with
  | emp =>
    have : l = [] := by simpa using hcs.symm
    exact absurd this hl
  | sl f g1 g2 g3 g4 g5 g6 =>
    rename_i b off c
    have hc : ∀ i, i < l.length → w.cell? ⟨b, off + i, none⟩ = some (.int .u8 ((l.map fun c => (c.toNat : Int)).getD i 0)) := by
      intro i hi
      have h12 : cs[i]? = some (AV.val (.int .u8 (l[i].toNat : Int))) := by rw [hcs]; simp [hi]
      rw [g5 i _ h12, av_val (g6 i _ h12)]
      simp [hi]
    simp only [hv, Sem.run_bind, run_convert_bytes_arg w t et hd hd2 b off l.length c (l.map fun c => (c.toNat : Int)) (by simp) hc t' hu, Result.andThen_ok, Sem.run_pure]
    have : strOfNums (l.map fun c => (c.toNat : Int)) = Bs l := by
      unfold strOfNums Bs
      congr 2
      rw [List.map_map]
      conv => rhs; rw [← List.map_id l]
      apply List.map_congr_left
      intro x _
      simp
    rw [this]
    rfl
end
theorem ok_r1_Format {na : Bool} {xs : List Nat} (hw : Wd xs) {z : Int} (hxz : toZ na xs = z) (hz : FitZ z) : CallOK Tryz.prog 72 [dI na xs] (.one (dL (fmt z))) := by
  have hN : (dec z.natAbs).length ≤ 42949672960 := by
    have h1 := lt_of_digs (Nat.le_refl (digs z.natAbs).length)
    refine Nat.le_trans (dec_len (10 * (digs z.natAbs).length) _ (Nat.lt_of_lt_of_le h1 ?_)) (by unfold FitZ at hz; omega)
    rw [Nat.pow_mul]
    exact Nat.pow_le_pow_left (by decide) _
  refine callOK_of TT_ok mixT Tryz.func72 rfl rfl (Nat.le_of_ble_eq_true rfl) ?_
  repeat (first | refine r_op rfl rfl rfl rfl ?_ | refine r_skip rfl rfl rfl ?_ | refine .done ?_ | refine r_seq (T := TT) ?_ | refine r_region (T := TT) rfl ?_ | refine r_block (T := TT) ?_ | refine r_then (T := TT) rfl ?_ | refine r_else (T := TT) rfl ?_)
  refine r_call (ok_r1_Norm (na := na) hw hxz) rfl rfl rfl rfl rfl rfl rfl ?_
  repeat (first | refine r_op rfl rfl rfl rfl ?_ | refine r_skip rfl rfl rfl ?_ | refine .done ?_ | refine r_seq (T := TT) ?_ | refine r_region (T := TT) rfl ?_ | refine r_block (T := TT) ?_ | refine r_then (T := TT) rfl ?_ | refine r_else (T := TT) rfl ?_)
  refine r_loop (Nat × List UInt8) (fun p => dec z.natAbs = dec p.1 ++ p.2 ∧ (digs p.1).length ≤ 2147483648) (fun p => ⟨[(1, .box 0 0), (3, .d (dL p.2)), (4, .d (dW (digs p.1)))], [(0, some (aZ z))]⟩) (fun p => p.1) (z.natAbs, []) ⟨by simp, hz⟩ (weak ⟨rfl, rfl, rfl, trivial⟩ ⟨rfl, trivial⟩ rfl) ?_
  rintro ⟨a, t⟩ ⟨ha, hl⟩
  dsimp only at ha hl ⊢
  repeat (first | refine r_op rfl rfl rfl rfl ?_ | refine r_skip rfl rfl rfl ?_ | refine .done ?_ | refine r_seq (T := TT) ?_ | refine r_region (T := TT) rfl ?_ | refine r_block (T := TT) ?_ | refine r_then (T := TT) rfl ?_ | refine r_else (T := TT) rfl ?_)
  refine r_cond rfl (fun h => ?_) (fun h => ?_)
  · have h0 : a ≠ 0 := fun e => by rw [e, digs_zero] at h; exact absurd h (by decide)
    have hdl := congrArg List.length ha
    rw [dec_pos h0] at hdl
    simp only [List.length_append, List.length_cons, List.length_nil] at hdl
    have hm10 : a % 10 < 10 := Nat.mod_lt _ (by decide)
    refine r_skipc ?_
    repeat (first | refine r_op rfl rfl rfl rfl ?_ | refine r_skip rfl rfl rfl ?_ | refine .done ?_ | refine r_seq (T := TT) ?_ | refine r_region (T := TT) rfl ?_ | refine r_block (T := TT) ?_ | refine r_then (T := TT) rfl ?_ | refine r_else (T := TT) rfl ?_)
    refine r_call (ok_r1_by (b := 10) (Nat.le_trans hl (by decide)) (by decide) (by decide)) rfl rfl rfl rfl rfl rfl rfl ?_
    repeat (first | refine r_op rfl rfl rfl rfl ?_ | refine r_skip rfl rfl rfl ?_ | refine .done ?_ | refine r_seq (T := TT) ?_ | refine r_region (T := TT) rfl ?_ | refine r_block (T := TT) ?_ | refine r_then (T := TT) rfl ?_ | refine r_else (T := TT) rfl ?_)
    have hcv : (Value.int .u8 (IntKind.u8.wrap (IntKind.u32.wrap (48 + ((a % 10 : Nat) : Int)))) : Value) = .int .u8 ((dg (a % 10)).toNat : Int) := by
      rw [IntWalk.u32_in _ (by omega), IntWalk.u8_in _ (by omega), dg_toNat hm10]
      rfl
    refine r_b2s TT_ok (l := [dg (a % 10)]) (congrArg (fun v => [AV.val v]) hcv) (by simp) rfl rfl rfl rfl rfl rfl rfl rfl rfl rfl rfl ?_
    iterate 1 (first | refine r_op rfl rfl rfl rfl ?_ | refine r_skip rfl rfl rfl ?_)
    refine r_bin rfl rfl rfl rfl rfl rfl rfl (binV_cat (a := [dg (a % 10)]) (b := t) (by simp; omega)) ?_
    repeat (first | refine r_op rfl rfl rfl rfl ?_ | refine r_skip rfl rfl rfl ?_ | refine .done ?_ | refine r_seq (T := TT) ?_ | refine r_region (T := TT) rfl ?_ | refine r_block (T := TT) ?_ | refine r_then (T := TT) rfl ?_ | refine r_else (T := TT) rfl ?_)
    refine ⟨(a / 10, dg (a % 10) :: t), ⟨?_, ?_⟩, ?_, weak ⟨rfl, rfl, rfl, trivial⟩ ⟨rfl, trivial⟩ rfl⟩
    · rw [ha, dec_pos h0]; simp
    · exact Nat.le_trans (digs_len_mono (Nat.div_le_self _ _)) hl
    · dsimp only; omega
  · have h0 : a = 0 := by
      have := of_decide_eq_false h
      exact digs_length_zero.1 (by omega)
    subst h0
    rw [dec_zero, List.nil_append] at ha
    refine r_exit ?_
    refine r_seq ?_
    refine r_seq ?_
    refine r_region rfl ?_
    iterate 1 (first | refine r_op rfl rfl rfl rfl ?_ | refine r_skip rfl rfl rfl ?_)
    refine r_bin rfl rfl rfl rfl rfl rfl rfl (binV_eqS (b := [])) ?_
    repeat (first | refine r_op rfl rfl rfl rfl ?_ | refine r_skip rfl rfl rfl ?_ | refine .done ?_ | refine r_seq (T := TT) ?_ | refine r_region (T := TT) rfl ?_ | refine r_block (T := TT) ?_ | refine r_then (T := TT) rfl ?_ | refine r_else (T := TT) rfl ?_)
    by_cases hz0 : z = 0
    · have ht : t = [] := by rw [← ha, hz0]; exact dec_zero
      subst hz0
      refine r_then2 (T := TT) rfl ?_ ?_
      · exact decide_eq_true ht
      repeat (first | refine r_op rfl rfl rfl rfl ?_ | refine r_skip rfl rfl rfl ?_ | refine .done ?_ | refine r_seq (T := TT) ?_ | refine r_region (T := TT) rfl ?_ | refine r_block (T := TT) ?_ | refine r_then (T := TT) rfl ?_ | refine r_else (T := TT) rfl ?_)
      exact r_fin (T := TT) rfl rfl
    · have ht : t ≠ [] := by
        rw [← ha, dec_pos (by omega)]
        simp
      refine r_else2 (T := TT) rfl ?_ ?_
      · exact decide_eq_false ht
      refine r_skipc ?_
      repeat (first | refine r_op rfl rfl rfl rfl ?_ | refine r_skip rfl rfl rfl ?_ | refine .done ?_ | refine r_seq (T := TT) ?_ | refine r_region (T := TT) rfl ?_ | refine r_block (T := TT) ?_ | refine r_then (T := TT) rfl ?_ | refine r_else (T := TT) rfl ?_)
      refine r_cond rfl (fun h => ?_) (fun h => ?_)
      · have hneg := of_decide_eq_true h
        refine r_seq ?_
        refine r_region rfl ?_
        iterate 1 (first | refine r_op rfl rfl rfl rfl ?_ | refine r_skip rfl rfl rfl ?_)
        refine r_bin rfl rfl rfl rfl rfl rfl rfl (binV_cat (a := [45]) (b := t) (by rw [← ha]; simp; omega)) ?_
        repeat (first | refine r_op rfl rfl rfl rfl ?_ | refine r_skip rfl rfl rfl ?_ | refine .done ?_ | refine r_seq (T := TT) ?_ | refine r_region (T := TT) rfl ?_ | refine r_block (T := TT) ?_ | refine r_then (T := TT) rfl ?_ | refine r_else (T := TT) rfl ?_)
        have hf : fmt z = [45] ++ t := by
          unfold fmt
          rw [if_neg hz0, if_pos hneg, ha]
        rw [hf]
        exact r_fin (T := TT) rfl rfl
      · have hneg := of_decide_eq_false h
        refine r_skipc ?_
        repeat (first | refine r_op rfl rfl rfl rfl ?_ | refine r_skip rfl rfl rfl ?_ | refine .done ?_ | refine r_seq (T := TT) ?_ | refine r_region (T := TT) rfl ?_ | refine r_block (T := TT) ?_ | refine r_then (T := TT) rfl ?_ | refine r_else (T := TT) rfl ?_)
        have hf : fmt z = t := by
          unfold fmt
          rw [if_neg hz0, if_neg hneg, ha]
          rfl
        rw [hf]
        exact r_fin (T := TT) rfl rfl
theorem okz_r1_Format {z : Int} (hz : FitZ z) : CallOK Tryz.prog 72 [dZ z] (.one (dL (fmt z))) := ok_r1_Format (Wd_digs _) (toZ_int z) hz
end Go.Proofs.YtecjnnhkbmkemaaGreatDoor
