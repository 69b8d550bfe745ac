/- Parse of the reference, over plain data. -/
import Derived.Test.YtecjnnhkbmkemaaGreatDoorPRFmt
import Derived.Test.YtecjnnhkbmkemaaGreatDoorPPrs
import Derived.Test.YtecjnnhkbmkemaaGreatDoorPAmX
namespace Go.Proofs.YtecjnnhkbmkemaaGreatDoor
open Go.RowKit
theorem num_take {l : List UInt8} {i : Nat} (h : i < l.length) : num (l.take (i + 1)) = 10 * num (l.take i) + dv l[i] := by
  rw [List.take_succ_eq_append_getElem h, num_snoc]
set_option maxHeartbeats 1000000 in
theorem okz_r1_Parse (s : List UInt8) : CallOK Tryz.prog 74 [dL s] (.tup [dZ (pz s).1, dN .i64 (pz s).2]) := by
  have z0 : dZ 0 = .agg [.val (.bool false), .sl 0 []] := by unfold dZ; rw [e0]
  have hsz := Bs_size s
  by_cases hl : s.length ≤ 65536
  · have hdl := pds_len s
    refine callOK_of TT_ok mixT Tryz.func74 rfl rfl (Nat.le_of_ble_eq_true rfl) ?_
    repeat (first | refine r_op rfl rfl rfl rfl ?_ | refine r_skip rfl rfl rfl ?_ | refine .done ?_ | refine r_seq (T := TT) ?_ | refine r_region (T := TT) rfl ?_ | refine r_block (T := TT) ?_ | refine r_then (T := TT) rfl ?_ | refine r_else (T := TT) rfl ?_)
    refine r_else2 (T := TT) rfl ?_ ?_
    · exact decide_eq_false (by omega)
    refine r_skipc ?_
    repeat refine r_seq (T := TT) ?_
    refine r_region (T := TT) rfl ?_
    repeat (first | refine r_op rfl rfl rfl rfl ?_ | refine r_skip rfl rfl rfl ?_)
    try refine .done ?_
    refine r_cut ⟨[(0, .d (dL s)), (2, .box 0 0), (3, .d (dN .i64 0)), (4, .d (dL (pds s)))], [(0, some [.val (.bool false), .sl 0 []])]⟩ (fun s' hw => ?_) (fun R hR hret => ?_)
    · refine r_seq ?_
      refine r_weak hw rfl ?_
      repeat (first | refine r_op rfl rfl rfl rfl ?_ | refine r_skip rfl rfl rfl ?_ | refine .done ?_ | refine r_seq (T := TT) ?_ | refine r_region (T := TT) rfl ?_ | refine r_block (T := TT) ?_ | refine r_then (T := TT) rfl ?_ | refine r_else (T := TT) rfl ?_)
      refine r_loop Nat (fun i => i ≤ (pds s).length ∧ ∀ c ∈ (pds s).take i, isD c) (fun i => ⟨[(0, .d (dL s)), (2, .box 0 0), (3, .d (dN .i64 0)), (4, .d (dL (pds s))), (5, .box 6001 0), (6, .d (dN .i64 i))], [(0, some [.val (.bool false), .sl 0 []]), (6001, some (aZ (num ((pds s).take i) : Nat)))]⟩) (fun i => (pds s).length - i) 0 ⟨by omega, by simp⟩ (weak ⟨rfl, rfl, rfl, rfl, rfl, rfl, trivial⟩ ⟨rfl, congrArg some e0.symm, trivial⟩ rfl) ?_
      rintro i ⟨hi, hd⟩
      have hsd := Bs_size (pds s)
      repeat refine r_seq (T := TT) ?_
      refine r_region (T := TT) rfl ?_
      repeat (first | refine r_op rfl rfl rfl rfl ?_ | refine r_skip rfl rfl rfl ?_)
      try refine .done ?_
      refine r_cond rfl (fun h => ?_) (fun h => ?_)
      · have h := of_decide_eq_true h
        have hi : i < (pds s).length := by omega
        refine r_skipc ?_
        repeat refine r_seq (T := TT) ?_
        refine r_region (T := TT) rfl ?_
        repeat (first | refine r_op rfl rfl rfl rfl ?_ | refine r_skip rfl rfl rfl ?_)
        try refine .done ?_
        refine r_sidx TT_ok (i := i) (c := (pds s)[i]) (List.getElem?_eq_getElem hi) rfl rfl rfl rfl rfl rfl rfl rfl ?_
        by_cases h48 : (pds s)[i].toNat < 48
        · have hbad : ¬ pok s := fun hp => by have := (hp.2.2.1 _ (List.getElem_mem hi)).1; omega
          rw [pz_bad hbad, z0]
          refine r_eq (v' := .bool true) rfl rfl rfl rfl ?_ ?_
          · exact congrArg Value.bool (decide_eq_true (by omega))
          repeat (first | refine r_op rfl rfl rfl rfl ?_ | refine r_skip rfl rfl rfl ?_ | refine .done ?_ | refine r_seq (T := TT) ?_ | refine r_region (T := TT) rfl ?_ | refine r_block (T := TT) ?_ | refine r_then (T := TT) rfl ?_ | refine r_else (T := TT) rfl ?_)
          exact r_fin (T := TT) rfl rfl
        · refine r_eq (v' := .bool false) rfl rfl rfl rfl ?_ ?_
          · exact congrArg Value.bool (decide_eq_false (by omega))
          iterate 3 (first | refine r_op rfl rfl rfl rfl ?_ | refine r_skip rfl rfl rfl ?_)
          refine r_sidx TT_ok (i := i) (c := (pds s)[i]) (List.getElem?_eq_getElem hi) rfl rfl rfl rfl rfl rfl rfl rfl ?_
          by_cases h57 : (pds s)[i].toNat > 57
          · have hbad : ¬ pok s := fun hp => by have := (hp.2.2.1 _ (List.getElem_mem hi)).2; omega
            rw [pz_bad hbad, z0]
            refine r_eq (v' := .bool true) rfl rfl rfl rfl ?_ ?_
            · exact congrArg Value.bool (decide_eq_true (by omega))
            repeat (first | refine r_op rfl rfl rfl rfl ?_ | refine r_skip rfl rfl rfl ?_ | refine .done ?_ | refine r_seq (T := TT) ?_ | refine r_region (T := TT) rfl ?_ | refine r_block (T := TT) ?_ | refine r_then (T := TT) rfl ?_ | refine r_else (T := TT) rfl ?_)
            exact r_fin (T := TT) rfl rfl
          · refine r_eq (v' := .bool false) rfl rfl rfl rfl ?_ ?_
            · exact congrArg Value.bool (decide_eq_false (by omega))
            have hD : isD (pds s)[i] := ⟨by omega, by omega⟩
            have hl1 : ((pds s).take i).length ≤ 65536 := by rw [List.length_take]; omega
            have hn0 := num_fit hd
            have hdv := dv_lt hD
            have hs := num_take hi
            have hcv : (Value.int .i64 (IntKind.i64.wrap (IntKind.u8.wrap (((pds s)[i].toNat : Int) - 48))) : Value) = .int .i64 (dv (pds s)[i] : Nat) := by
              rw [IntWalk.u8_in _ (by omega), IntWalk.i64_in _ (by omega)]
              unfold dv
              congr 1
              omega
            have hf10 : FitZ ((num ((pds s).take i) : Nat) * 10 : Int) := by
              have := digs_mul10 (Nat.le_trans hn0 hl1) (m := 10 * num ((pds s).take i)) (by omega)
              unfold FitZ
              rw [show ((num ((pds s).take i) : Nat) * 10 : Int).natAbs = 10 * num ((pds s).take i) by omega]
              omega
            repeat (first | refine r_op rfl rfl rfl rfl ?_ | refine r_skip rfl rfl rfl ?_ | refine .done ?_ | refine r_seq (T := TT) ?_ | refine r_region (T := TT) rfl ?_ | refine r_block (T := TT) ?_ | refine r_then (T := TT) rfl ?_ | refine r_else (T := TT) rfl ?_)
            refine r_call (ok_r1_FromInt 10 (by decide) (by decide)) rfl rfl rfl rfl rfl rfl rfl ?_
            repeat (first | refine r_op rfl rfl rfl rfl ?_ | refine r_skip rfl rfl rfl ?_ | refine .done ?_ | refine r_seq (T := TT) ?_ | refine r_region (T := TT) rfl ?_ | refine r_block (T := TT) ?_ | refine r_then (T := TT) rfl ?_ | refine r_else (T := TT) rfl ?_)
            refine r_call (okz_r1_Mul (a := (num ((pds s).take i) : Nat)) (b := 10) (Nat.le_trans hn0 (Nat.le_trans hl1 (by decide))) (.small (by decide))) rfl rfl rfl rfl rfl rfl rfl ?_
            iterate 2 (first | refine r_op rfl rfl rfl rfl ?_ | refine r_skip rfl rfl rfl ?_)
            refine r_sidx TT_ok (i := i) (c := (pds s)[i]) (List.getElem?_eq_getElem hi) rfl rfl rfl rfl rfl rfl rfl rfl ?_
            iterate 1 (first | refine r_op rfl rfl rfl rfl ?_ | refine r_skip rfl rfl rfl ?_)
            refine r_eq rfl rfl rfl rfl hcv ?_
            refine r_call (ok_r1_FromInt (dv (pds s)[i] : Nat) (by omega) (by omega)) rfl rfl rfl rfl rfl rfl rfl ?_
            refine r_call (okz_r1_Add (a := (num ((pds s).take i) : Nat) * 10) (b := (dv (pds s)[i] : Nat)) hf10 (.small (by omega))) rfl rfl rfl rfl rfl rfl rfl ?_
            repeat (first | refine r_op rfl rfl rfl rfl ?_ | refine r_skip rfl rfl rfl ?_ | refine .done ?_ | refine r_seq (T := TT) ?_ | refine r_region (T := TT) rfl ?_ | refine r_block (T := TT) ?_ | refine r_then (T := TT) rfl ?_ | refine r_else (T := TT) rfl ?_)
            have hnum : ((num ((pds s).take i) : Nat) * 10 + (dv (pds s)[i] : Nat) : Int) = (num ((pds s).take (i + 1)) : Nat) := by rw [hs]; omega
            refine ⟨i + 1, ⟨hi, fun c hc => ?_⟩, by omega, weak ⟨rfl, rfl, rfl, rfl, rfl, tv_i64 rfl (by omega), trivial⟩ ⟨rfl, congrArg (fun z => some (aZ z)) hnum, trivial⟩ rfl⟩
            rw [List.take_succ_eq_append_getElem hi, List.mem_append] at hc
            rcases hc with hc | hc
            · exact hd c hc
            · rw [List.mem_singleton] at hc; rw [hc]; exact hD
      · have h := of_decide_eq_false h
        have hi : i = (pds s).length := by omega
        subst hi
        rw [List.take_length] at hd ⊢
        refine r_exit ?_
        have hfz : FitZ (sgnd (pneg s) (num (pds s))) := by
          have := num_fit hd
          unfold FitZ
          rw [show (sgnd (pneg s) (num (pds s))).natAbs = num (pds s) by unfold sgnd; split <;> omega]
          omega
        refine r_cut ⟨[(0, .d (dL s)), (2, .box 0 0), (3, .d (dN .i64 0)), (5, .box 6001 0)], [(0, some [.val (.bool false), .sl 0 []]), (6001, some (aZ (sgnd (pneg s) (num (pds s)))))]⟩ (fun s' hw => ?_) (fun R hR hret => ?_)
        · refine r_seq ?_
          refine r_seq ?_
          refine r_weak hw rfl ?_
          iterate 1 (first | refine r_op rfl rfl rfl rfl ?_ | refine r_skip rfl rfl rfl ?_)
          refine r_call (okz_r1_Format hfz) rfl rfl rfl rfl rfl rfl rfl ?_
          iterate 1 (first | refine r_op rfl rfl rfl rfl ?_ | refine r_skip rfl rfl rfl ?_)
          refine r_bin rfl rfl rfl rfl rfl rfl rfl binV_neS ?_
          refine .done ?_
          by_cases hok : okT (pneg s) (pds s)
          · have := fmt_ok hok
            rw [sg_p] at this
            refine r_else2 (T := TT) rfl ?_ ?_
            · exact (by rw [this]; simp)
            rw [pz_ok ⟨hl, hok⟩]
            refine r_skipc ?_
            repeat (first | refine r_op rfl rfl rfl rfl ?_ | refine r_skip rfl rfl rfl ?_ | refine .done ?_ | refine r_seq (T := TT) ?_ | refine r_region (T := TT) rfl ?_ | refine r_block (T := TT) ?_ | refine r_then (T := TT) rfl ?_ | refine r_else (T := TT) rfl ?_)
            exact r_fin (T := TT) rfl rfl
          · have : fmt (sgnd (pneg s) (num (pds s))) ≠ s := fun e => hok (ok_of_fmt hd (by rw [sg_p]; exact e))
            refine r_then2 (T := TT) rfl ?_ ?_
            · exact (by simp [this])
            rw [pz_bad (fun h => hok h.2), z0]
            repeat (first | refine r_op rfl rfl rfl rfl ?_ | refine r_skip rfl rfl rfl ?_ | refine .done ?_ | refine r_seq (T := TT) ?_ | refine r_region (T := TT) rfl ?_ | refine r_block (T := TT) ?_ | refine r_then (T := TT) rfl ?_ | refine r_else (T := TT) rfl ?_)
            exact r_fin (T := TT) rfl rfl
        · have hlt := pds_lt s
          repeat refine r_seq (T := TT) ?_
          refine r_region (T := TT) rfl ?_
          repeat (first | refine r_op rfl rfl rfl rfl ?_ | refine r_skip rfl rfl rfl ?_)
          try refine .done ?_
          cases hp : pneg s
          · rw [hp] at hlt
            refine r_else2 (T := TT) rfl ?_ ?_
            · exact (by rw [← hlt]; congr 1; simp; omega)
            refine r_skipc ?_
            exact hR _ (weak ⟨rfl, rfl, rfl, rfl, trivial⟩ ⟨rfl, congrArg (fun z => some (aZ z)) (show ((num (pds s) : Nat) : Int) = sgnd (pneg s) (num (pds s)) by rw [hp]; rfl), trivial⟩ rfl)
          · rw [hp] at hlt
            refine r_then2 (T := TT) rfl ?_ ?_
            · exact (by rw [← hlt]; congr 1; simp; omega)
            repeat (first | refine r_op rfl rfl rfl rfl ?_ | refine r_skip rfl rfl rfl ?_ | refine .done ?_ | refine r_seq (T := TT) ?_ | refine r_region (T := TT) rfl ?_ | refine r_block (T := TT) ?_ | refine r_then (T := TT) rfl ?_ | refine r_else (T := TT) rfl ?_)
            refine r_call (okz_r1_Neg (num (pds s) : Nat)) rfl rfl rfl rfl rfl rfl rfl ?_
            repeat (first | refine r_op rfl rfl rfl rfl ?_ | refine r_skip rfl rfl rfl ?_ | refine .done ?_ | refine r_seq (T := TT) ?_ | refine r_region (T := TT) rfl ?_ | refine r_block (T := TT) ?_ | refine r_then (T := TT) rfl ?_ | refine r_else (T := TT) rfl ?_)
            exact hR _ (weak ⟨rfl, rfl, rfl, rfl, trivial⟩ ⟨rfl, congrArg (fun z => some (aZ z)) (show -((num (pds s) : Nat) : Int) = sgnd (pneg s) (num (pds s)) by rw [hp]; rfl), trivial⟩ rfl)
    · clear hret
      match s with
      | [] =>
        refine r_seq ?_
        refine r_region rfl ?_
        iterate 2 (first | refine r_op rfl rfl rfl rfl ?_ | refine r_skip rfl rfl rfl ?_)
        refine r_eq (v' := .bool false) rfl rfl rfl rfl ?_ ?_
        · exact congrArg Value.bool (rfl)
        repeat (first | refine r_op rfl rfl rfl rfl ?_ | refine r_skip rfl rfl rfl ?_ | refine .done ?_ | refine r_seq (T := TT) ?_ | refine r_region (T := TT) rfl ?_ | refine r_block (T := TT) ?_ | refine r_then (T := TT) rfl ?_ | refine r_else (T := TT) rfl ?_)
        refine r_skipc ?_
        exact hR _ (weak ⟨rfl, rfl, rfl, rfl, trivial⟩ ⟨rfl, trivial⟩ rfl)
      | c :: r =>
        refine r_seq ?_
        refine r_region rfl ?_
        iterate 2 (first | refine r_op rfl rfl rfl rfl ?_ | refine r_skip rfl rfl rfl ?_)
        refine r_eq (v' := .bool true) rfl rfl rfl rfl ?_ ?_
        · exact congrArg Value.bool (decide_eq_true (by rw [hsz]; simp))
        iterate 2 (first | refine r_op rfl rfl rfl rfl ?_ | refine r_skip rfl rfl rfl ?_)
        refine r_sidx TT_ok (i := 0) (c := c) rfl rfl rfl rfl rfl rfl rfl rfl rfl ?_
        by_cases h : c = 45
        · subst h
          repeat (first | refine r_op rfl rfl rfl rfl ?_ | refine r_skip rfl rfl rfl ?_ | refine .done ?_ | refine r_seq (T := TT) ?_ | refine r_region (T := TT) rfl ?_ | refine r_block (T := TT) ?_ | refine r_then (T := TT) rfl ?_ | refine r_else (T := TT) rfl ?_)
          refine r_slo TT_ok (i := 1) (by simp) rfl rfl rfl rfl rfl rfl rfl rfl ?_
          repeat (first | refine r_op rfl rfl rfl rfl ?_ | refine r_skip rfl rfl rfl ?_ | refine .done ?_ | refine r_seq (T := TT) ?_ | refine r_region (T := TT) rfl ?_ | refine r_block (T := TT) ?_ | refine r_then (T := TT) rfl ?_ | refine r_else (T := TT) rfl ?_)
          exact hR _ (weak ⟨rfl, rfl, rfl, rfl, trivial⟩ ⟨rfl, trivial⟩ rfl)
        · have h45 : (c == 45) = false := beq_eq_false_iff_ne.2 h
          have hn : c.toNat ≠ 45 := fun e => h (UInt8.toNat_inj.1 e)
          refine r_eq (v' := .bool false) rfl rfl rfl rfl ?_ ?_
          · exact congrArg Value.bool (beq_eq_false_iff_ne.2 (by omega))
          repeat (first | refine r_op rfl rfl rfl rfl ?_ | refine r_skip rfl rfl rfl ?_ | refine .done ?_ | refine r_seq (T := TT) ?_ | refine r_region (T := TT) rfl ?_ | refine r_block (T := TT) ?_ | refine r_then (T := TT) rfl ?_ | refine r_else (T := TT) rfl ?_)
          refine r_skipc ?_
          exact hR _ (weak ⟨rfl, rfl, rfl, congrArg (fun x => TV.d (dL x)) (show c :: r = pds (c :: r) by simp [pds, h45]), trivial⟩ ⟨rfl, trivial⟩ rfl)
  · rw [pz_bad (fun h => hl h.1), z0]
    refine callOK_of TT_ok mixT Tryz.func74 rfl rfl (Nat.le_of_ble_eq_true rfl) ?_
    repeat (first | refine r_op rfl rfl rfl rfl ?_ | refine r_skip rfl rfl rfl ?_ | refine .done ?_ | refine r_seq (T := TT) ?_ | refine r_region (T := TT) rfl ?_ | refine r_block (T := TT) ?_ | refine r_then (T := TT) rfl ?_ | refine r_else (T := TT) rfl ?_)
    refine r_then2 (T := TT) rfl ?_ ?_
    · exact decide_eq_true (by omega)
    repeat (first | refine r_op rfl rfl rfl rfl ?_ | refine r_skip rfl rfl rfl ?_ | refine .done ?_ | refine r_seq (T := TT) ?_ | refine r_region (T := TT) rfl ?_ | refine r_block (T := TT) ?_ | refine r_then (T := TT) rfl ?_ | refine r_else (T := TT) rfl ?_)
    exact r_fin (T := TT) rfl rfl
end Go.Proofs.YtecjnnhkbmkemaaGreatDoor
