/- Parse of the reference's rational numbers over plain data. -/
import Derived.Test.YtecjnnhkbmkemaaGreatDoorPQc
import Derived.Test.YtecjnnhkbmkemaaGreatDoorPRPrs
import Derived.Test.YtecjnnhkbmkemaaGreatDoorPAmT
namespace Go.Proofs.YtecjnnhkbmkemaaGreatDoor
open Go.RowKit
theorem dpre_stop_len {t : List UInt8} {j : Nat} {c : UInt8} (h : ∀ i x, i < j → t[i]? = some x → isD x) (hc : t[j]? = some c) (hn : ¬ isD c) : (dpre t).length = j := by
  obtain ⟨hl, hg⟩ := List.getElem?_eq_some_iff.1 hc
  have e : t = t.take j ++ c :: t.drop (j + 1) := by
    rw [← hg, List.getElem_cons_drop, List.take_append_drop]
  have h1 : ∀ x ∈ t.take j, isD x := fun x hx => by
    obtain ⟨i, hi⟩ := List.getElem?_of_mem hx
    rw [List.getElem?_take] at hi
    split at hi
    · exact h i x (by omega) hi
    · cases hi
  rw [e, (dpre_all h1).1, (dpre_stop hn).1, List.append_nil, List.length_take]
  omega
theorem dpre_whole {t : List UInt8} (h : ∀ i x, i < t.length → t[i]? = some x → isD x) : dpre t = t := (dpre_self fun x hx => by
  obtain ⟨i, hi⟩ := List.getElem?_of_mem hx
  exact h i x (List.getElem?_eq_some_iff.1 hi).1 hi).1
theorem ok_r2_digits {t : List UInt8} (hl : t.length ≤ 1000000000) : CallOK Tryz.prog 73 [dL t] (.one (dN .i64 (dpre t).length)) := by
  have hsz := Bs_size t
  refine callOK_of TT_ok mixT Tryz.func73 rfl rfl (Nat.le_of_ble_eq_true rfl) ?_
  repeat (first | refine r_op rfl rfl rfl rfl ?_ | refine r_skip rfl rfl rfl ?_ | refine .done ?_ | refine r_seq (T := TT) ?_ | refine r_region (T := TT) rfl ?_ | refine r_block (T := TT) ?_ | refine r_then (T := TT) rfl ?_ | refine r_else (T := TT) rfl ?_)
  refine r_loop Nat (fun j => j ≤ t.length ∧ ∀ i c, i < j → t[i]? = some c → isD c) (fun j => ⟨[(0, .d (dL t)), (3, .d (dN .i64 j))], []⟩) (fun j => t.length - j) 0 ⟨Nat.zero_le _, fun i c h => absurd h (Nat.not_lt_zero _)⟩ (weak ⟨rfl, rfl, trivial⟩ trivial rfl) ?_
  rintro j ⟨hj, hall⟩
  repeat refine r_seq (T := TT) ?_
  refine r_region (T := TT) rfl ?_
  iterate 3 (first | refine r_op rfl rfl rfl rfl ?_ | refine r_skip rfl rfl rfl ?_)
  by_cases hlt : j < t.length
  · obtain ⟨c, hc⟩ : ∃ c, t[j] = c := ⟨_, rfl⟩
    have hcj : t[j]? = some c := by rw [List.getElem?_eq_getElem hlt, hc]
    refine r_eq (v' := .bool true) rfl rfl rfl rfl ?_ ?_
    · exact congrArg Value.bool (decide_eq_true (by omega))
    iterate 3 (first | refine r_op rfl rfl rfl rfl ?_ | refine r_skip rfl rfl rfl ?_)
    refine r_sidx TT_ok (l := t) (i := j) hcj rfl rfl rfl rfl rfl rfl rfl rfl ?_
    by_cases h1 : 48 ≤ c.toNat
    · refine r_eq (v' := .bool true) rfl rfl rfl rfl ?_ ?_
      · exact congrArg Value.bool (decide_eq_true (by omega))
      iterate 4 (first | refine r_op rfl rfl rfl rfl ?_ | refine r_skip rfl rfl rfl ?_)
      refine r_sidx TT_ok (l := t) (i := j) hcj rfl rfl rfl rfl rfl rfl rfl rfl ?_
      by_cases h2 : c.toNat ≤ 57
      · refine r_eq (v' := .bool true) rfl rfl rfl rfl ?_ ?_
        · exact congrArg Value.bool (decide_eq_true (by omega))
        repeat (first | refine r_op rfl rfl rfl rfl ?_ | refine r_skip rfl rfl rfl ?_ | refine .done ?_ | refine r_seq (T := TT) ?_ | refine r_region (T := TT) rfl ?_ | refine r_block (T := TT) ?_ | refine r_then (T := TT) rfl ?_ | refine r_else (T := TT) rfl ?_)
        refine ⟨j + 1, ⟨hlt, fun i c' hi hp => ?_⟩, by omega, weak ⟨rfl, ?_, trivial⟩ trivial rfl⟩
        · rcases Nat.lt_succ_iff_lt_or_eq.1 hi with h3 | rfl
          · exact hall i c' h3 hp
          · rw [hcj] at hp; cases hp; exact ⟨h1, h2⟩
        · exact tv_i64 (by omega) (by omega)
      · refine r_eq (v' := .bool false) rfl rfl rfl rfl ?_ ?_
        · exact congrArg Value.bool (decide_eq_false (by omega))
        repeat (first | refine r_op rfl rfl rfl rfl ?_ | refine r_skip rfl rfl rfl ?_ | refine .done ?_ | refine r_seq (T := TT) ?_ | refine r_region (T := TT) rfl ?_ | refine r_block (T := TT) ?_ | refine r_then (T := TT) rfl ?_ | refine r_else (T := TT) rfl ?_)
        rw [dpre_stop_len hall hcj (fun h => by unfold isD at h; omega)]
        exact r_fin (T := TT) rfl rfl
    · refine r_eq (v' := .bool false) rfl rfl rfl rfl ?_ ?_
      · exact congrArg Value.bool (decide_eq_false (by omega))
      repeat (first | refine r_op rfl rfl rfl rfl ?_ | refine r_skip rfl rfl rfl ?_ | refine .done ?_ | refine r_seq (T := TT) ?_ | refine r_region (T := TT) rfl ?_ | refine r_block (T := TT) ?_ | refine r_then (T := TT) rfl ?_ | refine r_else (T := TT) rfl ?_)
      rw [dpre_stop_len hall hcj (fun h => by unfold isD at h; omega)]
      exact r_fin (T := TT) rfl rfl
  · have hge : j = t.length := by omega
    refine r_eq (v' := .bool false) rfl rfl rfl rfl ?_ ?_
    · exact congrArg Value.bool (decide_eq_false (by omega))
    repeat (first | refine r_op rfl rfl rfl rfl ?_ | refine r_skip rfl rfl rfl ?_ | refine .done ?_ | refine r_seq (T := TT) ?_ | refine r_region (T := TT) rfl ?_ | refine r_block (T := TT) ?_ | refine r_then (T := TT) rfl ?_ | refine r_else (T := TT) rfl ?_)
    rw [dpre_whole (fun i x hi hx => hall i x (by omega) hx), ← hge]
    exact r_fin (T := TT) rfl rfl
theorem okT_iff {p : List UInt8} (h : ∀ c ∈ p, isD c) : okT false p ↔ p ≠ [] ∧ (1 < p.length → p.head? ≠ some 48) := by
  constructor
  · rintro ⟨h1, _, h3⟩
    refine ⟨h1, fun hl e => ?_⟩
    rcases h3 with h3 | ⟨h3, _⟩
    · cases p with
      | nil => cases e
      | cons c r => simp at e; exact h3 c r rfl e
    · omega
  · rintro ⟨h1, h2⟩
    refine ⟨h1, h, ?_⟩
    by_cases hl : 1 < p.length
    · exact .inl fun c r e => by
        have := h2 hl
        rw [e] at this
        simpa using this
    · have := List.length_pos_iff.2 h1
      exact .inr ⟨by omega, rfl⟩
section
variable {P : Program} {T : TypeId → Option Ty} {n : Nat} {ops : Array Oper} {id : Nat} {draw : Bool} {K : AS → Prop} {s : AS} {k : Nat} {o : Oper} {os : List Oper} {fps : List FP}
theorem r_shi2 (hT : ∀ t d, T t = some d → TyOK P t d) {t : TypeId} {ty : Ty} {x y : Operand} {l l' : List UInt8} {i : Nat} {ik : IntKind} (he : l.take i = l') (hi : i ≤ l.length) (h1 : gd ops s o = some true) (h2 : o.op = .slice t x none (some y) none) (h5 : T t = some ty) (h6 : ty.isStr = true) (h7 : s.ev x = .d (.leaf (.val (vL l)))) (h8 : s.ev y = .d (.leaf (.val (.int ik (i : Nat)))))
    (h3 : dstOK n o.dst = true) (h4 : chk draw ops (fpOf ops o ⟨.d (dL l'), none⟩ []) k fps = true) (h : AOps P T n ops id draw K (k + 1) os (s.eff o.dst ⟨.d (dL l'), none⟩) (fpOf ops o ⟨.d (dL l'), none⟩ [] :: fps)) : AOps P T n ops id draw K k (o :: os) s fps := by
  subst he; exact r_shi hT hi h1 h2 h5 h6 h7 h8 h3 h4 h
theorem r_slo2 (hT : ∀ t d, T t = some d → TyOK P t d) {t : TypeId} {ty : Ty} {x y : Operand} {l l' : List UInt8} {i : Nat} {ik : IntKind} (he : l.drop i = l') (hi : i ≤ l.length) (h1 : gd ops s o = some true) (h2 : o.op = .slice t x (some y) none none) (h5 : T t = some ty) (h6 : ty.isStr = true) (h7 : s.ev x = .d (.leaf (.val (vL l)))) (h8 : s.ev y = .d (.leaf (.val (.int ik (i : Nat)))))
    (h3 : dstOK n o.dst = true) (h4 : chk draw ops (fpOf ops o ⟨.d (dL l'), none⟩ []) k fps = true) (h : AOps P T n ops id draw K (k + 1) os (s.eff o.dst ⟨.d (dL l'), none⟩) (fpOf ops o ⟨.d (dL l'), none⟩ [] :: fps)) : AOps P T n ops id draw K k (o :: os) s fps := by
  subst he; exact r_slo hT hi h1 h2 h5 h6 h7 h8 h3 h4 h
end
open Classical in
noncomputable def swQ (n : Nat) : List UInt8 → Option Rat
  | [] => some ((n : Int) : Rat)
  | c :: b => if c = 46 then (if b ≠ [] ∧ (∀ x ∈ b, isD x) then some (Rat.divInt ((n * 10 ^ b.length + num b : Nat) : Int) ((10 ^ b.length : Nat) : Int)) else none) else if c = 47 then (if okT false b ∧ num b ≠ 0 ∧ num b ≠ 1 ∧ Nat.gcd n (num b) = 1 then some (Rat.divInt (n : Int) (num b : Int)) else none) else none
theorem posQ_sw {t : List UInt8} (h : okT false (dpre t)) : posQ t = swQ (num (dpre t)) (drst t) := by
  unfold posQ swQ
  rw [if_pos h]
  cases drst t <;> rfl
theorem sw_46 {n : Nat} {c : UInt8} {b : List UInt8} (hc : c = 46) (h : ¬ (b ≠ [] ∧ (∀ x ∈ b, isD x))) : swQ n (c :: b) = none := by subst hc; unfold swQ; dsimp only; rw [if_pos rfl, if_neg h]
theorem sw_46t {n : Nat} {c : UInt8} {b : List UInt8} (hc : c = 46) (h : b ≠ [] ∧ (∀ x ∈ b, isD x)) : swQ n (c :: b) = some (Rat.divInt ((n * 10 ^ b.length + num b : Nat) : Int) ((10 ^ b.length : Nat) : Int)) := by subst hc; unfold swQ; dsimp only; rw [if_pos rfl, if_pos h]
theorem sw_47 {n : Nat} {c : UInt8} {b : List UInt8} (hc : c = 47) (h : ¬ (okT false b ∧ num b ≠ 0 ∧ num b ≠ 1 ∧ Nat.gcd n (num b) = 1)) : swQ n (c :: b) = none := by subst hc; unfold swQ; dsimp only; rw [if_neg (by decide), if_pos rfl, if_neg h]
theorem sw_47t {n : Nat} {c : UInt8} {b : List UInt8} (hc : c = 47) (h : okT false b ∧ num b ≠ 0 ∧ num b ≠ 1 ∧ Nat.gcd n (num b) = 1) : swQ n (c :: b) = some (Rat.divInt (n : Int) (num b : Int)) := by subst hc; unfold swQ; dsimp only; rw [if_neg (by decide), if_pos rfl, if_pos h]
theorem sw_no {n : Nat} {c : UInt8} {b : List UInt8} (h : c ≠ 46) (h' : c ≠ 47) : swQ n (c :: b) = none := by unfold swQ; dsimp only; rw [if_neg h, if_neg h']
theorem dpre_eq_len {b : List UInt8} : (dpre b).length = b.length ↔ ∀ x ∈ b, isD x := by
  constructor
  · intro h
    have e : dpre b = b := by
      have := dpre_rst b
      have h2 := congrArg List.length this
      rw [List.length_append] at h2
      rw [List.eq_nil_of_length_eq_zero (show (drst b).length = 0 by omega), List.append_nil] at this
      exact this
    rw [← e]
    exact dpre_isD b
  · intro h; rw [(dpre_self h).1]
theorem u8_ne {c d : UInt8} (h : c ≠ d) : ¬ (c.toNat : Int) = d.toNat := fun e => h (UInt8.toNat_inj.1 (by omega))
theorem take_dpre (t : List UInt8) : t.take (dpre t).length = dpre t := by
  have := dpre_rst t
  conv => lhs; rw [← this]
  rw [List.take_left' (by rw [this])]
theorem drop_dpre (t : List UInt8) : t.drop (dpre t).length = drst t := by
  have := dpre_rst t
  conv => lhs; rw [← this]
  rw [List.drop_left' (by rw [this])]
theorem dpre_len (t : List UInt8) : (dpre t).length ≤ t.length := by
  have := congrArg List.length (dpre_rst t)
  rw [List.length_append] at this
  omega
noncomputable def prR (s : List UInt8) : RV := match parseQ s with
  | some q => .tup [dQ q, dN .i64 0]
  | none => .tup [dQ0, dN .i64 2]
theorem prR_some {s : List UInt8} {q : Rat} (h : parseQ s = some q) : prR s = .tup [dQ q, dN .i64 0] := by unfold prR; rw [h]
theorem prR_none {s : List UInt8} (h : parseQ s = none) : prR s = .tup [dQ0, dN .i64 2] := by unfold prR; rw [h]
theorem parse_bad {s : List UInt8} (h : posQ (pds s) = none) : parseQ s = none := by unfold parseQ; split <;> simp [h]
theorem parse_pos {s : List UInt8} {n d : Int} (hl : s.length ≤ 65536) (h : posQ (pds s) = some (Rat.divInt n d)) (hn : pneg s = false) : parseQ s = some (Rat.divInt n d) := by
  unfold parseQ; rw [if_pos hl, h]; simp [hn]
theorem divInt_eq_zero {n d : Int} (hd : d ≠ 0) : Rat.divInt n d = 0 ↔ n = 0 := by
  have h0 : (0 : Rat) = Rat.divInt 0 1 := by rfl
  rw [h0, Rat.divInt_eq_divInt_iff hd (by decide)]
  simp
theorem parse_neg0 {s : List UInt8} {n d : Int} (hl : s.length ≤ 65536) (h : posQ (pds s) = some (Rat.divInt n d)) (hn : pneg s = true) (h0 : n = 0) (hd : d ≠ 0) : parseQ s = none := by
  unfold parseQ; rw [if_pos hl, h]; simp [hn, (divInt_eq_zero hd).2 h0]
theorem parse_neg {s : List UInt8} {n d : Int} (hl : s.length ≤ 65536) (h : posQ (pds s) = some (Rat.divInt n d)) (hn : pneg s = true) (h0 : ¬ n = 0) (hd : d ≠ 0) : parseQ s = some (Rat.divInt (-n) d) := by
  have : ¬ Rat.divInt n d = 0 := fun e => h0 ((divInt_eq_zero hd).1 e)
  unfold parseQ; rw [if_pos hl, h]; simp [hn, this, Rat.neg_divInt]
theorem list_head {b : List UInt8} (h : b ≠ []) : ∃ d b', b = d :: b' := by
  cases b with
  | nil => exact absurd rfl h
  | cons d b' => exact ⟨d, b', rfl⟩
theorem r_fin0 {rs : List ResultVar} {s : AS} {v : RV} (h : v = .tup [dQ0, dN .i64 2]) (h1 : resA TT s rs = some [dQ0, dN .i64 2]) : ∃ l, resA TT s rs = some l ∧ rvOf l = v := ⟨_, h1, h.symm⟩
theorem sz_p10 {k j : Nat} (h : k < j) : Sz j ((10 ^ k : Nat) : Int) := by
  unfold Sz
  rw [Int.natAbs_natCast]
  exact Nat.lt_of_le_of_lt (Nat.pow_le_pow_left (by decide) k) (Nat.pow_lt_pow_right (by decide) h)
set_option maxHeartbeats 4000000 in
theorem ok_r2_Parse (s : List UInt8) : CallOK Tryz.prog 32 [dL s] (prR s) := by
  have hsz := Bs_size s
  by_cases hl : s.length ≤ 65536
  · obtain ⟨t, ht⟩ : ∃ t, pds s = t := ⟨_, rfl⟩
    have htl : t.length ≤ s.length := by rw [← ht]; exact pds_len s
    obtain ⟨p, hp⟩ : ∃ p, dpre t = p := ⟨_, rfl⟩
    obtain ⟨r, hr⟩ : ∃ r, drst t = r := ⟨_, rfl⟩
    have hpd : ∀ c ∈ p, isD c := by rw [← hp]; exact dpre_isD t
    have hpl : p.length ≤ t.length := by rw [← hp]; exact dpre_len t
    have hpr : p ++ r = t := by rw [← hp, ← hr]; exact dpre_rst t
    have hrl : p.length + r.length = t.length := by rw [← hpr, List.length_append]
    have htk : t.take p.length = p := by rw [← hp]; exact take_dpre t
    have hdr : t.drop p.length = r := by rw [← hp, ← hr]; exact drop_dpre t
    have hbad : ¬ okT false p → posQ (pds s) = none := fun h => by rw [ht]; unfold posQ; rw [hp, if_neg h]
    refine callOK_of TT_ok mixT Tryz.func32 rfl rfl (Nat.le_of_ble_eq_true rfl) ?_
    repeat (first | refine r_op rfl rfl rfl rfl ?_ | refine r_skip rfl rfl rfl ?_ | refine .done ?_ | refine r_seq (T := TT) ?_ | refine r_region (T := TT) rfl ?_ | refine r_block (T := TT) ?_ | refine r_then (T := TT) rfl ?_ | refine r_else (T := TT) rfl ?_)
    refine r_else2 (T := TT) rfl ?_ ?_
    · exact decide_eq_false (by omega)
    refine r_skipc ?_
    refine r_cut ⟨[(0, .d (dL s)), (2, .box 0 0), (3, .d (dN .i64 0)), (4, .d (dB (pneg s)))], [(0, some aQ0)]⟩ (fun s1 hw1 => ?_) (fun R hR _ => ?_)
    · refine r_cut ⟨[(0, .d (dL t)), (2, .box 0 0), (3, .d (dN .i64 0)), (4, .d (dB (pneg s)))], [(0, some aQ0)]⟩ (fun s2 hw2 => ?_) (fun R hR _ => ?_)
      · refine r_seq ?_
        refine r_weak hw2 rfl ?_
        iterate 1 (first | refine r_op rfl rfl rfl rfl ?_ | refine r_skip rfl rfl rfl ?_)
        refine r_call (ok_r2_digits (t := t) (by omega)) rfl rfl rfl rfl rfl rfl rfl ?_
        rw [hp]
        repeat (first | refine r_op rfl rfl rfl rfl ?_ | refine r_skip rfl rfl rfl ?_ | refine .done ?_)
        refine r_cutP ⟨[(0, .d (dL t)), (2, .box 0 0), (3, .d (dN .i64 0)), (4, .d (dB (pneg s))), (5, .d (dN .i64 p.length))], [(0, some aQ0)]⟩ (okT false p) (fun hok s3 hw3 => ?_) (fun R hR hret => ?_)
        · have hsp := sz_num hpd
          have c1 := okz_r1_Parse p
          rw [pz_all hpd (by omega), if_pos hok] at c1
          have sp : Sz 131080 (num p : Int) := hsp.mono (by omega)
          refine r_seq ?_
          refine r_weak hw3 rfl ?_
          iterate 2 (first | refine r_op rfl rfl rfl rfl ?_ | refine r_skip rfl rfl rfl ?_)
          refine r_shi2 TT_ok (l := t) (l' := p) (i := p.length) htk (by omega) rfl rfl rfl rfl rfl rfl rfl rfl ?_
          refine r_call (c1) rfl rfl rfl rfl rfl rfl rfl ?_
          repeat (first | refine r_op rfl rfl rfl rfl ?_ | refine r_skip rfl rfl rfl ?_ | refine .done ?_ | refine r_seq (T := TT) ?_ | refine r_region (T := TT) rfl ?_ | refine r_block (T := TT) ?_ | refine r_then (T := TT) rfl ?_ | refine r_else (T := TT) rfl ?_)
          refine r_call (ok_r1_FromInt 1 (by decide) (by decide)) rfl rfl rfl rfl rfl rfl rfl ?_
          repeat (first | refine r_op rfl rfl rfl rfl ?_ | refine r_skip rfl rfl rfl ?_ | refine .done ?_)
          repeat refine r_seq (T := TT) ?_
          refine r_region (T := TT) rfl ?_
          iterate 2 (first | refine r_op rfl rfl rfl rfl ?_ | refine r_skip rfl rfl rfl ?_)
          refine r_slo2 TT_ok (l := t) (l' := r) (i := p.length) hdr (by omega) rfl rfl rfl rfl rfl rfl rfl rfl ?_
          repeat (first | refine r_op rfl rfl rfl rfl ?_ | refine r_skip rfl rfl rfl ?_ | refine .done ?_)
          have hQ : posQ (pds s) = swQ (num p) r := by rw [ht, posQ_sw (by rw [hp]; exact hok), hp, hr]
          refine r_cutE (α := Int × Int) (fun x => ⟨[(2, .box 0 0), (3, .d (dN .i64 0)), (4, .d (dB (pneg s))), (6, .box 9007 0), (8, .box 10001 0)], [(0, some aQ0), (9007, some (aZ x.1)), (10001, some (aZ x.2))]⟩)
            (fun x => posQ (pds s) = some (Rat.divInt x.1 x.2) ∧ Sz 131080 x.1 ∧ Sz 131080 x.2 ∧ 0 < x.2) (fun x hx s4 hw4 => ?_) (fun R hR hret => ?_)
          · refine Exists.elim (Exists.intro x.1 rfl : ∃ N, x.1 = N) fun N hN => Exists.elim (Exists.intro x.2 rfl : ∃ D, x.2 = D) fun D hD => ?_
            rw [hN, hD] at hx hw4
            have hP := hx.1
            have sN := hx.2.1
            have sD := hx.2.2.1
            have hD0 : D ≠ 0 := by have := hx.2.2.2; omega
            refine r_seq ?_
            refine r_weak hw4 rfl ?_
            cases hng : pneg s
            · repeat (first | refine r_op rfl rfl rfl rfl ?_ | refine r_skip rfl rfl rfl ?_ | refine .done ?_ | refine r_seq (T := TT) ?_ | refine r_region (T := TT) rfl ?_ | refine r_block (T := TT) ?_ | refine r_then (T := TT) rfl ?_ | refine r_else (T := TT) rfl ?_)
              refine r_call (ok_r2_Make sN sD (by omega) hD0 rfl) rfl rfl rfl rfl rfl rfl rfl ?_
              repeat (first | refine r_op rfl rfl rfl rfl ?_ | refine r_skip rfl rfl rfl ?_ | refine .done ?_ | refine r_seq (T := TT) ?_ | refine r_region (T := TT) rfl ?_ | refine r_block (T := TT) ?_ | refine r_then (T := TT) rfl ?_ | refine r_else (T := TT) rfl ?_)
              exact r_fin (T := TT) rfl (prR_some (parse_pos hl hP hng)).symm
            · by_cases hnu : N = 0
              · repeat (first | refine r_op rfl rfl rfl rfl ?_ | refine r_skip rfl rfl rfl ?_ | refine .done ?_ | refine r_seq (T := TT) ?_ | refine r_region (T := TT) rfl ?_ | refine r_block (T := TT) ?_ | refine r_then (T := TT) rfl ?_ | refine r_else (T := TT) rfl ?_)
                refine r_then2 (T := TT) rfl ?_ ?_
                · exact nil_t hnu
                repeat (first | refine r_op rfl rfl rfl rfl ?_ | refine r_skip rfl rfl rfl ?_ | refine .done ?_ | refine r_seq (T := TT) ?_ | refine r_region (T := TT) rfl ?_ | refine r_block (T := TT) ?_ | refine r_then (T := TT) rfl ?_ | refine r_else (T := TT) rfl ?_)
                exact r_fin0 (prR_none (parse_neg0 hl hP hng hnu hD0)) (by kernel_rfl)
              · repeat (first | refine r_op rfl rfl rfl rfl ?_ | refine r_skip rfl rfl rfl ?_ | refine .done ?_ | refine r_seq (T := TT) ?_ | refine r_region (T := TT) rfl ?_ | refine r_block (T := TT) ?_ | refine r_then (T := TT) rfl ?_ | refine r_else (T := TT) rfl ?_)
                refine r_else2 (T := TT) rfl ?_ ?_
                · exact nil_f hnu
                repeat (first | refine r_op rfl rfl rfl rfl ?_ | refine r_skip rfl rfl rfl ?_ | refine .done ?_ | refine r_seq (T := TT) ?_ | refine r_region (T := TT) rfl ?_ | refine r_block (T := TT) ?_ | refine r_then (T := TT) rfl ?_ | refine r_else (T := TT) rfl ?_)
                refine r_call (okz_r1_Neg _) rfl rfl rfl rfl rfl rfl rfl ?_
                repeat (first | refine r_op rfl rfl rfl rfl ?_ | refine r_skip rfl rfl rfl ?_ | refine .done ?_ | refine r_seq (T := TT) ?_ | refine r_region (T := TT) rfl ?_ | refine r_block (T := TT) ?_ | refine r_then (T := TT) rfl ?_ | refine r_else (T := TT) rfl ?_)
                refine r_call (ok_r2_Make (Sz.neg sN) sD (by omega) hD0 rfl) rfl rfl rfl rfl rfl rfl rfl ?_
                repeat (first | refine r_op rfl rfl rfl rfl ?_ | refine r_skip rfl rfl rfl ?_ | refine .done ?_ | refine r_seq (T := TT) ?_ | refine r_region (T := TT) rfl ?_ | refine r_block (T := TT) ?_ | refine r_then (T := TT) rfl ?_ | refine r_else (T := TT) rfl ?_)
                exact r_fin (T := TT) rfl (prR_some (parse_neg hl hP hng hnu hD0)).symm
          · cases r with
            | nil =>
              repeat (first | refine r_seq (T := TT) ?_ | refine r_block (T := TT) ?_)
              refine r_region (T := TT) rfl ?_
              iterate 1 (first | refine r_op rfl rfl rfl rfl ?_ | refine r_skip rfl rfl rfl ?_)
              refine r_bin rfl rfl rfl rfl rfl rfl rfl (binV_eqT (a := []) (b := []) rfl) ?_
              repeat (first | refine r_op rfl rfl rfl rfl ?_ | refine r_skip rfl rfl rfl ?_ | refine .done ?_ | refine r_seq (T := TT) ?_ | refine r_region (T := TT) rfl ?_ | refine r_block (T := TT) ?_ | refine r_then (T := TT) rfl ?_ | refine r_else (T := TT) rfl ?_)
              refine hR ((num p : Int), 1) ⟨?_, sp, (Sz.small (z := 1) (by decide)).mono (by decide), Int.one_pos⟩ _ (weak ⟨rfl, rfl, rfl, rfl, rfl, trivial⟩ ⟨rfl, rfl, rfl, trivial⟩ rfl)
              rw [hQ]
              show some ((num p : Int) : Rat) = _
              exact congrArg some (divInt_num_den ((num p : Int) : Rat)).symm
            | cons c b =>
              have hsb := Bs_size (c :: b)
              have hbl : b.length + 1 ≤ 65536 := by simp at hrl; omega
              repeat (first | refine r_seq (T := TT) ?_ | refine r_block (T := TT) ?_)
              refine r_region (T := TT) rfl ?_
              iterate 1 (first | refine r_op rfl rfl rfl rfl ?_ | refine r_skip rfl rfl rfl ?_)
              refine r_bin rfl rfl rfl rfl rfl rfl rfl (binV_eqF (a := c :: b) (b := []) (by simp)) ?_
              repeat (first | refine r_op rfl rfl rfl rfl ?_ | refine r_skip rfl rfl rfl ?_ | refine .done ?_ | refine r_seq (T := TT) ?_ | refine r_region (T := TT) rfl ?_ | refine r_block (T := TT) ?_ | refine r_then (T := TT) rfl ?_ | refine r_else (T := TT) rfl ?_)
              refine r_sidx TT_ok (l := c :: b) (i := 0) rfl rfl rfl rfl rfl rfl rfl rfl rfl ?_
              by_cases h46 : c = 46
              · refine r_eq (v' := .bool true) rfl rfl rfl rfl ?_ ?_
                · exact congrArg Value.bool (decide_eq_true (by rw [h46]; rfl))
                iterate 3 (first | refine r_op rfl rfl rfl rfl ?_ | refine r_skip rfl rfl rfl ?_)
                by_cases hb : b = []
                · refine r_eq (v' := .bool false) rfl rfl rfl rfl ?_ ?_
                  · exact congrArg Value.bool (decide_eq_false (by rw [hsb, hb]; simp))
                  repeat (first | refine r_op rfl rfl rfl rfl ?_ | refine r_skip rfl rfl rfl ?_ | refine .done ?_ | refine r_seq (T := TT) ?_ | refine r_region (T := TT) rfl ?_ | refine r_block (T := TT) ?_ | refine r_then (T := TT) rfl ?_ | refine r_else (T := TT) rfl ?_)
                  refine r_sidx TT_ok (l := c :: b) (i := 0) rfl rfl rfl rfl rfl rfl rfl rfl rfl ?_
                  refine r_eq (v' := .bool false) rfl rfl rfl rfl ?_ ?_
                  · exact congrArg Value.bool (decide_eq_false (by rw [h46]; decide))
                  repeat (first | refine r_op rfl rfl rfl rfl ?_ | refine r_skip rfl rfl rfl ?_ | refine .done ?_ | refine r_seq (T := TT) ?_ | refine r_region (T := TT) rfl ?_ | refine r_block (T := TT) ?_ | refine r_then (T := TT) rfl ?_ | refine r_else (T := TT) rfl ?_)
                  refine Eq.mpr (congrFun hret _) ?_
                  exact r_fin0 (prR_none (parse_bad (hQ.trans (sw_46 h46 (fun h => h.1 hb))))) (by kernel_rfl)
                · have hb0 : 0 < b.length := List.length_pos_iff.2 hb
                  refine r_eq (v' := .bool true) rfl rfl rfl rfl ?_ ?_
                  · exact congrArg Value.bool (decide_eq_true (by rw [hsb, List.length_cons]; omega))
                  iterate 3 (first | refine r_op rfl rfl rfl rfl ?_ | refine r_skip rfl rfl rfl ?_)
                  refine r_slo2 TT_ok (l := c :: b) (l' := b) (i := 1) rfl (by simp) rfl rfl rfl rfl rfl rfl rfl rfl ?_
                  refine r_call (ok_r2_digits (t := b) (by omega)) rfl rfl rfl rfl rfl rfl rfl ?_
                  iterate 2 (first | refine r_op rfl rfl rfl rfl ?_ | refine r_skip rfl rfl rfl ?_)
                  refine r_eq (v' := .int .i64 ((b.length : Nat))) rfl rfl rfl rfl ?_ ?_
                  · exact congrArg (Value.int .i64) (by rw [hsb, List.length_cons, IntWalk.i64_in _ (by omega)]; omega)
                  by_cases hd : ∀ x ∈ b, isD x
                  · refine r_eq (v' := .bool true) rfl rfl rfl rfl ?_ ?_
                    · exact congrArg Value.bool (decide_eq_true (by rw [dpre_eq_len.2 hd]))
                    repeat (first | refine r_op rfl rfl rfl rfl ?_ | refine r_skip rfl rfl rfl ?_ | refine .done ?_ | refine r_seq (T := TT) ?_ | refine r_region (T := TT) rfl ?_ | refine r_block (T := TT) ?_ | refine r_then (T := TT) rfl ?_ | refine r_else (T := TT) rfl ?_)
                    refine r_call (ok_r1_FromInt 10 (by decide) (by decide)) rfl rfl rfl rfl rfl rfl rfl ?_
                    repeat (first | refine r_op rfl rfl rfl rfl ?_ | refine r_skip rfl rfl rfl ?_ | refine .done ?_ | refine r_seq (T := TT) ?_ | refine r_region (T := TT) rfl ?_ | refine r_block (T := TT) ?_ | refine r_then (T := TT) rfl ?_ | refine r_else (T := TT) rfl ?_)
                    refine r_loop (Nat × Int × Int) (fun x => x.1 ≤ b.length ∧ x.2.1 = ((num (p ++ b.take x.1) : Nat) : Int) ∧ x.2.2 = ((10 ^ x.1 : Nat) : Int)) (fun x => ⟨[(2, .box 0 0), (3, .d (dN .i64 0)), (4, .d (dB (pneg s))), (6, .box 9007 0), (8, .box 10001 0), (9, .d (dL (c :: b))), (10, .box 15001 0), (11, .d (dN .i64 ((x.1 + 1 : Nat) : Int)))],
                      [(0, some aQ0), (9007, some (aZ x.2.1)), (10001, some (aZ x.2.2)), (15001, some (aZ 10))]⟩) (fun x => b.length - x.1) (0, (num p : Int), 1) ⟨Nat.zero_le _, by rw [List.take_zero, List.append_nil], rfl⟩
                      (weak ⟨rfl, rfl, rfl, rfl, rfl, rfl, rfl, rfl, trivial⟩ ⟨rfl, rfl, rfl, rfl, trivial⟩ rfl) ?_
                    rintro ⟨k, N, D⟩ ⟨hk, hN, hD⟩
                    dsimp only at hk hN hD ⊢
                    have hpk : ∀ x ∈ p ++ b.take k, isD x := fun x hx => by
                      rcases List.mem_append.1 hx with h | h
                      · exact hpd x h
                      · exact hd x (List.mem_of_mem_take h)
                    have sN : Sz 131079 N := by rw [hN]; exact (sz_num hpk).mono (by rw [List.length_append, List.length_take]; omega)
                    have sD : Sz 65538 D := by rw [hD]; exact sz_p10 (show k < 65538 by omega)
                    repeat refine r_seq (T := TT) ?_
                    refine r_region (T := TT) rfl ?_
                    iterate 3 (first | refine r_op rfl rfl rfl rfl ?_ | refine r_skip rfl rfl rfl ?_)
                    by_cases hlt : k < b.length
                    · refine r_eq (v' := .bool true) rfl rfl rfl rfl ?_ ?_
                      · exact congrArg Value.bool (decide_eq_true (by rw [hsb, List.length_cons]; omega))
                      refine Exists.elim (Exists.intro b[k] rfl : ∃ y, b[k] = y) fun y hy => ?_
                      have hyk : b[k]? = some y := by rw [List.getElem?_eq_getElem hlt, hy]
                      have hyd : isD y := hd y (List.mem_of_getElem? hyk)
                      have hyn : 48 ≤ y.toNat ∧ y.toNat ≤ 57 := hyd
                      have hdv : dv y = y.toNat - 48 := rfl
                      have s10 : Sz 1 (10 : Int) := Sz.small (by decide)
                      have sM : Sz 131080 (N * 10) := (Sz.mul sN s10).mono (by omega)
                      have hnum : ((num (p ++ b.take (k + 1)) : Nat) : Int) = N * 10 + (dv y : Nat) := by
                        rw [List.take_succ_eq_append_getElem hlt, ← List.append_assoc, num_snoc, hy, hN]
                        omega
                      repeat (first | refine r_op rfl rfl rfl rfl ?_ | refine r_skip rfl rfl rfl ?_ | refine .done ?_ | refine r_seq (T := TT) ?_ | refine r_region (T := TT) rfl ?_ | refine r_block (T := TT) ?_ | refine r_then (T := TT) rfl ?_ | refine r_else (T := TT) rfl ?_)
                      refine r_call (okz_r1_Mul (sN.fit (by decide)) (s10.fit (by decide))) rfl rfl rfl rfl rfl rfl rfl ?_
                      iterate 2 (first | refine r_op rfl rfl rfl rfl ?_ | refine r_skip rfl rfl rfl ?_)
                      refine r_sidx TT_ok (l := c :: b) (c := y) (i := k + 1) (by rw [List.getElem?_cons_succ]; exact hyk) rfl rfl rfl rfl rfl rfl rfl rfl ?_
                      refine r_eq (v' := .int .u8 ((dv y : Nat))) rfl rfl rfl rfl ?_ ?_
                      · exact congrArg (Value.int .u8) (by show IntKind.u8.wrap ((y.toNat : Int) - 48) = _; rw [IntWalk.u8_in _ (by omega)]; omega)
                      refine r_eq (v' := .int .i64 ((dv y : Nat))) rfl rfl rfl rfl ?_ ?_
                      · exact congrArg (Value.int .i64) (by show IntKind.i64.wrap ((dv y : Nat) : Int) = _; rw [IntWalk.i64_in _ (by omega)])
                      refine r_call (ok_r1_FromInt (dv y : Nat) (by omega) (by omega)) rfl rfl rfl rfl rfl rfl rfl ?_
                      refine r_call (okz_r1_Add (sM.fit (by decide)) ((Sz.small (z := ((dv y : Nat) : Int)) (by omega)).fit (by decide))) rfl rfl rfl rfl rfl rfl rfl ?_
                      repeat (first | refine r_op rfl rfl rfl rfl ?_ | refine r_skip rfl rfl rfl ?_ | refine .done ?_ | refine r_seq (T := TT) ?_ | refine r_region (T := TT) rfl ?_ | refine r_block (T := TT) ?_ | refine r_then (T := TT) rfl ?_ | refine r_else (T := TT) rfl ?_)
                      refine r_call (okz_r1_Mul (sD.fit (by decide)) (s10.fit (by decide))) rfl rfl rfl rfl rfl rfl rfl ?_
                      repeat (first | refine r_op rfl rfl rfl rfl ?_ | refine r_skip rfl rfl rfl ?_ | refine .done ?_ | refine r_seq (T := TT) ?_ | refine r_region (T := TT) rfl ?_ | refine r_block (T := TT) ?_ | refine r_then (T := TT) rfl ?_ | refine r_else (T := TT) rfl ?_)
                      refine ⟨(k + 1, N * 10 + (dv y : Nat), D * 10), ⟨hlt, hnum.symm, ?_⟩, by dsimp only; omega, weak ⟨rfl, rfl, rfl, rfl, rfl, rfl, rfl, ?_, trivial⟩ ⟨rfl, rfl, rfl, rfl, trivial⟩ rfl⟩
                      · show D * 10 = ((10 ^ (k + 1) : Nat) : Int)
                        rw [hD, Nat.pow_succ]; omega
                      · exact tv_i64 (by omega) (by omega)
                    · refine r_eq (v' := .bool false) rfl rfl rfl rfl ?_ ?_
                      · exact congrArg Value.bool (decide_eq_false (by rw [hsb, List.length_cons]; omega))
                      repeat (first | refine r_op rfl rfl rfl rfl ?_ | refine r_skip rfl rfl rfl ?_ | refine .done ?_ | refine r_seq (T := TT) ?_ | refine r_region (T := TT) rfl ?_ | refine r_block (T := TT) ?_ | refine r_then (T := TT) rfl ?_ | refine r_else (T := TT) rfl ?_)
                      have hkb : k = b.length := by omega
                      refine hR (N, D) ⟨?_, sN.mono (by decide), sD.mono (by decide), ?_⟩ _ (weak ⟨rfl, rfl, rfl, rfl, rfl, trivial⟩ ⟨rfl, rfl, rfl, trivial⟩ rfl)
                      · rw [hN, hD, hkb, List.take_length, num_append]
                        exact hQ.trans (sw_46t h46 ⟨hb, hd⟩)
                      · show 0 < D
                        rw [hD]
                        have : 0 < 10 ^ k := Nat.pow_pos (by decide)
                        omega
                  · refine r_eq (v' := .bool false) rfl rfl rfl rfl ?_ ?_
                    · exact congrArg Value.bool (decide_eq_false (fun e => hd (dpre_eq_len.1 (by omega))))
                    repeat (first | refine r_op rfl rfl rfl rfl ?_ | refine r_skip rfl rfl rfl ?_ | refine .done ?_ | refine r_seq (T := TT) ?_ | refine r_region (T := TT) rfl ?_ | refine r_block (T := TT) ?_ | refine r_then (T := TT) rfl ?_ | refine r_else (T := TT) rfl ?_)
                    refine r_sidx TT_ok (l := c :: b) (i := 0) rfl rfl rfl rfl rfl rfl rfl rfl rfl ?_
                    refine r_eq (v' := .bool false) rfl rfl rfl rfl ?_ ?_
                    · exact congrArg Value.bool (decide_eq_false (by rw [h46]; decide))
                    repeat (first | refine r_op rfl rfl rfl rfl ?_ | refine r_skip rfl rfl rfl ?_ | refine .done ?_ | refine r_seq (T := TT) ?_ | refine r_region (T := TT) rfl ?_ | refine r_block (T := TT) ?_ | refine r_then (T := TT) rfl ?_ | refine r_else (T := TT) rfl ?_)
                    refine Eq.mpr (congrFun hret _) ?_
                    exact r_fin0 (prR_none (parse_bad (hQ.trans (sw_46 h46 (fun h => hd h.2))))) (by kernel_rfl)
              · refine r_eq (v' := .bool false) rfl rfl rfl rfl ?_ ?_
                · exact congrArg Value.bool (decide_eq_false (u8_ne (d := 46) h46))
                repeat (first | refine r_op rfl rfl rfl rfl ?_ | refine r_skip rfl rfl rfl ?_ | refine .done ?_ | refine r_seq (T := TT) ?_ | refine r_region (T := TT) rfl ?_ | refine r_block (T := TT) ?_ | refine r_then (T := TT) rfl ?_ | refine r_else (T := TT) rfl ?_)
                refine r_sidx TT_ok (l := c :: b) (i := 0) rfl rfl rfl rfl rfl rfl rfl rfl rfl ?_
                by_cases h47 : c = 47
                · refine r_eq (v' := .bool true) rfl rfl rfl rfl ?_ ?_
                  · exact congrArg Value.bool (decide_eq_true (by rw [h47]; rfl))
                  iterate 3 (first | refine r_op rfl rfl rfl rfl ?_ | refine r_skip rfl rfl rfl ?_)
                  by_cases hb : b = []
                  · refine r_eq (v' := .bool false) rfl rfl rfl rfl ?_ ?_
                    · exact congrArg Value.bool (decide_eq_false (by rw [hsb, hb]; simp))
                    repeat (first | refine r_op rfl rfl rfl rfl ?_ | refine r_skip rfl rfl rfl ?_ | refine .done ?_ | refine r_seq (T := TT) ?_ | refine r_region (T := TT) rfl ?_ | refine r_block (T := TT) ?_ | refine r_then (T := TT) rfl ?_ | refine r_else (T := TT) rfl ?_)
                    refine Eq.mpr (congrFun hret _) ?_
                    exact r_fin0 (prR_none (parse_bad (hQ.trans (sw_47 h47 (fun h => h.1.1 hb))))) (by kernel_rfl)
                  · have hb0 : 0 < b.length := List.length_pos_iff.2 hb
                    refine r_eq (v' := .bool true) rfl rfl rfl rfl ?_ ?_
                    · exact congrArg Value.bool (decide_eq_true (by rw [hsb, List.length_cons]; omega))
                    iterate 3 (first | refine r_op rfl rfl rfl rfl ?_ | refine r_skip rfl rfl rfl ?_)
                    refine r_slo2 TT_ok (l := c :: b) (l' := b) (i := 1) rfl (by simp) rfl rfl rfl rfl rfl rfl rfl rfl ?_
                    refine r_call (ok_r2_digits (t := b) (by omega)) rfl rfl rfl rfl rfl rfl rfl ?_
                    iterate 2 (first | refine r_op rfl rfl rfl rfl ?_ | refine r_skip rfl rfl rfl ?_)
                    refine r_eq (v' := .int .i64 ((b.length : Nat))) rfl rfl rfl rfl ?_ ?_
                    · exact congrArg (Value.int .i64) (by rw [hsb, List.length_cons, IntWalk.i64_in _ (by omega)]; omega)
                    by_cases hd : ∀ x ∈ b, isD x
                    · refine r_eq (v' := .bool true) rfl rfl rfl rfl ?_ ?_
                      · exact congrArg Value.bool (decide_eq_true (by rw [dpre_eq_len.2 hd]))
                      iterate 3 (first | refine r_op rfl rfl rfl rfl ?_ | refine r_skip rfl rfl rfl ?_)
                      refine Exists.elim (list_head hb) fun d hd' => Exists.elim hd' fun b' hbc => ?_
                      refine r_sidx TT_ok (l := c :: b) (c := d) (i := 1) (by rw [hbc]; rfl) rfl rfl rfl rfl rfl rfl rfl rfl ?_
                      by_cases h48 : d = 48
                      · refine r_eq (v' := .bool false) rfl rfl rfl rfl ?_ ?_
                        · exact congrArg Value.bool ((by rw [h48]; rfl))
                        repeat (first | refine r_op rfl rfl rfl rfl ?_ | refine r_skip rfl rfl rfl ?_ | refine .done ?_ | refine r_seq (T := TT) ?_ | refine r_region (T := TT) rfl ?_ | refine r_block (T := TT) ?_ | refine r_then (T := TT) rfl ?_ | refine r_else (T := TT) rfl ?_)
                        refine Eq.mpr (congrFun hret _) ?_
                        exact r_fin0 (prR_none (parse_bad (hQ.trans (sw_47 h47 (fun h => by
                          have h1 := h.1
                          rcases h1.2.2 with h2 | h2
                          · exact h2 d b' hbc h48
                          · have : b' = [] := by rw [hbc] at h2; simpa using h2.1
                            exact h.2.1 (by rw [hbc, this, h48]; rfl)))))) (by kernel_rfl)
                      · refine r_eq (v' := .bool true) rfl rfl rfl rfl ?_ ?_
                        · exact congrArg Value.bool ((by simpa using u8_ne (d := 48) h48))
                        have hob : okT false b := ⟨hb, hd, .inl fun x y e => by rw [hbc] at e; cases e; exact h48⟩
                        have hnb : 0 < num b := num_pos hd hbc h48
                        have c2 := okz_r1_Parse b
                        rw [pz_all hd (by omega), if_pos hob] at c2
                        have sb : Sz 131080 (num b : Int) := (sz_num hd).mono (by omega)
                        repeat (first | refine r_op rfl rfl rfl rfl ?_ | refine r_skip rfl rfl rfl ?_ | refine .done ?_ | refine r_seq (T := TT) ?_ | refine r_region (T := TT) rfl ?_ | refine r_block (T := TT) ?_ | refine r_then (T := TT) rfl ?_ | refine r_else (T := TT) rfl ?_)
                        refine r_slo2 TT_ok (l := c :: b) (l' := b) (i := 1) rfl (by simp) rfl rfl rfl rfl rfl rfl rfl rfl ?_
                        refine r_call (c2) rfl rfl rfl rfl rfl rfl rfl ?_
                        repeat (first | refine r_op rfl rfl rfl rfl ?_ | refine r_skip rfl rfl rfl ?_ | refine .done ?_ | refine r_seq (T := TT) ?_ | refine r_region (T := TT) rfl ?_ | refine r_block (T := TT) ?_ | refine r_then (T := TT) rfl ?_ | refine r_else (T := TT) rfl ?_)
                        by_cases hn1 : num b = 1
                        · refine r_call (okz_r2_one (decide_eq_true (show (num b : Int) = 1 by omega))) rfl rfl rfl rfl rfl rfl rfl ?_
                          repeat (first | refine r_op rfl rfl rfl rfl ?_ | refine r_skip rfl rfl rfl ?_ | refine .done ?_ | refine r_seq (T := TT) ?_ | refine r_region (T := TT) rfl ?_ | refine r_block (T := TT) ?_ | refine r_then (T := TT) rfl ?_ | refine r_else (T := TT) rfl ?_)
                          refine Eq.mpr (congrFun hret _) ?_
                          exact r_fin0 (prR_none (parse_bad (hQ.trans (sw_47 h47 (fun h => h.2.2.1 hn1))))) (by kernel_rfl)
                        · refine r_call (okz_r2_one (decide_eq_false (show ¬ (num b : Int) = 1 by omega))) rfl rfl rfl rfl rfl rfl rfl ?_
                          repeat (first | refine r_op rfl rfl rfl rfl ?_ | refine r_skip rfl rfl rfl ?_ | refine .done ?_ | refine r_seq (T := TT) ?_ | refine r_region (T := TT) rfl ?_ | refine r_block (T := TT) ?_ | refine r_then (T := TT) rfl ?_ | refine r_else (T := TT) rfl ?_)
                          refine r_call (okz_r1_GCD (sp.fit (by decide)) (sb.fit (by decide)) (by rw [Int.natAbs_natCast, Int.natAbs_natCast])) rfl rfl rfl rfl rfl rfl rfl ?_
                          repeat (first | refine r_op rfl rfl rfl rfl ?_ | refine r_skip rfl rfl rfl ?_ | refine .done ?_ | refine r_seq (T := TT) ?_ | refine r_region (T := TT) rfl ?_ | refine r_block (T := TT) ?_ | refine r_then (T := TT) rfl ?_ | refine r_else (T := TT) rfl ?_)
                          by_cases hg : Nat.gcd (num p) (num b) = 1
                          · refine r_call (okz_r2_one (decide_eq_true (show ((Nat.gcd (num p) (num b) : Nat) : Int) = 1 by omega))) rfl rfl rfl rfl rfl rfl rfl ?_
                            repeat (first | refine r_op rfl rfl rfl rfl ?_ | refine r_skip rfl rfl rfl ?_ | refine .done ?_ | refine r_seq (T := TT) ?_ | refine r_region (T := TT) rfl ?_ | refine r_block (T := TT) ?_ | refine r_then (T := TT) rfl ?_ | refine r_else (T := TT) rfl ?_)
                            exact hR ((num p : Int), (num b : Int)) ⟨hQ.trans (sw_47t h47 ⟨hob, by omega, hn1, hg⟩), sp, sb, by dsimp only; omega⟩ _ (weak ⟨rfl, rfl, rfl, rfl, rfl, trivial⟩ ⟨rfl, rfl, rfl, trivial⟩ rfl)
                          · refine r_call (okz_r2_one (decide_eq_false (show ¬ ((Nat.gcd (num p) (num b) : Nat) : Int) = 1 by omega))) rfl rfl rfl rfl rfl rfl rfl ?_
                            repeat (first | refine r_op rfl rfl rfl rfl ?_ | refine r_skip rfl rfl rfl ?_ | refine .done ?_ | refine r_seq (T := TT) ?_ | refine r_region (T := TT) rfl ?_ | refine r_block (T := TT) ?_ | refine r_then (T := TT) rfl ?_ | refine r_else (T := TT) rfl ?_)
                            refine Eq.mpr (congrFun hret _) ?_
                            exact r_fin0 (prR_none (parse_bad (hQ.trans (sw_47 h47 (fun h => hg h.2.2.2))))) (by kernel_rfl)
                    · refine r_eq (v' := .bool false) rfl rfl rfl rfl ?_ ?_
                      · exact congrArg Value.bool (decide_eq_false (fun e => hd (dpre_eq_len.1 (by omega))))
                      repeat (first | refine r_op rfl rfl rfl rfl ?_ | refine r_skip rfl rfl rfl ?_ | refine .done ?_ | refine r_seq (T := TT) ?_ | refine r_region (T := TT) rfl ?_ | refine r_block (T := TT) ?_ | refine r_then (T := TT) rfl ?_ | refine r_else (T := TT) rfl ?_)
                      refine Eq.mpr (congrFun hret _) ?_
                      exact r_fin0 (prR_none (parse_bad (hQ.trans (sw_47 h47 (fun h => hd h.1.2.1))))) (by kernel_rfl)
                · refine r_eq (v' := .bool false) rfl rfl rfl rfl ?_ ?_
                  · exact congrArg Value.bool (decide_eq_false (u8_ne (d := 47) h47))
                  repeat (first | refine r_op rfl rfl rfl rfl ?_ | refine r_skip rfl rfl rfl ?_ | refine .done ?_ | refine r_seq (T := TT) ?_ | refine r_region (T := TT) rfl ?_ | refine r_block (T := TT) ?_ | refine r_then (T := TT) rfl ?_ | refine r_else (T := TT) rfl ?_)
                  refine Eq.mpr (congrFun hret _) ?_
                  exact r_fin0 (prR_none (parse_bad (hQ.trans (sw_no h46 h47)))) (by kernel_rfl)
        · repeat refine r_seq (T := TT) ?_
          refine r_region (T := TT) rfl ?_
          iterate 1 (first | refine r_op rfl rfl rfl rfl ?_ | refine r_skip rfl rfl rfl ?_)
          by_cases hp0 : p = []
          · refine r_eq (v' := .bool true) rfl rfl rfl rfl ?_ ?_
            · exact congrArg Value.bool (decide_eq_true (by rw [hp0]; rfl))
            repeat (first | refine r_op rfl rfl rfl rfl ?_ | refine r_skip rfl rfl rfl ?_ | refine .done ?_ | refine r_seq (T := TT) ?_ | refine r_region (T := TT) rfl ?_ | refine r_block (T := TT) ?_ | refine r_then (T := TT) rfl ?_ | refine r_else (T := TT) rfl ?_)
            refine Eq.mpr (congrFun hret _) ?_
            exact r_fin0 (prR_none (parse_bad (hbad (fun h => h.1 hp0)))) (by kernel_rfl)
          · have hpp : 0 < p.length := List.length_pos_iff.2 hp0
            refine r_eq (v' := .bool false) rfl rfl rfl rfl ?_ ?_
            · exact congrArg Value.bool (decide_eq_false (by omega))
            iterate 2 (first | refine r_op rfl rfl rfl rfl ?_ | refine r_skip rfl rfl rfl ?_)
            by_cases h1 : 1 < p.length
            · refine r_eq (v' := .bool true) rfl rfl rfl rfl ?_ ?_
              · exact congrArg Value.bool (decide_eq_true (by omega))
              iterate 2 (first | refine r_op rfl rfl rfl rfl ?_ | refine r_skip rfl rfl rfl ?_)
              obtain ⟨c, p', hc⟩ : ∃ c p', p = c :: p' := by
                cases p with
                | nil => exact absurd rfl hp0
                | cons c p' => exact ⟨c, p', rfl⟩
              have ht0 : t[0]? = some c := by rw [← hpr, hc]; rfl
              refine r_sidx TT_ok (l := t) (i := 0) ht0 rfl rfl rfl rfl rfl rfl rfl rfl ?_
              by_cases h48 : c = 48
              · refine r_eq (v' := .bool true) rfl rfl rfl rfl ?_ ?_
                · exact congrArg Value.bool (decide_eq_true (by rw [h48]; rfl))
                repeat (first | refine r_op rfl rfl rfl rfl ?_ | refine r_skip rfl rfl rfl ?_ | refine .done ?_ | refine r_seq (T := TT) ?_ | refine r_region (T := TT) rfl ?_ | refine r_block (T := TT) ?_ | refine r_then (T := TT) rfl ?_ | refine r_else (T := TT) rfl ?_)
                refine Eq.mpr (congrFun hret _) ?_
                exact r_fin0 (prR_none (parse_bad (hbad (fun h => by
                  have := ((okT_iff hpd).1 h).2 h1
                  rw [hc, h48] at this
                  exact this rfl)))) (by kernel_rfl)
              · refine r_eq (v' := .bool false) rfl rfl rfl rfl ?_ ?_
                · exact congrArg Value.bool (decide_eq_false (fun e => h48 (UInt8.toNat_inj.1 (by have : (48 : UInt8).toNat = 48 := rfl; omega))))
                repeat (first | refine r_op rfl rfl rfl rfl ?_ | refine r_skip rfl rfl rfl ?_ | refine .done ?_ | refine r_seq (T := TT) ?_ | refine r_region (T := TT) rfl ?_ | refine r_block (T := TT) ?_ | refine r_then (T := TT) rfl ?_ | refine r_else (T := TT) rfl ?_)
                exact hR ((okT_iff hpd).2 ⟨hp0, fun _ e => by rw [hc] at e; simp at e; exact h48 e⟩) _ (weak ⟨rfl, rfl, rfl, rfl, rfl, trivial⟩ ⟨rfl, trivial⟩ rfl)
            · refine r_eq (v' := .bool false) rfl rfl rfl rfl ?_ ?_
              · exact congrArg Value.bool (decide_eq_false (by omega))
              repeat (first | refine r_op rfl rfl rfl rfl ?_ | refine r_skip rfl rfl rfl ?_ | refine .done ?_ | refine r_seq (T := TT) ?_ | refine r_region (T := TT) rfl ?_ | refine r_block (T := TT) ?_ | refine r_then (T := TT) rfl ?_ | refine r_else (T := TT) rfl ?_)
              exact hR ((okT_iff hpd).2 ⟨hp0, fun h => absurd h h1⟩) _ (weak ⟨rfl, rfl, rfl, rfl, rfl, trivial⟩ ⟨rfl, trivial⟩ rfl)
      · refine r_seq ?_
        refine r_weak hw1 rfl ?_
        repeat (first | refine r_op rfl rfl rfl rfl ?_ | refine r_skip rfl rfl rfl ?_ | refine .done ?_)
        cases hn : pneg s
        · refine r_else2 (T := TT) rfl ?_ ?_
          · exact rfl
          refine r_skipc ?_
          have e : t = s := by
            rw [← ht]
            have := sg_p s
            rw [hn] at this
            exact this
          rw [e, hn] at hR
          exact hR _ (weak ⟨rfl, rfl, rfl, rfl, trivial⟩ ⟨rfl, trivial⟩ rfl)
        · refine r_then2 (T := TT) rfl ?_ ?_
          · exact rfl
          have e : s = 45 :: t := by
            have := sg_p s
            rw [hn, ht] at this
            exact this.symm
          repeat refine r_seq (T := TT) ?_
          refine r_region (T := TT) rfl ?_
          iterate 1 (first | refine r_op rfl rfl rfl rfl ?_ | refine r_skip rfl rfl rfl ?_)
          refine r_slo2 TT_ok (l := s) (l' := t) (i := 1) (by rw [e]; rfl) (by rw [e]; simp) rfl rfl rfl rfl rfl rfl rfl rfl ?_
          repeat (first | refine r_op rfl rfl rfl rfl ?_ | refine r_skip rfl rfl rfl ?_ | refine .done ?_)
          rw [hn] at hR
          exact hR _ (weak ⟨rfl, rfl, rfl, rfl, trivial⟩ ⟨rfl, trivial⟩ rfl)
    · repeat refine r_seq (T := TT) ?_
      refine r_region (T := TT) rfl ?_
      iterate 1 (first | refine r_op rfl rfl rfl rfl ?_ | refine r_skip rfl rfl rfl ?_)
      by_cases h0 : s = []
      · refine r_bin rfl rfl rfl rfl rfl rfl rfl (binV_neF (a := s) (b := []) h0) ?_
        repeat (first | refine r_op rfl rfl rfl rfl ?_ | refine r_skip rfl rfl rfl ?_ | refine .done ?_ | refine r_seq (T := TT) ?_ | refine r_region (T := TT) rfl ?_ | refine r_block (T := TT) ?_ | refine r_then (T := TT) rfl ?_ | refine r_else (T := TT) rfl ?_)
        have : pneg s = false := by rw [h0]; rfl
        rw [this] at hR
        exact hR _ (weak ⟨rfl, rfl, rfl, rfl, trivial⟩ ⟨rfl, trivial⟩ rfl)
      · obtain ⟨c, s', hc⟩ : ∃ c s', s = c :: s' := by
          cases s with
          | nil => exact absurd rfl h0
          | cons c s' => exact ⟨c, s', rfl⟩
        refine r_bin rfl rfl rfl rfl rfl rfl rfl (binV_neT (a := s) (b := []) h0) ?_
        iterate 2 (first | refine r_op rfl rfl rfl rfl ?_ | refine r_skip rfl rfl rfl ?_)
        refine r_sidx TT_ok (l := s) (i := 0) (by rw [hc]; rfl) rfl rfl rfl rfl rfl rfl rfl rfl ?_
        by_cases h45 : c = 45
        · refine r_eq (v' := .bool true) rfl rfl rfl rfl ?_ ?_
          · exact congrArg Value.bool (decide_eq_true (by rw [h45]; rfl))
          repeat (first | refine r_op rfl rfl rfl rfl ?_ | refine r_skip rfl rfl rfl ?_ | refine .done ?_ | refine r_seq (T := TT) ?_ | refine r_region (T := TT) rfl ?_ | refine r_block (T := TT) ?_ | refine r_then (T := TT) rfl ?_ | refine r_else (T := TT) rfl ?_)
          have : pneg s = true := by rw [hc, h45]; rfl
          rw [this] at hR
          exact hR _ (weak ⟨rfl, rfl, rfl, rfl, trivial⟩ ⟨rfl, trivial⟩ rfl)
        · refine r_eq (v' := .bool false) rfl rfl rfl rfl ?_ ?_
          · exact congrArg Value.bool (decide_eq_false (fun e => h45 (UInt8.toNat_inj.1 (by have : (45 : UInt8).toNat = 45 := rfl; omega))))
          repeat (first | refine r_op rfl rfl rfl rfl ?_ | refine r_skip rfl rfl rfl ?_ | refine .done ?_ | refine r_seq (T := TT) ?_ | refine r_region (T := TT) rfl ?_ | refine r_block (T := TT) ?_ | refine r_then (T := TT) rfl ?_ | refine r_else (T := TT) rfl ?_)
          have : pneg s = false := by rw [hc]; exact beq_eq_false_iff_ne.2 h45
          rw [this] at hR
          exact hR _ (weak ⟨rfl, rfl, rfl, rfl, trivial⟩ ⟨rfl, trivial⟩ rfl)
  · refine callOK_of TT_ok mixT Tryz.func32 rfl rfl (Nat.le_of_ble_eq_true rfl) ?_
    repeat (first | refine r_op rfl rfl rfl rfl ?_ | refine r_skip rfl rfl rfl ?_ | refine .done ?_ | refine r_seq (T := TT) ?_ | refine r_region (T := TT) rfl ?_ | refine r_block (T := TT) ?_ | refine r_then (T := TT) rfl ?_ | refine r_else (T := TT) rfl ?_)
    refine r_then2 (T := TT) rfl ?_ ?_
    · exact decide_eq_true (by omega)
    repeat (first | refine r_op rfl rfl rfl rfl ?_ | refine r_skip rfl rfl rfl ?_ | refine .done ?_ | refine r_seq (T := TT) ?_ | refine r_region (T := TT) rfl ?_ | refine r_block (T := TT) ?_ | refine r_then (T := TT) rfl ?_ | refine r_else (T := TT) rfl ?_)
    exact r_fin0 (prR_none (by unfold parseQ; rw [if_neg hl])) (by kernel_rfl)
end Go.Proofs.YtecjnnhkbmkemaaGreatDoor
