/- Integers out of machine numbers. -/
import Derived.Test.YtdmijpechdaniaaMul2
namespace Go.Proofs.Ytdmijpechdaniaa
open Go.RowKit

theorem val_two (n : Nat) : val [n % 4294967296, n / 4294967296] = n := by
  simp only [val]
  omega
theorem Wd_two (n : Nat) (h : n < 18446744073709551616) : Wd [n % 4294967296, n / 4294967296] :=
  Wd.cons (by omega) (Wd.cons (by omega) Wd.nil)

set_option maxHeartbeats 400000 in
theorem i_fromUint (n : Nat) (h : n < 18446744073709551616) (w : World) : Calls Try.prog 70 #[.int .u64 (n : Int)] w (RetW (fun zs => zs = digs n) w) := by
  have hr : Row (w.alloc (.cells #[.int .u32 ((n : Int) % 4294967296), .int .u32 ((n : Int) / 4294967296)] 47)) w.heap.size [n % 4294967296, n / 4294967296] := by
    have := heap_alloc_new w (.cells #[.int .u32 ((n : Int) % 4294967296), .int .u32 ((n : Int) / 4294967296)] 47)
    unfold Row
    rw [this]
    simp
  have hw := hr.wrd' (n := 2) (Wd_two n h) rfl (by omega)
  have htr : trim [n % 4294967296, n / 4294967296] = digs n := by unfold trim; rw [val_two n]
  have hw3 := hw.trim
  rw [htr] at hw3
  have hb : Below w.heap.size w (w.alloc (.cells #[.int .u32 ((n : Int) % 4294967296), .int .u32 ((n : Int) / 4294967296)] 47)) := (Below.refl _ _).alloc (Nat.le_refl _) _
  have Hw := Lib.hid hw
  have Htr := Lib.hid htr
  have Hw3 := Lib.hid hw3
  have Hb := Lib.hid hb
  clear hr hw htr hw3 hb
  have e1 : (n : Int) / 4294967296 % 4294967296 = (n : Int) / 4294967296 := by omega
  have h0 : (0 : Int) ≤ n := by omega
  have h1 : (n : Int) < 18446744073709551616 := by omega
  go_enter Try.func70, Try.ntmps70
  go_wp2_with (go_at_call 50; (with_reducible refine (i_trim _ _ _ _ _ Hw.out).mono ?_); rw [Htr.out]; rintro e w' ⟨rfl, rfl⟩)
  go_ret
  exact ⟨_, _, _, _, rfl, Hw3.out, rfl, Hb.out⟩

set_option maxHeartbeats 400000 in
theorem r1_words (n : Nat) (h : n < 18446744073709551616) (w : World) : Calls Try.prog 64 #[.int .u64 (n : Int)] w (RetW (fun zs => zs = digs n) w) := by
  have hr : Row (w.alloc (.cells #[.int .u32 ((n : Int) % 4294967296), .int .u32 ((n : Int) / 4294967296)] 47)) w.heap.size [n % 4294967296, n / 4294967296] := by
    have := heap_alloc_new w (.cells #[.int .u32 ((n : Int) % 4294967296), .int .u32 ((n : Int) / 4294967296)] 47)
    unfold Row
    rw [this]
    simp
  have hw := hr.wrd' (n := 2) (Wd_two n h) rfl (by omega)
  have htr : trim [n % 4294967296, n / 4294967296] = digs n := by unfold trim; rw [val_two n]
  have hw3 := hw.trim
  rw [htr] at hw3
  have hb : Below w.heap.size w (w.alloc (.cells #[.int .u32 ((n : Int) % 4294967296), .int .u32 ((n : Int) / 4294967296)] 47)) := (Below.refl _ _).alloc (Nat.le_refl _) _
  have Hw := Lib.hid hw
  have Htr := Lib.hid htr
  have Hw3 := Lib.hid hw3
  have Hb := Lib.hid hb
  clear hr hw htr hw3 hb
  have e1 : (n : Int) / 4294967296 % 4294967296 = (n : Int) / 4294967296 := by omega
  have h0 : (0 : Int) ≤ n := by omega
  have h1 : (n : Int) < 18446744073709551616 := by omega
  go_enter Try.func64, Try.ntmps64
  go_wp2_with (go_at_call 65; (with_reducible refine (r1_trim _ _ _ _ _ Hw.out).mono ?_); rw [Htr.out]; rintro e w' ⟨rfl, rfl⟩)
  go_ret
  exact ⟨_, _, _, _, rfl, Hw3.out, rfl, Hb.out⟩


theorem res_box (w : World) (r0 r1 : Value) (t : TypeId) : ((w.alloc (.cells #[r0, r1] t)).cell? ⟨w.heap.size, 0, none⟩ = some r0 ∧ (w.alloc (.cells #[r0, r1] t)).cell? ⟨w.heap.size, 1, none⟩ = some r1) ∧
    ((w.alloc (.cells #[r0, r1] t)).frozen? ⟨w.heap.size, 0, none⟩ = false ∧ (w.alloc (.cells #[r0, r1] t)).frozen? ⟨w.heap.size, 1, none⟩ = false) ∧ Ext w (w.alloc (.cells #[r0, r1] t)) := by
  refine ⟨?_, ?_, (Ext.refl w).alloc _⟩ <;> simp [go_sem]

theorem toZ_from (n : Int) : toZ (decide (n < 0)) (digs n.natAbs) = n := by
  unfold toZ
  rw [val_digs]
  by_cases h : n < 0 <;> simp [h] <;> omega
theorem wrapU64 (z : Int) : IntKind.u64.wrap z = z % 18446744073709551616 := IntKind.wrap_u64 z

set_option maxHeartbeats 400000 in
theorem i_FromInt (n : Int) (hlo : -9223372036854775808 ≤ n) (hhi : n < 9223372036854775808) (w : World) : Calls Try.prog 40 #[.int .i64 n] w (RetInt n w) := by
  obtain ⟨⟨cr0, cr1⟩, ⟨fr0, fr1⟩, hbW⟩ := res_box w (.bool false) (.slice none 0 0) 24
  obtain ⟨W, hW⟩ : ∃ W, W = w.alloc (.cells #[.bool false, .slice none 0 0] 24) := ⟨_, rfl⟩
  rw [← hW] at cr0 cr1 fr0 fr1 hbW
  have HW := Lib.hid hW
  obtain ⟨m, hm⟩ : ∃ m : Nat, m = n.natAbs := ⟨_, rfl⟩
  have hmb : m < 18446744073709551616 := by omega
  have hfin : toZ (decide (n < 0)) (digs m) = n := by rw [hm]; exact toZ_from n
  have Hfin := Lib.hid hfin
  clear hW hfin
  by_cases h : n < 0
  · have e1 : IntKind.u64.wrap (-(IntKind.u64.wrap n)) = (m : Int) := by rw [wrapU64, wrapU64]; omega
    have ed : decide (n < 0) = true := by simp [h]
    rw [ed] at Hfin
    clear hm
    go_enter Try.func40, Try.ntmps40
    go_wp2_with (first
      | (go_at_call 70; rw [← HW.out]; (with_reducible refine (i_fromUint m hmb _).mono ?_); rintro e w1 ⟨A1, n1, c1, zs, rfl, hw1, rfl, hE1⟩)
      | (go_at_call 48; (with_reducible refine (i_signed_z (by assumption) Hfin.out).mono ?_); rintro e w2 ⟨v2, rfl, ⟨A2, n2, c2, rfl, hw2⟩, hb2⟩; have hE2 := Ext.more hE1 hb2; have su0 := kc cr0 hE2; have su1 := kc cr1 hE2; have sf0 := kf cr0 fr0 hE2; have sf1 := kf cr1 fr1 hE2))
    exact bodyPost_ret (v := .agg #[.bool true, .slice A2 n2 c2]) (by simp [results, Try.results40, go_sem, su0, su1]) rfl (fin_intb ed su0 su1 hw2 (hbW.trans hE2) (Nat.le_refl _))
  · have e1 : IntKind.u64.wrap n = (m : Int) := by rw [wrapU64]; omega
    have ed : decide (n < 0) = false := by simp [h]
    rw [ed] at Hfin
    clear hm
    go_enter Try.func40, Try.ntmps40
    go_wp2_with (first
      | (go_at_call 70; rw [← HW.out]; (with_reducible refine (i_fromUint m hmb _).mono ?_); rintro e w1 ⟨A1, n1, c1, zs, rfl, hw1, rfl, hE1⟩)
      | (go_at_call 48; (with_reducible refine (i_signed_z (by assumption) Hfin.out).mono ?_); rintro e w2 ⟨v2, rfl, ⟨A2, n2, c2, rfl, hw2⟩, hb2⟩; have hE2 := Ext.more hE1 hb2; have su0 := kc cr0 hE2; have su1 := kc cr1 hE2; have sf0 := kf cr0 fr0 hE2; have sf1 := kf cr1 fr1 hE2))
    exact bodyPost_ret (v := .agg #[.bool false, .slice A2 n2 c2]) (by simp [results, Try.results40, go_sem, su0, su1]) rfl (fin_intb ed su0 su1 hw2 (hbW.trans hE2) (Nat.le_refl _))

set_option maxHeartbeats 400000 in
theorem r1_FromInt (n : Int) (hlo : -9223372036854775808 ≤ n) (hhi : n < 9223372036854775808) (w : World) : Calls Try.prog 25 #[.int .i64 n] w (RetInt n w) := by
  obtain ⟨⟨cr0, cr1⟩, ⟨fr0, fr1⟩, hbW⟩ := res_box w (.bool false) (.slice none 0 0) 24
  obtain ⟨W, hW⟩ : ∃ W, W = w.alloc (.cells #[.bool false, .slice none 0 0] 24) := ⟨_, rfl⟩
  rw [← hW] at cr0 cr1 fr0 fr1 hbW
  have HW := Lib.hid hW
  obtain ⟨m, hm⟩ : ∃ m : Nat, m = n.natAbs := ⟨_, rfl⟩
  have hmb : m < 18446744073709551616 := by omega
  have hfin : toZ (decide (n < 0)) (digs m) = n := by rw [hm]; exact toZ_from n
  have Hfin := Lib.hid hfin
  clear hW hfin
  by_cases h : n < 0
  · have e1 : IntKind.u64.wrap (-(IntKind.u64.wrap n)) = (m : Int) := by rw [wrapU64, wrapU64]; omega
    have ed : decide (n < 0) = true := by simp [h]
    rw [ed] at Hfin
    clear hm
    go_enter Try.func25, Try.ntmps25
    go_wp2_with (first
      | (go_at_call 64; rw [← HW.out]; (with_reducible refine (r1_words m hmb _).mono ?_); rintro e w1 ⟨A1, n1, c1, zs, rfl, hw1, rfl, hE1⟩)
      | (go_at_call 51; (with_reducible refine (r1_signed_z (by assumption) Hfin.out).mono ?_); rintro e w2 ⟨v2, rfl, ⟨A2, n2, c2, rfl, hw2⟩, hb2⟩; have hE2 := Ext.more hE1 hb2; have su0 := kc cr0 hE2; have su1 := kc cr1 hE2; have sf0 := kf cr0 fr0 hE2; have sf1 := kf cr1 fr1 hE2))
    exact bodyPost_ret (v := .agg #[.bool true, .slice A2 n2 c2]) (by simp [results, Try.results25, go_sem, su0, su1]) rfl (fin_intb ed su0 su1 hw2 (hbW.trans hE2) (Nat.le_refl _))
  · have e1 : IntKind.u64.wrap n = (m : Int) := by rw [wrapU64]; omega
    have ed : decide (n < 0) = false := by simp [h]
    rw [ed] at Hfin
    clear hm
    go_enter Try.func25, Try.ntmps25
    go_wp2_with (first
      | (go_at_call 64; rw [← HW.out]; (with_reducible refine (r1_words m hmb _).mono ?_); rintro e w1 ⟨A1, n1, c1, zs, rfl, hw1, rfl, hE1⟩)
      | (go_at_call 51; (with_reducible refine (r1_signed_z (by assumption) Hfin.out).mono ?_); rintro e w2 ⟨v2, rfl, ⟨A2, n2, c2, rfl, hw2⟩, hb2⟩; have hE2 := Ext.more hE1 hb2; have su0 := kc cr0 hE2; have su1 := kc cr1 hE2; have sf0 := kf cr0 fr0 hE2; have sf1 := kf cr1 fr1 hE2))
    exact bodyPost_ret (v := .agg #[.bool false, .slice A2 n2 c2]) (by simp [results, Try.results25, go_sem, su0, su1]) rfl (fin_intb ed su0 su1 hw2 (hbW.trans hE2) (Nat.le_refl _))


end Go.Proofs.Ytdmijpechdaniaa
