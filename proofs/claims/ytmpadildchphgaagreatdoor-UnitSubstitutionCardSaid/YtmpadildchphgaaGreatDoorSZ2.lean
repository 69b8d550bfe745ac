/- Parts of a proof: contracts of the functions that the laws reach. -/
import Derived.Test.YtmpadildchphgaaGreatDoorSShelf
import Derived.Shelf.Strings.BuilderK
import Derived.Test.YtmpadildchphgaaGreatDoorSZ1
import Derived.Maps.OwnIn
import Derived.RangeFuncCalls
import Derived.Test.YtmpadildchphgaaGreatDoorSAh
import Derived.Deep.AppendLies
import Derived.Test.YtmpadildchphgaaGreatDoorSAm
namespace Go.Proofs.YtmpadildchphgaaGreatDoor
open Go.Shelf Go.RowKit
theorem bld_size : ((Tryz.prog).info? 111).map (·.size) = some 2 := Tryz.Builder_Extra_169.sizeBuilder
theorem bld_lies : liesAt Tryz.prog (Tryz.prog).depth 111 (2 / (Tryz.prog).cellsOf 111) 0 111 1 = true := by kernel_rfl
theorem bld_byte : ((Tryz.prog).info? 5).map (fun i => (i.zero, i.size, i.bytes)) = some (some (.int .u8 0), 1, 1) := Tryz.Builder_Extra_169.infoByte
set_option maxHeartbeats 1000000 in
set_option maxRecDepth 100000 in
theorem copyCheck_used (b : Nat) (w : World) (h0 : w.cell? ⟨b, 0, none⟩ = some (.pointer (some ⟨b, 0, none⟩))) :
    Calls Tryz.prog 140 #[.pointer (some ⟨b, 0, none⟩)] w fun e w' => e = .returned (.tuple #[]) ∧ w' = w := by
  obtain ⟨j, hj, _⟩ := Option.map_eq_some_iff.1 bld_size
  go_enter Tryz.func140, Tryz.ntmps140
  go_wp2
  rw [Lib.run_neq_ptr_same w _ Tryz.underlying109 hj]
  go_wp2
  go_end0
  exact ⟨rfl, rfl⟩
set_option maxHeartbeats 1000000 in
set_option maxRecDepth 100000 in
theorem copyCheck_fresh (b : Nat) (w : World) (h0 : w.cell? ⟨b, 0, none⟩ = some (.pointer none)) (hsh : w.shape? b = some (111, 2)) (hfz : w.frozen? ⟨b, 0, none⟩ = false) :
    Calls Tryz.prog 140 #[.pointer (some ⟨b, 0, none⟩)] w fun e w' => e = .returned (.tuple #[]) ∧ w' = w.setCell ⟨b, 0, none⟩ (.pointer (some ⟨b, 0, none⟩)) := by
  obtain ⟨j, hj, hjs⟩ := Option.map_eq_some_iff.1 bld_size
  go_enter Tryz.func140, Tryz.ntmps140
  go_wp2
  rw [Lib.run_to_unsafe w ⟨b, 0, none⟩ Tryz.underlying109 Tryz.underlying150 hj (by rw [hjs]; decide) hsh (Nat.zero_lt_succ 1)]
  simp only [Result.andThen]
  rw [Oper.upon_value]
  go_wp2
  rw [run_callFunc_extern Tryz.func161 (by kernel_rfl) (by kernel_rfl) (by kernel_rfl) (e := Extern.AbiNoEscape.same) (by kernel_rfl)]
  rw [Lib.run_noEscape]
  simp only [Result.andThen]
  rw [Oper.upon_value]
  go_wp2
  rw [Lib.run_from_unsafe w ⟨b, 0, none⟩ Tryz.underlying150 Tryz.underlying109 hj hsh bld_lies]
  simp only [Result.andThen]
  rw [Oper.upon_value]
  go_wp2
  go_end0
  exact ⟨rfl, rfl⟩
theorem copyCheck_k (B b : Nat) (bs : List Value) (w : World) (h : Lib.IsBuilderF 111 5 B b bs w) :
    Calls Tryz.prog 140 #[.pointer (some ⟨b, 0, none⟩)] w fun e w' => e = .returned (.tuple #[]) ∧ (Lib.BuilderAtF 111 5 B b (.pointer (some ⟨b, 0, none⟩)) bs w' ∧ Below B w w' ∧ Lib.OthersKept 5 (some b) w w') := by
  rcases h with h | h
  · refine (copyCheck_fresh b w h.cell0 h.shape h.frozen0).mono ?_
    rintro e w' ⟨rfl, rfl⟩
    exact ⟨rfl, h.used _, (Below.refl B w).setCell (p := ⟨b, 0, none⟩) h.1 _, (Lib.OthersKept.refl _ _ w).setCell ⟨b, 0, none⟩ rfl _⟩
  · refine (copyCheck_used b w h.cell0).mono ?_
    rintro e w' ⟨rfl, rfl⟩
    exact ⟨rfl, h, Below.refl B _, Lib.OthersKept.refl _ _ _⟩
set_option maxHeartbeats 2000000 in
set_option maxRecDepth 100000 in
theorem WriteByte_k (B b : Nat) (bs : List Value) (c : Int) (w : World) (h : Lib.IsBuilderF 111 5 B b bs w) (hlen : bs.length + 1 ≤ 140737488355328) (hBw : B ≤ w.heap.size) :
    Calls Tryz.prog 119 #[.pointer (some ⟨b, 0, none⟩), .int .u8 c] w fun e w' => e = .returned .nilIface ∧ (Lib.BuilderAtF 111 5 B b (.pointer (some ⟨b, 0, none⟩)) (bs ++ [.int .u8 c]) w' ∧ Below B w w' ∧ Lib.OthersKept 5 (some b) w w') := by
  obtain ⟨i0, hi, hz0, hz1, hz2⟩ := info_parts bld_byte
  go_enter Tryz.func119, Tryz.ntmps119
  go_wp2_with (go_at_call 140; refine (copyCheck_k B b bs _ h).mono ?_)
  rintro e w1 ⟨rfl, h1, hb1, hk1⟩
  obtain ⟨hB, v, hbk, hown, hne⟩ := h1
  have c0 : w1.cell? ⟨b, 0, none⟩ = some (.pointer (some ⟨b, 0, none⟩)) := by rw [Lib.cell_of_heap hbk]; rfl
  have c1 : w1.cell? ⟨b, 1, none⟩ = some v := by rw [Lib.cell_of_heap hbk]; rfl
  go_wp2_with (at_builtin; refine wpList_append_ownF _ rfl _ _ 95 rfl B 5 i0 (.int .u8 0) 1 1 Tryz.underlying95 hi hz0 hz1 hz2 rfl (by decide) _ _ _ rfl (hown.alloc _) ⟨w1.heap.size, 0, none⟩ 1 1 [.int .u8 c] rfl rfl ?c1 ?c2 ?c3 ?c4 ?c5 ?_)
  case c1 =>
    intro j u hj
    match j, hj with
    | 0, hj => simp at hj; subst hj; simp [Addr.add]
  case c2 => intro u hu; simp at hu; subst hu; rfl
  case c3 => unfold maxLen; omega
  case c4 => omega
  case c5 => have := hb1.size; simp; omega
  intro v' w2 hown' hgrow _
  have hlt : b < w1.heap.size := by
    rcases Nat.lt_or_ge b w1.heap.size with h' | h'
    · exact h'
    · simp [Array.getElem?_eq_none h'] at hbk
  have hb2 : w2.heap[b]? = some (.cells #[.pointer (some ⟨b, 0, none⟩), v] 111 (0, 0)) := by
    rw [hgrow.block b (by simp; omega) (fun e => hne e.symm), Lib.alloc_old w1 _ b hlt]
    exact hbk
  have d0 : w2.cell? ⟨b, 0, none⟩ = some (.pointer (some ⟨b, 0, none⟩)) := by rw [Lib.cell_of_heap hb2]; rfl
  have d1 : w2.cell? ⟨b, 1, none⟩ = some v := by rw [Lib.cell_of_heap hb2]; rfl
  have f1 : w2.frozen? ⟨b, 1, none⟩ = false := Lib.frozen_of_heap hb2 1
  obtain ⟨g, cap, rfl⟩ : ∃ g cap, v' = .slice (some ⟨g, 0, none⟩) (bs.length + 1) cap := by
    rcases hown'.2 with ⟨_, h0⟩ | ⟨g, cap, cur, fz, hv, _⟩
    · omega
    · exact ⟨g, cap, hv⟩
  go_wp2
  go_ret
  refine ⟨rfl, ?_, ?_, ((hk1.alloc _).grown hgrow (Lib.ownsRowF_kind (hown.alloc _))).setCell ⟨b, 1, none⟩ rfl _⟩
  · exact Lib.BuilderAtF.put (T := 111) (e := 5) hB hb2 (bs' := bs ++ [.int .u8 c]) (by simpa using hown') (by decide)
  · exact ((hb1.alloc (by have := hb1.size; omega) _).grown hgrow (by have := hb1.size; simp; omega) (fun k hk => (hown.lt k hk).1)).setCell (p := ⟨b, 1, none⟩) hB _
set_option maxHeartbeats 2000000 in
set_option maxRecDepth 100000 in
theorem WriteString_k (B b : Nat) (bs : List Value) (s : ByteArray) (w : World) (h : Lib.IsBuilderF 111 5 B b bs w) (hlen : bs.length + s.size ≤ 140737488355328) (hBw : B ≤ w.heap.size) :
    Calls Tryz.prog 122 #[.pointer (some ⟨b, 0, none⟩), .string s] w fun e w' => e = .returned (.tuple #[.int .i64 s.size, .nilIface]) ∧ (Lib.BuilderAtF 111 5 B b (.pointer (some ⟨b, 0, none⟩)) (bs ++ Lib.strCells s) w' ∧ Below B w w' ∧ Lib.OthersKept 5 (some b) w w') := by
  obtain ⟨i0, hi, hz0, hz1, hz2⟩ := info_parts bld_byte
  go_enter Tryz.func122, Tryz.ntmps122
  go_wp2_with (go_at_call 140; refine (copyCheck_k B b bs _ h).mono ?_)
  rintro e w1 ⟨rfl, h1, hb1, hk1⟩
  obtain ⟨hB, v, hbk, hown, hne⟩ := h1
  have c0 : w1.cell? ⟨b, 0, none⟩ = some (.pointer (some ⟨b, 0, none⟩)) := by rw [Lib.cell_of_heap hbk]; rfl
  have c1 : w1.cell? ⟨b, 1, none⟩ = some v := by rw [Lib.cell_of_heap hbk]; rfl
  go_wp2_with (at_builtin; refine Lib.wpList_append_own_stringF _ rfl _ _ 95 9 rfl B 5 i0 Tryz.underlying95 Tryz.underlying9 hi hz0 hz1 hz2 _ _ _ rfl hown s rfl ?c3 ?c4 ?c5 ?_)
  case c3 => unfold maxLen; omega
  case c4 => omega
  case c5 => have := hb1.size; omega
  intro v' w2 hown' hgrow _
  have hlt : b < w1.heap.size := by
    rcases Nat.lt_or_ge b w1.heap.size with h' | h'
    · exact h'
    · simp [Array.getElem?_eq_none h'] at hbk
  have hb2 : w2.heap[b]? = some (.cells #[.pointer (some ⟨b, 0, none⟩), v] 111 (0, 0)) := by
    rw [hgrow.block b hlt (fun e => hne e.symm)]
    exact hbk
  have d0 : w2.cell? ⟨b, 0, none⟩ = some (.pointer (some ⟨b, 0, none⟩)) := by rw [Lib.cell_of_heap hb2]; rfl
  have d1 : w2.cell? ⟨b, 1, none⟩ = some v := by rw [Lib.cell_of_heap hb2]; rfl
  have f1 : w2.frozen? ⟨b, 1, none⟩ = false := Lib.frozen_of_heap hb2 1
  obtain ⟨ao, n', cap, rfl⟩ : ∃ ao n' cap, v' = .slice ao n' cap := by
    rcases hown'.2 with ⟨hv, _⟩ | ⟨g, cap, cur, fz, hv, _⟩
    · exact ⟨_, _, _, hv⟩
    · exact ⟨_, _, _, hv⟩
  go_wp2
  go_ret2
  refine ⟨rfl, ?_, ?_, (hk1.grown hgrow (Lib.ownsRowF_kind hown)).setCell ⟨b, 1, none⟩ rfl _⟩
  · exact Lib.BuilderAtF.put (T := 111) (e := 5) hB hb2 (bs' := bs ++ Lib.strCells s) (by simpa [Lib.strCells_length] using hown') (by decide)
  · exact (hb1.grown hgrow (by have := hb1.size; omega) (fun k hk => (hown.lt k hk).1)).setCell (p := ⟨b, 1, none⟩) hB _
end Go.Proofs.YtmpadildchphgaaGreatDoor
namespace Go.Proofs.YtmpadildchphgaaGreatDoor
open Go.RowKit Go.Shelf
attribute [local go_sem] Oper.semAt_some
set_option maxRecDepth 100000 in
theorem clone_own (A : Option Addr) (n c : Nat) (xs : List Nat) (w : World) (hx : Wrd w A n c xs) (h0 : 0 < n) (hs : n ≤ 4294967296) :
    Calls Tryz.prog 118 #[.slice A n c] w fun e w' => ∃ v', e = .returned v' ∧ w'.ownsRow w.heap.size 92 1 v' n (xs.map W32) ∧ Below w.heap.size w w' := by
  obtain ⟨i0, hi, hz0, hz1, hz2⟩ := info_parts Tryz.infoU32
  rcases hx.cells with h1 | ⟨b, off, e, hc⟩
  · have := hx.len
    have h2 : xs = [] := by simpa using h1
    rw [h2] at this
    simp at this
    omega
  · cases e
    · refine (Tryz.slices_Clone i0 (.int .u32 0) 1 4 hi hz0 hz1 hz2 rfl (by decide) (fun w => by first | exact Tryz.sizeOf39 w | exact run_sizeOf _ w) b off n c (xs.map W32) w (by simp [hx.len]) (by unfold maxLen; omega) (by omega) (fun j u hj => ?_) (fun u hu => ?_)).mono ?_
      · rw [List.getElem?_map] at hj
        cases hxj : xs[j]? with
        | none => rw [hxj] at hj; cases hj
        | some x =>
          rw [hxj] at hj
          simp only [Option.map_some, Option.some.injEq] at hj
          subst hj
          have hjl := (List.getElem?_eq_some_iff.1 hxj).1
          have := hc j (W32 x) (by rw [List.getElem?_map, hxj]; rfl)
          exact this
      · obtain ⟨x, _, rfl⟩ := List.mem_map.1 hu
        rfl
      · rintro e w' ⟨v', rfl, ho, _, hb⟩
        exact ⟨v', rfl, ho, hb⟩
theorem ownsRow_same {w w' : World} {B g k : Nat} {e : TypeId} {v : Value} {n : Nat} {xs : List Value} (h : w.ownsRow B e k v n xs) (hb : ∀ b, b ≠ g → w'.heap[b]? = w.heap[b]?) (hne : v.ownBlock ≠ some g) : w'.ownsRow B e k v n xs := by
  refine ⟨h.1, h.2.imp id ?_⟩
  rintro ⟨g', cap, cur, rfl, h1, h2, h3⟩
  exact ⟨g', cap, cur, rfl, h1, by rw [hb g' (fun e => hne (by rw [← e]; rfl))]; exact h2, h3⟩
theorem div_step {d r1 rr x V U : Nat} (h : V * 1000000000 + rr = U) (hd : (rr * 4294967296 + x) / 1000000000 = d) (hr : (rr * 4294967296 + x) % 1000000000 = r1) : (d + 4294967296 * V) * 1000000000 + r1 = x + 4294967296 * U := by
  have := Nat.div_add_mod (rr * 4294967296 + x) 1000000000
  rw [hd, hr] at this
  subst h
  rw [Nat.add_mul, Nat.mul_add, Nat.mul_comm d, Nat.mul_assoc]
  generalize V * 1000000000 = W
  omega
def ptx (len : Nat) (p : Nat × Nat) : List UInt8 := if (p.1 : Int) < (len : Int) - 1 then pad9 (p.2 % 1000000000) else dd (p.2 % 1000000000)
def ptxt (len : Nat) (l : List (Nat × Nat)) : List UInt8 := l.flatMap (ptx len)
theorem ptxt_snoc (len : Nat) (l : List (Nat × Nat)) (p : Nat × Nat) : ptxt len (l ++ [p]) = ptxt len l ++ ptx len p := by unfold ptxt; simp
theorem mod9_lt (n : Nat) : n % 1000000000 < 1000000000 := Nat.mod_lt _ (by decide)
theorem pad9_len {c : Nat} (h : c < 1000000000) : (pad9 c).length = 9 := by
  have := (dd_len h).2
  unfold pad9; simp; omega
theorem ptx_len (len : Nat) (p : Nat × Nat) : (ptx len p).length ≤ 9 := by
  unfold ptx; split
  · exact Nat.le_of_eq (pad9_len (mod9_lt _))
  · exact (dd_len (mod9_lt _)).2
theorem ptxt_len (len : Nat) (l : List (Nat × Nat)) : (ptxt len l).length ≤ 9 * l.length := by
  induction l with
  | nil => simp [ptxt]
  | cons p l ih =>
    have e : ptxt len (p :: l) = ptx len p ++ ptxt len l := rfl
    have := ptx_len len p
    rw [e, List.length_append, List.length_cons]
    omega
theorem ptxt_upto {xs : List Nat} (h9 : ∀ x ∈ xs, x < 1000000000) (hne : xs ≠ []) : ptxt xs.length (upto (backAt xs) xs.length) = txt xs.reverse := by
  obtain ⟨m, hm⟩ : ∃ m, xs.length = m + 1 := ⟨xs.length - 1, by have := List.length_pos_iff.2 hne; omega⟩
  have hr : xs.reverse = xs.getD m 0 :: (List.range m).map fun j => xs.getD (m - 1 - j) 0 := by
    apply List.ext_getElem
    · simp [hm]
    · intro i h1 h2
      rw [List.getElem_reverse]
      have hi : i < m + 1 := by simpa [hm] using h1
      match i, hi with
      | 0, _ => simp [List.getD_eq_getElem?_getD, hm]
      | i + 1, hi =>
        simp only [List.getElem_cons_succ, List.getElem_map, List.getElem_range, List.getD_eq_getElem?_getD]
        rw [List.getElem?_eq_getElem (by omega)]
        simp only [Option.getD_some]
        congr 1
        omega
  rw [hr]
  unfold upto ptxt
  rw [hm, List.range_succ_eq_map, List.map_cons, List.flatMap_cons, List.map_map]
  have e0 : ptx (m + 1) (backAt xs 0) = dd (xs.getD m 0) := by
    unfold ptx backAt
    dsimp only
    rw [if_neg (by omega), hm, Nat.mod_eq_of_lt (getD_lt (by decide) h9 _)]
    rfl
  rw [e0]
  show _ = dd _ ++ ((List.range m).map _).flatMap pad9
  congr 1
  rw [List.flatMap_map, List.flatMap_map]
  have hh : ∀ j ∈ List.range m, ptx (m + 1) (backAt xs (j + 1)) = pad9 (xs.getD (m - 1 - j) 0) := by
    intro j hj
    have hj := List.mem_range.1 hj
    unfold ptx backAt
    dsimp only
    rw [if_pos (by omega), Nat.mod_eq_of_lt (getD_lt (by decide) h9 _)]
    congr 2
    omega
  clear e0 hr
  revert hh
  generalize List.range m = R
  intro hh
  induction R with
  | nil => rfl
  | cons j R ih =>
    rw [List.flatMap_cons, List.flatMap_cons, ih (fun j hj => hh j (by simp [hj]))]
    congr 1
    exact hh j (by simp)
theorem bld_keep {T e : TypeId} {B b : Nat} {bs : List Value} {W W' : World} (h : Lib.IsBuilderF T e B b bs W) (hk : ∀ (k : Nat) c t f, W.heap[k]? = some (Obj.cells c t f) → W'.heap[k]? = some (Obj.cells c t f)) : Lib.IsBuilderF T e B b bs W' := by
  have key : ∀ p, Lib.BuilderAtF T e B b p bs W → Lib.BuilderAtF T e B b p bs W' := by
    rintro p ⟨hB, v, hb, ho, hne⟩
    refine ⟨hB, v, hk _ _ _ _ hb, ⟨ho.1, ho.2.imp id ?_⟩, hne⟩
    rintro ⟨g, cap, cur, fz, h1, h2, h3, h4⟩
    exact ⟨g, cap, cur, fz, h1, h2, hk _ _ _ _ h3, h4⟩
  exact h.imp (key _) (key _)
theorem below_cells {W W' : World} (h : Below W.heap.size W W') : ∀ (k : Nat) c t f, W.heap[k]? = some (Obj.cells c t f) → W'.heap[k]? = some (Obj.cells c t f) := fun k _ _ _ hk => (h.block k (Array.getElem?_eq_some_iff.1 hk).1).trans hk
theorem own_bld {T e : TypeId} {N B b : Nat} {f : List (Nat × Nat) → List Value} : OwnFrom N (fun pre W => Lib.IsBuilderF T e B b (f pre) W) := by
  intro s W W' row hs hg hr
  refine bld_keep hs fun k c t fz hk => ?_
  rw [hg.block k (Array.getElem?_eq_some_iff.1 hk).1 (fun e => ?_)]
  · exact hk
  · obtain ⟨_, o, ho, hc⟩ := hr k e.symm
    rw [hk] at ho
    cases ho
    cases hc
theorem own_cells {β : Type} (N g : Nat) (cs : Array Value) (t : TypeId) : OwnFrom N (fun (_ : β) W => W.heap[g]? = some (Obj.cells cs t (0, 0))) := by
  intro s W W' row hs hg hr
  show W'.heap[g]? = _
  rw [hg.block g (Array.getElem?_eq_some_iff.1 hs).1 (fun e => ?_)]
  · exact hs
  · obtain ⟨_, o, ho, hc⟩ := hr g e.symm
    rw [hs] at ho
    cases ho
    cases hc
theorem ko_below {W W' : World} (h : Below W.heap.size W W') : KeepsOthers W W' := ⟨h.size, fun k _ hk _ => (h.block k (Array.getElem?_eq_some_iff.1 hk).1).trans hk⟩
theorem ko_kept {T e : TypeId} {B b : Nat} {bs : List Value} {W W' : World} (hb : Lib.IsBuilderF T e B b bs W) (hs : W.heap.size ≤ W'.heap.size) (h : Lib.OthersKept e (some b) W W') : KeepsOthers W W' := by
  refine ⟨hs, fun k o hk ho => h k o hk (fun e0 => ?_) (fun c fz e0 => by subst e0; cases ho)⟩
  cases e0
  have key : ∀ p, Lib.BuilderAtF T e B b p bs W → False := by
    rintro p ⟨_, v, hb, _⟩
    rw [hk] at hb
    cases hb
    cases ho
  exact hb.elim (key _) (key _)
theorem kb_kept {e t : TypeId} {N b Bs : Nat} {v : Value} {W W' : World} (hb : Below N W W') (hc : W.heap[Bs]? = some (Obj.cells #[v] t (0, 0))) (ht : t ≠ e) (hne : Bs ≠ b) (h : Lib.OthersKept e (some b) W W') : KB N Bs W W' :=
  ⟨hb, (h Bs _ hc (fun e0 => hne (Option.some.inj e0)) (fun c fz e0 => ht (by cases e0; rfl))).trans hc.symm⟩
theorem cells_app (l m : List UInt8) : Lib.byteCells l ++ Lib.strCells ⟨m.toArray⟩ = Lib.byteCells (l ++ m) := by
  rw [Lib.strCells_toArray]
  simp [Lib.byteCells]
theorem Bs_size' (l : List UInt8) : (ByteArray.mk l.toArray).size = l.length := Bs_size l
theorem rep48 (q : Nat) : Lib.repeatL [48] q = List.replicate q 48 := by
  induction q with
  | zero => rfl
  | succ q ih => rw [Lib.repeatL, ih]; rfl
theorem pad_rep {cc m : Nat} (hS9 : 1 ≤ (dd cc).length ∧ (dd cc).length ≤ 9) (hm : m = (dd cc).length) (W : World) : Calls Tryz.prog 123 #[.string ⟨#[48]⟩, .int .i64 ((9 : Int) - (m : Int))] W fun e w' => e = .returned (.string ⟨(List.replicate (9 - (dd cc).length) (48 : UInt8)).toArray⟩) ∧ Below W.heap.size W w' := by
  have h := Tryz.strings_Repeat ⟨#[48]⟩ (9 - (dd cc).length) W (by omega) (by show 1 * _ ≤ _; omega)
  rw [show ((9 - (dd cc).length : Nat) : Int) = (9 : Int) - (m : Int) by omega] at h
  refine h.mono ?_
  rintro e w' ⟨rfl, hb⟩
  exact ⟨by rw [show ((⟨#[48]⟩ : ByteArray).data.toList) = [48] from rfl, rep48], hb⟩
theorem fmt_false {xs : List Nat} (h : val xs ≠ 0) : [] ++ dec (val xs) = fmt (toZ false xs) := by
  have e : toZ false xs = (val xs : Int) := rfl
  rw [e]
  unfold fmt
  rw [if_neg (by omega), if_neg (by omega), Int.natAbs_natCast]
theorem fmt_true {xs : List Nat} (h : val xs ≠ 0) : [45] ++ dec (val xs) = fmt (toZ true xs) := by
  have e : toZ true xs = -(val xs : Int) := rfl
  rw [e]
  unfold fmt
  rw [if_neg (by omega), if_pos (by omega), Int.natAbs_neg, Int.natAbs_natCast]
def rowVal : Value → World → Nat
  | .slice (some a) n _, w => val ((List.range n).map fun i => match w.cell? ⟨a.block, a.off + i, none⟩ with | some (.int _ k) => k.toNat | _ => 0)
  | _, _ => 0
theorem rowVal_own {w : World} {B g cap : Nat} {e : TypeId} {ms : List Nat} (h : w.ownsRow B e 1 (.slice (some ⟨g, 0, none⟩) ms.length cap) ms.length (ms.map W32)) : rowVal (.slice (some ⟨g, 0, none⟩) ms.length cap) w = val ms := by
  show val _ = _
  congr 1
  apply List.ext_getElem
  · simp
  · intro i h1 h2
    have hc := h.cells (g := g) rfl i (W32 ms[i]) (by simp [h2])
    have hadd : (⟨g, 0, none⟩ : Addr).add i = ⟨g, i, none⟩ := by unfold Addr.add; split <;> simp_all
    rw [hadd] at hc
    simp [hc, W32]
theorem own_take {w : World} {B g n k cap : Nat} {e : TypeId} {xs : List Value} (h : w.ownsRow B e 1 (.slice (some ⟨g, 0, none⟩) n cap) n xs) (hk : k ≤ n) : w.ownsRow B e 1 (.slice (some ⟨g, 0, none⟩) k cap) k (xs.take k) := by
  have hl := h.1
  refine ⟨by simp; omega, .inr ?_⟩
  rcases h.2 with ⟨h1, _⟩ | ⟨g', cap', cur, h1, h2, h3, h4, h5, h6, h7⟩
  · cases h1
  · cases h1
    refine ⟨g, cap, cur, rfl, h2, h3, by omega, h5, h6, ?_⟩
    rw [← h7, List.take_take]
    congr 1
    omega
set_option maxRecDepth 100000 in
set_option maxHeartbeats 20000000 in
theorem Format_in (v : Value) (na : Bool) (xs : List Nat) (w : World) (h : IntR w v na xs) (hl : xs.length ≤ 1000) (htab : TabG w) :
    CallsIn Fence.wide 4 Tryz.prog 89 #[v] w fun e w' => e = .returned (.string (Bs (fmt (toZ na xs)))) ∧ Below w.heap.size w w' := by
  obtain ⟨A, n, c, rfl, hx⟩ := h
  have hro : Fence.wide.round = none := rfl
  have hcap := hx.cap
  have hlim := hx.lim
  have htrim := i_trim A n c xs
  have Hx := Lib.hid hx
  have Htrim := Lib.hid htrim
  have Htab := Lib.hid htab
  clear hx htab htrim
  refine callsIn_of_wp_marks Tryz.func89 rfl trivial ?_ hro
  simp only [Tryz.ntmps89, List.size_toArray, List.length_cons, List.length_nil, Nat.reduceAdd, Nat.reduceSub, Array.replicate_succ, Array.replicate_zero, List.push_toArray, List.append_toArray, List.nil_append, List.cons_append]
  by_cases ht : trim xs = []
  · have hv0 : val xs = 0 := by rw [← val_trim, ht]; rfl
    have hz : fmt (toZ na xs) = [48] := by
      have : toZ na xs = 0 := by unfold toZ; rw [hv0]; cases na <;> rfl
      rw [this]; rfl
    rw [hz]
    rw [ht] at Htrim
    have hw0 : Wrd w A 0 c [] := ⟨rfl, Nat.zero_le _, hlim, Wd.nil, .nil _ _, Hx.out.isnil⟩
    have Hcl := Lib.hid (clone_u32 A 0 c [] (w.alloc (.cells #[.bool na, .slice A n c] 24)) (hw0.alloc _) (by decide))
    clear hw0 hz hv0
    gi_wp2_with (first | (refine ⟨trivial, ?_⟩; gi_at_call 98; refine (callsIn_wide.2 (Htrim.out _ (Hx.out.alloc _))).mono ?_; rintro e w' ⟨rfl, rfl⟩) | (refine ⟨trivial, ?_⟩; gi_at_call 118; refine (callsIn_wide.2 Hcl.out).mono ?_; rintro e w' ⟨A', n', c', zs, rfl, hz', rfl, hb'⟩; obtain rfl := hz'.len))
    refine ⟨_, results_tmp rfl _ _ _, rfl, ?_⟩
    exact ((Below.refl _ w).alloc (Nat.le_refl _) _).trans (hb'.mono (by simp))
  · have hpos : 0 < (trim xs).length := List.length_pos_iff.2 ht
    have hw0 : Wrd w A (trim xs).length c (trim xs) := Hx.out.trim
    have htl : (trim xs).length ≤ 1000 := by have := trim_length Hx.out.wd; omega
    have Hcl := Lib.hid (clone_own A (trim xs).length c (trim xs) (w.alloc (.cells #[.bool na, .slice A n c] 24)) (hw0.alloc _) hpos (by omega))
    clear hw0
    have Hpos := Lib.hid hpos
    have hi1 : ((trim xs).length : Int) ≠ 0 := by omega
    gi_wp2_with (first | (refine ⟨trivial, ?_⟩; gi_at_call 98; refine (callsIn_wide.2 (Htrim.out _ (Hx.out.alloc _))).mono ?_; rintro e w' ⟨rfl, rfl⟩) | (refine ⟨trivial, ?_⟩; gi_at_call 118; refine (callsIn_wide.2 Hcl.out).mono ?_; rintro e w' ⟨v', rfl, ho', hb'⟩; obtain ⟨g, cap, cur, rfl, hg1, hg2, hg3, hg4, hg5, hg6⟩ := ho'.2.resolve_left (by rintro ⟨_, h0⟩; omega)))
    simp only [show (((trim xs).length : Int) == 0) = false from beq_eq_false_iff_ne.2 hi1]
    gi_loopw [3] (fun m wr => ∃ (ms chs : List Nat) (cv : Value), m = .slice (some ⟨g, 0, none⟩) ms.length cap ∧ wr.ownsRow (w.heap.size + 1) 92 1 m ms.length (ms.map W32) ∧ ms = digs (val ms) ∧ ms.length ≤ 1000 ∧ chs ++ ch (val ms) = ch (val xs) ∧
      wr.heap[w'.heap.size]? = some (.cells #[cv] 22 (0, 0)) ∧ wr.ownsRow (w'.heap.size + 1) 92 1 cv chs.length (chs.map W32) ∧ Below (w.heap.size + 1) w' wr)
      (fun m wr => rowVal m wr)
    case atStart =>
      rw [World.size_alloc] at ho' hb' hg1
      have hg : g < w'.heap.size := (Array.getElem?_eq_some_iff.1 hg2).1
      refine ⟨trim xs, [], .slice none 0 0, rfl, ho'.alloc _, by rw [val_trim]; rfl, htl, by rw [val_trim]; rfl, by rw [heap_alloc_new], World.ownsRow_nil _ _ _ _, (Below.refl _ _).alloc (by have := hb'.size; simp at this; omega) _⟩
    case round =>
      obtain ⟨ms, chs, cv, rfl, hm, hmd, hml, hch, hcv, hcr, hbw⟩ := hrel
      have hne1 : cv.ownBlock ≠ some g := fun e => by have := (hcr.lt g e).1; have := (Array.getElem?_eq_some_iff.1 hg2).1; omega
      have hne2 : cv.ownBlock ≠ some w'.heap.size := fun e => by have := (hcr.lt _ e).1; omega
      have Hm := Lib.hid hm
      have Hmd := Lib.hid hmd
      have Hch := Lib.hid hch
      have Hcv := Lib.hid hcv
      have Hcr := Lib.hid hcr
      have Hw' := Lib.hid hbw
      clear hm hmd hch hcv hcr hbw
      by_cases hz : ms.length = 0
      · have hz1 : ¬ ((ms.length : Int) > 0) := by omega
        have hmn : ms = [] := List.eq_nil_of_length_eq_zero hz
        have hchs : chs = ch (val xs) := by
          have := Hch.out
          rw [hmn, show val [] = 0 from rfl, ch_zero, List.append_nil] at this
          exact this
        have hv0 : val xs ≠ 0 := fun e => ht (by show digs (val xs) = []; rw [e, digs_zero])
        have hne : chs ≠ [] := by rw [hchs]; exact ch_ne hv0
        have h9 : ∀ x ∈ chs, x < 1000000000 := by rw [hchs]; exact ch_lt _
        have hcl : chs.length ≤ 2000 := by
          have h2 := ch_len_words Hx.out.wd
          rw [hchs]
          omega
        have hwd9 : Wd chs := fun x hx => Nat.lt_trans (h9 x hx) (by decide)
        obtain ⟨k, cap2, cur2, rfl, hk1, hk2, hk3, hk4, hk5, hk6⟩ := Hcr.out.2.resolve_left (by rintro ⟨_, h0⟩; exact hne (List.eq_nil_of_length_eq_zero h0))
        have hW : Wrd wr (some ⟨k, 0, none⟩) chs.length cap2 chs := wrd_of_own Hcr.out hwd9 hk3 (by unfold maxLen at hk4; omega)
        have hneg : wr.cell? ⟨w.heap.size, 0, none⟩ = some (.bool na) := by
          have h1 : (w.alloc (.cells #[.bool na, .slice A n c] 24)).cell? ⟨w.heap.size, 0, none⟩ = some (.bool na) := by rw [Lib.cell_of_heap (heap_alloc_new _ _)]; rfl
          rw [World.size_alloc] at hb'
          exact (Hw'.out.cell (p := ⟨w.heap.size, 0, none⟩) (Nat.lt_succ_self _)).trans ((hb'.cell (p := ⟨w.heap.size, 0, none⟩) (Nat.lt_succ_self _)).trans h1)
        have hchunk : wr.cell? ⟨w'.heap.size, 0, none⟩ = some (.slice (some ⟨k, 0, none⟩) chs.length cap2) := by rw [Lib.cell_of_heap Hcv.out]; rfl
        have htxt : txt chs.reverse = dec (val xs) := by rw [hchs]; exact txt_ch _
        have hBx : Below w.heap.size w wr := by
          rw [World.size_alloc] at hb'
          exact ((Below.refl _ w).alloc (Nat.le_refl _) _).trans ((hb'.trans Hw'.out).mono (Nat.le_succ _))
        have hB0 : Lib.IsBuilderF 111 5 wr.heap.size wr.heap.size (Lib.byteCells []) (wr.alloc (.cells #[.pointer none, .slice none 0 0] 111)) := .inl ⟨Nat.le_refl _, _, heap_alloc_new _ _, World.ownsRowF_nil _ _ _ _, by simp [Value.ownBlock]⟩
        have Hchs := Lib.hid hchs
        have Hne := Lib.hid hne
        have H9 := Lib.hid h9
        have HW := Lib.hid hW
        have Htxt := Lib.hid htxt
        have HBx := Lib.hid hBx
        have HB0 := Lib.hid hB0
        have Hv0 := Lib.hid hv0
        have Htab' : Hid (TabG wr) := Lib.hid (Htab.out.mono hBx rfl)
        clear hchs hne h9 hW htxt hBx hB0 hv0 hwd9 hk2 hk5 hk6 hmn
        have hbs : w.heap.size + 1 ≤ wr.heap.size := by
          have h1 := hg1
          have h2 := (Array.getElem?_eq_some_iff.1 Hcv.out).1
          rw [World.size_alloc] at h1 hb'
          have := hb'.size
          simp at this
          omega
        have hws : w.heap.size < wr.heap.size := by omega
        have hBlt := (Array.getElem?_eq_some_iff.1 Hcv.out).1
        have hneg1 : (wr.alloc (.cells #[.pointer none, .slice none 0 0] 111)).cell? ⟨w.heap.size, 0, none⟩ = some (.bool na) := by rw [World.cell?_of_block (w := wr) (a := ⟨w.heap.size, 0, none⟩) (Lib.alloc_old wr _ _ hws)]; exact hneg
        have hchunk1 : (wr.alloc (.cells #[.pointer none, .slice none 0 0] 111)).cell? ⟨w'.heap.size, 0, none⟩ = some (.slice (some ⟨k, 0, none⟩) chs.length cap2) := by rw [World.cell?_of_block (w := wr) (a := ⟨w'.heap.size, 0, none⟩) (Lib.alloc_old wr _ _ hBlt)]; exact hchunk
        have Hchunk := Lib.hid hchunk
        clear hneg hchunk
        cases na
        · gi_wp2_with (refine ⟨trivial, ?_⟩; gi_at_call 120; refine (backward_in _ _ trivial hro _ _ _ _).mono ?_; rintro e w5 ⟨rfl, rfl⟩)
          have hbV := HB0.out; have hBV : Below wr.heap.size wr (wr.alloc (.cells #[.pointer none, .slice none 0 0] 111)) := (Below.refl _ _).alloc (Nat.le_refl _) _; have hlt0 : wr.heap.size < (wr.alloc (.cells #[.pointer none, .slice none 0 0] 111)).heap.size := by simp
          obtain ⟨V, hV⟩ : ∃ V, V = (wr.alloc (.cells #[.pointer none, .slice none 0 0] 111)) := ⟨_, rfl⟩
          rw [← hV] at hbV hBV hlt0 ⊢
          have hVS : V.heap.size = (wr.heap.size + 1) := by first | rfl | (rw [hV, World.size_alloc])
          clear hV
          have hVs := hBV.size
          have HbV := Lib.hid hbV
          clear hbV hneg1 hchunk1 hne1 hne2 hk4 hg5 hg6 hg4 hg3 ho' Htrim Hcl Hm Hmd Hch Hcr
          have hVa : Below wr.heap.size wr (V.alloc (.cells #[.slice (some ⟨k, 0, none⟩) chs.length cap2] 22)) := hBV.alloc hVs _
          have hbs1 : (V.alloc (.cells #[.slice (some ⟨k, 0, none⟩) chs.length cap2] 22)).heap[(wr.heap.size + 1)]? = some (.cells #[.slice (some ⟨k, 0, none⟩) chs.length cap2] 22 (0, 0)) := (by rw [← hVS]; exact heap_alloc_new _ _)
          have hltZ : wr.heap.size < (wr.heap.size + 1) := by omega
          clear hlt0
          refine wpIn_rangeFunc_ownG hro (by decide) (gf := 141) (lb := #[.pointer (some ⟨(wr.heap.size + 1), 0, none⟩)]) rfl trivial (enters_of Tryz.func141 (by kernel_rfl) rfl)
            (backM_stops Fence.wide 3 trivial hro (by decide) (wr.heap.size + 1) (some ⟨k, 0, none⟩) chs.length cap2 chs 1000000000 (by decide) H9.out wr _ HW.out hVa (by rw [World.size_alloc]; have := hVS; omega) (by rw [Lib.cell_of_heap hbs1]; rfl)) (fun h k => KB.trans h k) (KB.put (by simp; omega) (by rw [World.size_alloc]; have := hVS; omega)) (Below.refl _ _) (fun _ => rfl)
            (fun pre W => Lib.IsBuilderF 111 5 wr.heap.size wr.heap.size (Lib.byteCells ([] ++ ptxt chs.length pre)) W ∧ Below wr.heap.size wr W ∧ W.heap[(wr.heap.size + 1)]? = some (.cells #[.slice (some ⟨k, 0, none⟩) chs.length cap2] 22 (0, 0)))
            (fun _ _ _ => False)
            (OwnFrom.and own_bld (OwnFrom.and (ownFrom_below (Nat.le_refl _) (by simp; omega)) (own_cells _ _ _ _)))
            (fun _ _ _ _ _ hs _ _ => hs)
            ⟨bld_keep HbV.out (below_cells ((Below.refl _ _).alloc (Nat.le_refl _) _)), hVa, hbs1⟩ ?afalse ?assign ?body ?done ?stop
          all_goals clear hVS
          case assign =>
            intro l x W K hK
            gi_wp2
            exact hK
          case body =>
            rintro l pre x W ⟨hb, hB, hbs⟩ hlt
            obtain ⟨cc, hcc⟩ : ∃ cc, cc = x.2 % 1000000000 := ⟨_, rfl⟩
            obtain ⟨ix, hix⟩ : ∃ ix, ix = x.1 := ⟨_, rfl⟩
            have hc9 : cc < 1000000000 := by rw [hcc]; exact mod9_lt _
            have hS9 := dd_len hc9
            have hL := ptxt_len chs.length pre
            have hsn := ptxt_snoc chs.length pre x
            have hpx : ptx chs.length x = if (ix : Int) < (chs.length : Int) - 1 then pad9 cc else dd cc := by rw [hcc, hix]; rfl
            rw [← hcc, ← hix]
            have hfu := strconv_FormatUint cc (by omega) W (Htab'.out.mono hB rfl).here
            rw [decDigits_dd] at hfu
            have hcW : W.cell? ⟨w'.heap.size, 0, none⟩ = some (.slice (some ⟨k, 0, none⟩) chs.length cap2) := (hB.cell (p := ⟨w'.heap.size, 0, none⟩) hBlt).trans Hchunk.out
            have hwr : IntKind.u64.wrap (cc : Int) = cc := by rw [IntKind.wrap_u64]; omega
            have hWs := hB.size
            have hl1 : (Lib.byteCells ([] ++ ptxt chs.length pre)).length ≤ 20000 := by rw [Lib.byteCells_length]; simp; omega
            have Hcc := Lib.hid hcc
            have Hix := Lib.hid hix
            have Hsn := Lib.hid hsn
            have Hpx := Lib.hid hpx
            have Hfu := Lib.hid hfu
            have Hb := Lib.hid hb
            have HB := Lib.hid hB
            have Hbs := Lib.hid hbs
            clear hcc hix hsn hpx hfu hb hB hbs
            by_cases hp : (ix : Int) < (chs.length : Int) - 1
            · have hpt : ptx chs.length x = List.replicate (9 - (dd cc).length) 48 ++ dd cc := by rw [Hpx.out, if_pos hp]; rfl
              have hrep := fun W => pad_rep (cc := cc) hS9 rfl W
              have hsz : (ByteArray.mk (dd cc).toArray).size = (dd cc).length := Bs_size _
              have Hpt := Lib.hid hpt
              clear hpt
              gi_wp2
              refine ⟨trivial, ?_⟩
              gi_at_call 121
              refine (CallsIn.inRound l (callsIn_wide.2 Hfu.out)).mono ?_
              rintro e w6 ⟨rfl, hb6⟩
              have hc6 := (hb6.cell (p := ⟨w'.heap.size, 0, none⟩) (by dsimp only; omega)).trans hcW
              have Hb6 := Lib.hid (bld_keep Hb.out (below_cells hb6))
              have hs6 := hb6.size
              gi_wp2
              refine ⟨trivial, ?_⟩
              gi_at_call 123
              refine (CallsIn.inRound l (callsIn_wide.2 (hrep _))).mono ?_
              rintro e w7 ⟨rfl, hb7⟩
              have Hb7 := Lib.hid (bld_keep Hb6.out (below_cells hb7))
              have hs7 := hb7.size
              gi_wp2
              refine ⟨trivial, ?_⟩
              gi_at_call 122
              refine (CallsIn.inRound l (callsIn_wide.2 (WriteString_k wr.heap.size wr.heap.size _ ⟨(List.replicate (9 - (dd cc).length) (48 : UInt8)).toArray⟩ w7 Hb7.out (by rw [show (ByteArray.mk (List.replicate (9 - (dd cc).length) (48 : UInt8)).toArray).size = 9 - (dd cc).length by rw [Bs_size' _]; simp]; omega) (by omega)))).mono ?_
              rintro e w8 ⟨rfl, hb8, hw8, ho8⟩
              rw [cells_app] at hb8
              have Hb8 := Lib.hid (show Lib.IsBuilderF 111 5 wr.heap.size wr.heap.size _ w8 from .inr hb8)
              have hs8 := hw8.size
              have Hw8 := Lib.hid hw8
              have Ho8 := Lib.hid ho8
              clear hb8 hw8 ho8
              gi_wp2
              refine ⟨trivial, ?_⟩
              gi_at_call 122
              refine (CallsIn.inRound l (callsIn_wide.2 (WriteString_k wr.heap.size wr.heap.size _ ⟨(dd cc).toArray⟩ w8 Hb8.out (by rw [hsz, Lib.byteCells_length]; simp; omega) (by omega)))).mono ?_
              rintro e w9 ⟨rfl, hb9, hw9, ho9⟩
              rw [cells_app] at hb9
              have Hb9 := Lib.hid (show Lib.IsBuilderF 111 5 wr.heap.size wr.heap.size _ w9 from .inr hb9)
              have hs9 := hw9.size
              have Hw9 := Lib.hid hw9
              have Ho9 := Lib.hid ho9
              clear hb9 hw9 ho9
              gi_wp2
              have h1 : KB wr.heap.size (wr.heap.size + 1) W w7 := ⟨(hb6.mono hWs).trans (hb7.mono (by omega)), (hb7.block _ (by have := (Array.getElem?_eq_some_iff.1 Hbs.out).1; omega)).trans (hb6.block _ (Array.getElem?_eq_some_iff.1 Hbs.out).1)⟩
              have h2 := kb_kept Hw8.out (h1.2.trans Hbs.out) (by decide) (by omega) Ho8.out
              have h3 := kb_kept Hw9.out ((h1.trans h2).2.trans Hbs.out) (by decide) (by omega) Ho9.out
              refine ⟨?_, (h1.trans h2).trans h3, ?_, ?_, ((h1.trans h2).trans h3).2.trans Hbs.out⟩
              · exact ((ko_below hb6).trans ((ko_below hb7).trans ((ko_kept Hb7.out hs8 Ho8.out).trans (ko_kept Hb8.out hs9 Ho9.out)))).from _
              · have h4 := Hb9.out
                rw [List.append_assoc, List.append_assoc, ← Hpt.out, ← Hsn.out] at h4
                exact h4
              · exact ((HB.out.trans (hb6.mono hWs)).trans (hb7.mono (by omega))).trans (Hw8.out.trans Hw9.out)
            · have hpt : ptx chs.length x = dd cc := by rw [Hpx.out, if_neg hp]
              have hsz : (ByteArray.mk (dd cc).toArray).size = (dd cc).length := Bs_size _
              have Hpt := Lib.hid hpt
              clear hpt
              gi_wp2
              refine ⟨trivial, ?_⟩
              gi_at_call 121
              refine (CallsIn.inRound l (callsIn_wide.2 Hfu.out)).mono ?_
              rintro e w6 ⟨rfl, hb6⟩
              have hc6 := (hb6.cell (p := ⟨w'.heap.size, 0, none⟩) (by dsimp only; omega)).trans hcW
              have Hb6 := Lib.hid (bld_keep Hb.out (below_cells hb6))
              have hs6 := hb6.size
              gi_wp2
              refine ⟨trivial, ?_⟩
              gi_at_call 122
              refine (CallsIn.inRound l (callsIn_wide.2 (WriteString_k wr.heap.size wr.heap.size _ ⟨(dd cc).toArray⟩ w6 Hb6.out (by rw [hsz, Lib.byteCells_length]; simp; omega) (by omega)))).mono ?_
              rintro e w9 ⟨rfl, hb9, hw9, ho9⟩
              rw [cells_app] at hb9
              have Hb9 := Lib.hid (show Lib.IsBuilderF 111 5 wr.heap.size wr.heap.size _ w9 from .inr hb9)
              have hs9 := hw9.size
              have Hw9 := Lib.hid hw9
              have Ho9 := Lib.hid ho9
              clear hb9 hw9 ho9
              gi_wp2
              have h1 : KB wr.heap.size (wr.heap.size + 1) W w6 := ⟨hb6.mono hWs, hb6.block _ (Array.getElem?_eq_some_iff.1 Hbs.out).1⟩
              have h3 := kb_kept Hw9.out (h1.2.trans Hbs.out) (by decide) (by omega) Ho9.out
              refine ⟨?_, h1.trans h3, ?_, ?_, (h1.trans h3).2.trans Hbs.out⟩
              · exact ((ko_below hb6).trans (ko_kept Hb6.out hs9 Ho9.out)).from _
              · have h4 := Hb9.out
                rw [List.append_assoc, ← Hpt.out, ← Hsn.out] at h4
                exact h4
              · exact (HB.out.trans (hb6.mono hWs)).trans Hw9.out
          case done =>
            rintro D ys W hD rfl ⟨hb, hB, _⟩ hK
            rw [ptxt_upto H9.out Hne.out, Htxt.out, fmt_false Hv0.out] at hb
            have hWs := hB.size
            have hDs : w.heap.size ≤ D := by rw [World.size_alloc] at hD; omega
            gi_wp2_with (refine ⟨trivial, ?_⟩; gi_at_call 124; refine (callsIn_wide.2 (Tryz.Builder_String_any_k wr.heap.size wr.heap.size _ W hb hWs)).mono ?_; rintro e w6 ⟨rfl, hb6, hw6, ho6⟩)
            have hK6 := (ko_kept hb hw6.size ho6).same D _ hK rfl
            refine ⟨by simp, .inl ⟨_, _, rfl, run_takeDeferred hK6, ?_⟩⟩
            refine ⟨_, results_tmp rfl _ _ _, rfl, ?_⟩
            exact (HBx.out.trans ((hB.trans hw6).mono (by omega))).trans (belowK_b (w := w) (Nat.le_refl _) w6 D _ _ hDs hK6 rfl rfl)
          case stop =>
            rintro D c pre W _ _ h _
            exact h.elim
        · gi_wp2_with (first | (refine ⟨trivial, ?_⟩; gi_at_call 119; refine (callsIn_wide.2 (WriteByte_k wr.heap.size wr.heap.size (Lib.byteCells []) 45 _ HB0.out (by simp [Lib.byteCells]) (by simp))).mono ?_; rintro e w4 ⟨rfl, hb4, hw4, ho4⟩; have hcV : w4.cell? ⟨w'.heap.size, 0, none⟩ = some (.slice (some ⟨k, 0, none⟩) chs.length cap2) := (hw4.cell (p := ⟨w'.heap.size, 0, none⟩) hBlt).trans hchunk1) | (refine ⟨trivial, ?_⟩; gi_at_call 120; refine (backward_in _ _ trivial hro _ _ _ _).mono ?_; rintro e w5 ⟨rfl, rfl⟩))
          have hbV : Lib.IsBuilderF 111 5 wr.heap.size wr.heap.size (Lib.byteCells [45]) w4 := .inr hb4; have hBV : Below wr.heap.size wr w4 := ((Below.refl _ _).alloc (Nat.le_refl _) _).trans hw4; have hlt0 := hb4.lt; clear ho4 hw4 hb4 hcV
          obtain ⟨V, hV⟩ : ∃ V, V = w4 := ⟨_, rfl⟩
          rw [← hV] at hbV hBV hlt0 ⊢
          have hVS : V.heap.size = V.heap.size := by first | rfl | (rw [hV, World.size_alloc])
          clear hV
          have hVs := hBV.size
          have HbV := Lib.hid hbV
          clear hbV hneg1 hchunk1 hne1 hne2 hk4 hg5 hg6 hg4 hg3 ho' Htrim Hcl Hm Hmd Hch Hcr
          have hVa : Below wr.heap.size wr (V.alloc (.cells #[.slice (some ⟨k, 0, none⟩) chs.length cap2] 22)) := hBV.alloc hVs _
          have hbs1 : (V.alloc (.cells #[.slice (some ⟨k, 0, none⟩) chs.length cap2] 22)).heap[V.heap.size]? = some (.cells #[.slice (some ⟨k, 0, none⟩) chs.length cap2] 22 (0, 0)) := (by rw [← hVS]; exact heap_alloc_new _ _)
          have hltZ : wr.heap.size < V.heap.size := by omega
          clear hlt0
          refine wpIn_rangeFunc_ownG hro (by decide) (gf := 141) (lb := #[.pointer (some ⟨V.heap.size, 0, none⟩)]) rfl trivial (enters_of Tryz.func141 (by kernel_rfl) rfl)
            (backM_stops Fence.wide 3 trivial hro (by decide) V.heap.size (some ⟨k, 0, none⟩) chs.length cap2 chs 1000000000 (by decide) H9.out wr _ HW.out hVa (by rw [World.size_alloc]; have := hVS; omega) (by rw [Lib.cell_of_heap hbs1]; rfl)) (fun h k => KB.trans h k) (KB.put (by simp; omega) (by rw [World.size_alloc]; have := hVS; omega)) (Below.refl _ _) (fun _ => rfl)
            (fun pre W => Lib.IsBuilderF 111 5 wr.heap.size wr.heap.size (Lib.byteCells ([45] ++ ptxt chs.length pre)) W ∧ Below wr.heap.size wr W ∧ W.heap[V.heap.size]? = some (.cells #[.slice (some ⟨k, 0, none⟩) chs.length cap2] 22 (0, 0)))
            (fun _ _ _ => False)
            (OwnFrom.and own_bld (OwnFrom.and (ownFrom_below (Nat.le_refl _) (by simp; omega)) (own_cells _ _ _ _)))
            (fun _ _ _ _ _ hs _ _ => hs)
            ⟨bld_keep HbV.out (below_cells ((Below.refl _ _).alloc (Nat.le_refl _) _)), hVa, hbs1⟩ ?atrue ?assign ?body ?done ?stop
          all_goals clear hVS
          case assign =>
            intro l x W K hK
            gi_wp2
            exact hK
          case body =>
            rintro l pre x W ⟨hb, hB, hbs⟩ hlt
            obtain ⟨cc, hcc⟩ : ∃ cc, cc = x.2 % 1000000000 := ⟨_, rfl⟩
            obtain ⟨ix, hix⟩ : ∃ ix, ix = x.1 := ⟨_, rfl⟩
            have hc9 : cc < 1000000000 := by rw [hcc]; exact mod9_lt _
            have hS9 := dd_len hc9
            have hL := ptxt_len chs.length pre
            have hsn := ptxt_snoc chs.length pre x
            have hpx : ptx chs.length x = if (ix : Int) < (chs.length : Int) - 1 then pad9 cc else dd cc := by rw [hcc, hix]; rfl
            rw [← hcc, ← hix]
            have hfu := strconv_FormatUint cc (by omega) W (Htab'.out.mono hB rfl).here
            rw [decDigits_dd] at hfu
            have hcW : W.cell? ⟨w'.heap.size, 0, none⟩ = some (.slice (some ⟨k, 0, none⟩) chs.length cap2) := (hB.cell (p := ⟨w'.heap.size, 0, none⟩) hBlt).trans Hchunk.out
            have hwr : IntKind.u64.wrap (cc : Int) = cc := by rw [IntKind.wrap_u64]; omega
            have hWs := hB.size
            have hl1 : (Lib.byteCells ([45] ++ ptxt chs.length pre)).length ≤ 20000 := by rw [Lib.byteCells_length]; simp; omega
            have Hcc := Lib.hid hcc
            have Hix := Lib.hid hix
            have Hsn := Lib.hid hsn
            have Hpx := Lib.hid hpx
            have Hfu := Lib.hid hfu
            have Hb := Lib.hid hb
            have HB := Lib.hid hB
            have Hbs := Lib.hid hbs
            clear hcc hix hsn hpx hfu hb hB hbs
            by_cases hp : (ix : Int) < (chs.length : Int) - 1
            · have hpt : ptx chs.length x = List.replicate (9 - (dd cc).length) 48 ++ dd cc := by rw [Hpx.out, if_pos hp]; rfl
              have hrep := fun W => pad_rep (cc := cc) hS9 rfl W
              have hsz : (ByteArray.mk (dd cc).toArray).size = (dd cc).length := Bs_size _
              have Hpt := Lib.hid hpt
              clear hpt
              gi_wp2
              refine ⟨trivial, ?_⟩
              gi_at_call 121
              refine (CallsIn.inRound l (callsIn_wide.2 Hfu.out)).mono ?_
              rintro e w6 ⟨rfl, hb6⟩
              have hc6 := (hb6.cell (p := ⟨w'.heap.size, 0, none⟩) (by dsimp only; omega)).trans hcW
              have Hb6 := Lib.hid (bld_keep Hb.out (below_cells hb6))
              have hs6 := hb6.size
              gi_wp2
              refine ⟨trivial, ?_⟩
              gi_at_call 123
              refine (CallsIn.inRound l (callsIn_wide.2 (hrep _))).mono ?_
              rintro e w7 ⟨rfl, hb7⟩
              have Hb7 := Lib.hid (bld_keep Hb6.out (below_cells hb7))
              have hs7 := hb7.size
              gi_wp2
              refine ⟨trivial, ?_⟩
              gi_at_call 122
              refine (CallsIn.inRound l (callsIn_wide.2 (WriteString_k wr.heap.size wr.heap.size _ ⟨(List.replicate (9 - (dd cc).length) (48 : UInt8)).toArray⟩ w7 Hb7.out (by rw [show (ByteArray.mk (List.replicate (9 - (dd cc).length) (48 : UInt8)).toArray).size = 9 - (dd cc).length by rw [Bs_size' _]; simp]; omega) (by omega)))).mono ?_
              rintro e w8 ⟨rfl, hb8, hw8, ho8⟩
              rw [cells_app] at hb8
              have Hb8 := Lib.hid (show Lib.IsBuilderF 111 5 wr.heap.size wr.heap.size _ w8 from .inr hb8)
              have hs8 := hw8.size
              have Hw8 := Lib.hid hw8
              have Ho8 := Lib.hid ho8
              clear hb8 hw8 ho8
              gi_wp2
              refine ⟨trivial, ?_⟩
              gi_at_call 122
              refine (CallsIn.inRound l (callsIn_wide.2 (WriteString_k wr.heap.size wr.heap.size _ ⟨(dd cc).toArray⟩ w8 Hb8.out (by rw [hsz, Lib.byteCells_length]; simp; omega) (by omega)))).mono ?_
              rintro e w9 ⟨rfl, hb9, hw9, ho9⟩
              rw [cells_app] at hb9
              have Hb9 := Lib.hid (show Lib.IsBuilderF 111 5 wr.heap.size wr.heap.size _ w9 from .inr hb9)
              have hs9 := hw9.size
              have Hw9 := Lib.hid hw9
              have Ho9 := Lib.hid ho9
              clear hb9 hw9 ho9
              gi_wp2
              have h1 : KB wr.heap.size V.heap.size W w7 := ⟨(hb6.mono hWs).trans (hb7.mono (by omega)), (hb7.block _ (by have := (Array.getElem?_eq_some_iff.1 Hbs.out).1; omega)).trans (hb6.block _ (Array.getElem?_eq_some_iff.1 Hbs.out).1)⟩
              have h2 := kb_kept Hw8.out (h1.2.trans Hbs.out) (by decide) (by omega) Ho8.out
              have h3 := kb_kept Hw9.out ((h1.trans h2).2.trans Hbs.out) (by decide) (by omega) Ho9.out
              refine ⟨?_, (h1.trans h2).trans h3, ?_, ?_, ((h1.trans h2).trans h3).2.trans Hbs.out⟩
              · exact ((ko_below hb6).trans ((ko_below hb7).trans ((ko_kept Hb7.out hs8 Ho8.out).trans (ko_kept Hb8.out hs9 Ho9.out)))).from _
              · have h4 := Hb9.out
                rw [List.append_assoc, List.append_assoc, ← Hpt.out, ← Hsn.out] at h4
                exact h4
              · exact ((HB.out.trans (hb6.mono hWs)).trans (hb7.mono (by omega))).trans (Hw8.out.trans Hw9.out)
            · have hpt : ptx chs.length x = dd cc := by rw [Hpx.out, if_neg hp]
              have hsz : (ByteArray.mk (dd cc).toArray).size = (dd cc).length := Bs_size _
              have Hpt := Lib.hid hpt
              clear hpt
              gi_wp2
              refine ⟨trivial, ?_⟩
              gi_at_call 121
              refine (CallsIn.inRound l (callsIn_wide.2 Hfu.out)).mono ?_
              rintro e w6 ⟨rfl, hb6⟩
              have hc6 := (hb6.cell (p := ⟨w'.heap.size, 0, none⟩) (by dsimp only; omega)).trans hcW
              have Hb6 := Lib.hid (bld_keep Hb.out (below_cells hb6))
              have hs6 := hb6.size
              gi_wp2
              refine ⟨trivial, ?_⟩
              gi_at_call 122
              refine (CallsIn.inRound l (callsIn_wide.2 (WriteString_k wr.heap.size wr.heap.size _ ⟨(dd cc).toArray⟩ w6 Hb6.out (by rw [hsz, Lib.byteCells_length]; simp; omega) (by omega)))).mono ?_
              rintro e w9 ⟨rfl, hb9, hw9, ho9⟩
              rw [cells_app] at hb9
              have Hb9 := Lib.hid (show Lib.IsBuilderF 111 5 wr.heap.size wr.heap.size _ w9 from .inr hb9)
              have hs9 := hw9.size
              have Hw9 := Lib.hid hw9
              have Ho9 := Lib.hid ho9
              clear hb9 hw9 ho9
              gi_wp2
              have h1 : KB wr.heap.size V.heap.size W w6 := ⟨hb6.mono hWs, hb6.block _ (Array.getElem?_eq_some_iff.1 Hbs.out).1⟩
              have h3 := kb_kept Hw9.out (h1.2.trans Hbs.out) (by decide) (by omega) Ho9.out
              refine ⟨?_, h1.trans h3, ?_, ?_, (h1.trans h3).2.trans Hbs.out⟩
              · exact ((ko_below hb6).trans (ko_kept Hb6.out hs9 Ho9.out)).from _
              · have h4 := Hb9.out
                rw [List.append_assoc, ← Hpt.out, ← Hsn.out] at h4
                exact h4
              · exact (HB.out.trans (hb6.mono hWs)).trans Hw9.out
          case done =>
            rintro D ys W hD rfl ⟨hb, hB, _⟩ hK
            rw [ptxt_upto H9.out Hne.out, Htxt.out, fmt_true Hv0.out] at hb
            have hWs := hB.size
            have hDs : w.heap.size ≤ D := by rw [World.size_alloc] at hD; omega
            gi_wp2_with (refine ⟨trivial, ?_⟩; gi_at_call 124; refine (callsIn_wide.2 (Tryz.Builder_String_any_k wr.heap.size wr.heap.size _ W hb hWs)).mono ?_; rintro e w6 ⟨rfl, hb6, hw6, ho6⟩)
            have hK6 := (ko_kept hb hw6.size ho6).same D _ hK rfl
            refine ⟨by simp, .inl ⟨_, _, rfl, run_takeDeferred hK6, ?_⟩⟩
            refine ⟨_, results_tmp rfl _ _ _, rfl, ?_⟩
            exact (HBx.out.trans ((hB.trans hw6).mono (by omega))).trans (belowK_b (w := w) (Nat.le_refl _) w6 D _ _ hDs hK6 rfl rfl)
          case stop =>
            rintro D c pre W _ _ h _
            exact h.elim
      · have hz1 : (ms.length : Int) > 0 := by omega
        have hz2 : (0 : Int) < ms.length := by omega
        gi_wp2
        gi_loopw [5, 6] (fun r i w2 => ∃ (k : Nat) (zs : List Nat) (rr : Nat), k ≤ ms.length ∧ i = .int .i64 ((ms.length : Int) - 1 - k) ∧ r = .int .u64 (rr : Int) ∧ rr < 1000000000 ∧ zs.length = ms.length ∧ Wd zs ∧
            w2.ownsRow (w.heap.size + 1) 92 1 (.slice (some ⟨g, 0, none⟩) ms.length cap) ms.length (zs.map W32) ∧ zs.take (ms.length - k) = ms.take (ms.length - k) ∧ val (zs.drop (ms.length - k)) * 1000000000 + rr = val (ms.drop (ms.length - k)) ∧
            (∀ b, b ≠ g → w2.heap[b]? = wr.heap[b]?) ∧ Below (w.heap.size + 1) wr w2)
          (fun r i w2 => (intOf i + 1).toNat)
        case atStart => exact ⟨0, ms, 0, Nat.zero_le _, by go_num, rfl, by decide, rfl, by rw [Hmd.out]; exact Wd_digs _, Hm.out, rfl, by rw [Nat.sub_zero, List.drop_length]; rfl, fun _ _ => rfl, Below.refl _ _⟩
        case round =>
          obtain ⟨k, zs, rr, hk, rfl, rfl, hrr, hzl, hzw, hzo, hzt, hzv, hzb, hzB⟩ := hrel
          have Hzl := Lib.hid hzl
          have Hzw := Lib.hid hzw
          have Hzt := Lib.hid hzt
          have Hzv := Lib.hid hzv
          have Hzb := Lib.hid hzb
          have HzB := Lib.hid hzB
          by_cases hlt : k < ms.length
          · obtain ⟨j, hj⟩ : ∃ j, j = ms.length - 1 - k := ⟨_, rfl⟩
            have hjl : j < ms.length := by omega
            have hjz : j < zs.length := by omega
            have hcell := hzo.cellAt j (by omega)
            have hfr := hzo.frozenAt j
            rw [List.getElem?_map, List.getElem?_eq_getElem hjz] at hcell
            have hxw : zs[j] < 4294967296 := hzw _ (List.getElem_mem hjz)
            obtain ⟨x, hx⟩ : ∃ x, zs[j] = x := ⟨_, rfl⟩
            rw [hx] at hcell hxw
            have hor := or_word rr x (by omega) hxw
            have Hx' := Lib.hid hx
            have Hzo := Lib.hid hzo
            have g1 : (0 : Int) ≤ (ms.length : Int) - 1 - k := by omega
            have g2 : (ms.length : Int) - 1 - k < ms.length := by omega
            have g3 : ((ms.length : Int) - 1 - k).toNat = j := by omega
            rw [hj] at hcell hfr g3
            have HJ := Lib.hid hj
            have Hjl := Lib.hid hjl
            clear hzo hzl hzw hzt hzv hzb hzB hx hj hjl
            gi_wp2
            obtain ⟨d, hd⟩ : ∃ d : Nat, (rr * 4294967296 + x) / 1000000000 = d := ⟨_, rfl⟩
            obtain ⟨r1, hr1⟩ : ∃ r1 : Nat, (rr * 4294967296 + x) % 1000000000 = r1 := ⟨_, rfl⟩
            have ed : ((rr : Int) * 4294967296 + x) / 1000000000 = (d : Nat) := by omega
            have er : ((rr : Int) * 4294967296 + x) % 1000000000 = (r1 : Nat) := by omega
            rw [ed, er]
            have hst := Hzo.out.stored j (W32 d)
            rw [HJ.out] at hst
            have hjl := Hjl.out
            refine ⟨⟨k + 1, zs.set j d, r1, by omega, by go_num, rfl, by omega, by rw [List.length_set]; exact Hzl.out, ?_, by rw [List.map_set, HJ.out]; exact hst.1, ?_, ?_, fun b hb => (Below.heap_setCell _ _ _ _ hb).trans (Hzb.out b hb), HzB.out.setCell (p := ⟨g, ms.length - 1 - k, none⟩) (by have h1 := hg1; rw [World.size_alloc] at h1; exact h1) _⟩, by simp [intOf]; omega⟩
            · exact Wd_set Hzw.out j d (by omega)
            · have ht := congrArg (List.take (ms.length - (k + 1))) Hzt.out
              rw [List.take_take, List.take_take, Nat.min_eq_left (by omega)] at ht
              have hj := HJ.out
              rw [List.take_set_of_le (by omega)]
              exact ht
            · have hj := HJ.out
              have hzl := Hzl.out
              have hmx : ms.getD j 0 = x := by
                have h1 := congrArg (fun l : List Nat => l.getD j 0) Hzt.out
                simp only [List.getD_eq_getElem?_getD, List.getElem?_take] at h1
                rw [if_pos (by omega), if_pos (by omega)] at h1
                rw [List.getD_eq_getElem?_getD, ← h1, List.getElem?_eq_getElem hjz, Hx'.out]
                rfl
              have e1 := drop_step ms (ms.length - k) (by omega) (by omega)
              have e2 := drop_step (zs.set j d) (ms.length - k) (by omega) (by rw [List.length_set]; omega)
              rw [show ms.length - k - 1 = j by omega] at e1 e2
              rw [show ms.length - (k + 1) = j by omega, e1, e2, hmx, List.drop_set_of_lt (by omega)]
              have h3 : (zs.set j d).getD j 0 = d := by rw [List.getD_eq_getElem?_getD, List.getElem?_set_self hjz]; rfl
              rw [h3]
              exact div_step Hzv.out hd hr1
          · obtain rfl : k = ms.length := by omega
            have hmc : ms.length ≤ cap := by
              rcases hzo.2 with ⟨h1, _⟩ | ⟨g', c', _, h1, _, _, h2, _⟩
              · cases h1
              · cases h1; exact h2
            have hw2 : Wrd wr (some ⟨g, 0, none⟩) ms.length cap zs := wrd_of_own hzo hzw hmc (by unfold maxLen at hg4; omega)
            have Hzo := Lib.hid hzo
            have htr := i_trim (some ⟨g, 0, none⟩) ms.length cap zs wr hw2
            have Htr := Lib.hid htr
            have g1 : ¬ ((0 : Int) ≤ (ms.length : Int) - 1 - ms.length) := by omega
            have hgq : w'.heap.size ≠ g := by have := (Array.getElem?_eq_some_iff.1 hg2).1; omega
            have hq := (hzb w'.heap.size hgq).trans Hcv.out
            have hcr2 := ownsRow_same Hcr.out hzb hne1
            have c0 : wr.cell? ⟨w'.heap.size, 0, none⟩ = some cv := by rw [Lib.cell_of_heap hq]; rfl
            have f0 : wr.frozen? ⟨w'.heap.size, 0, none⟩ = false := Lib.frozen_of_heap hq 0
            have Hq := Lib.hid hq
            have Hcr2 := Lib.hid hcr2
            clear hq hcr2
            clear hzo hzl hzw hzt hzv hzb hzB hw2 htr
            have hcl : chs.length ≤ 2000 := by
              have h1 := congrArg List.length Hch.out
              have h2 := ch_len_words Hx.out.wd
              rw [List.length_append] at h1
              omega
            obtain ⟨i0, hi, hz0, hz1', hz2'⟩ := info_parts Tryz.infoU32
            have hbs : w.heap.size + 1 ≤ wr.heap.size := by
              have h1 := hg1
              have h2 := (Array.getElem?_eq_some_iff.1 Hq.out).1
              rw [World.size_alloc] at h1 hb'
              have := hb'.size
              simp at this
              omega
            gi_wp2_with (first | (refine ⟨trivial, ?_⟩; gi_at_call 98; refine (callsIn_wide.2 Htr.out).mono ?_; rintro e w3 ⟨rfl, rfl⟩) | (gi_at_builtin; refine wpListIn_append_own _ rfl _ _ 22 rfl (w'.heap.size + 1) 92 i0 (.int .u32 0) 1 4 Tryz.underlying22 hi hz0 hz1' hz2' rfl (by decide) _ _ _ rfl (Hcr2.out.alloc _) ⟨wr.heap.size, 0, none⟩ 1 1 [W32 rr] rfl rfl ?c1 ?c2 ?c3 ?c4 ?c5 ?_))
            case c1 =>
              intro j u hj
              match j, hj with
              | 0, hj => simp at hj; subst hj; simp [Addr.add]
            case c2 => intro u hu; simp at hu; subst hu; rfl
            case c3 => unfold maxLen; omega
            case c4 => omega
            case c5 => have := (Array.getElem?_eq_some_iff.1 Hq.out).1; simp; omega
            intro v2 w2 hown2 hgrow _
            have hBlt := (Array.getElem?_eq_some_iff.1 Hq.out).1
            have hq2 : w2.heap[w'.heap.size]? = some (.cells #[cv] 22 (0, 0)) := by
              rw [hgrow.block w'.heap.size (by simp; omega) (fun e => hne2 e.symm), Lib.alloc_old wr _ w'.heap.size hBlt]
              exact Hq.out
            have e0 : w2.cell? ⟨w'.heap.size, 0, none⟩ = some cv := by rw [Lib.cell_of_heap hq2]; rfl
            have g0 : w2.frozen? ⟨w'.heap.size, 0, none⟩ = false := Lib.frozen_of_heap hq2 0
            obtain ⟨ao, n2, c2, rfl⟩ : ∃ ao n2 c2, v2 = .slice ao n2 c2 := by
              rcases hown2.2 with ⟨hv, _⟩ | ⟨g2, cap2, cur2, hv, _⟩
              · exact ⟨_, _, _, hv⟩
              · exact ⟨_, _, _, hv⟩
            have Hown2 := Lib.hid hown2
            have Hgrow := Lib.hid hgrow
            clear hown2 hgrow
            gi_wp2
            have hvz : val zs * 1000000000 + rr = val ms := by
              have := Hzv.out
              rw [Nat.sub_self, List.drop_zero, List.drop_zero] at this
              exact this
            have hm0 : val ms ≠ 0 := fun e => by
              have := Hmd.out
              rw [e, digs_zero] at this
              rw [this] at hz
              exact hz rfl
            have hzl := Hzl.out
            have htz := trim_length Hzw.out
            have hog : (w2.setCell ⟨w'.heap.size, 0, none⟩ (.slice ao n2 c2)).ownsRow (w.heap.size + 1) 92 1 (.slice (some ⟨g, 0, none⟩) (trim zs).length cap) (trim zs).length ((trim zs).map W32) := by
              have h1 : w2.ownsRow (w.heap.size + 1) 92 1 (.slice (some ⟨g, 0, none⟩) ms.length cap) ms.length (zs.map W32) := (Hzo.out.alloc _).kept Hgrow.out (.inr (fun e => hne1 e.symm))
              have h2 := own_take h1 (k := (trim zs).length) (by omega)
              rw [← List.map_take, (trim_prefix Hzw.out).1] at h2
              exact ownsRow_same h2 (g := w'.heap.size) (fun b hb => Below.heap_setCell _ _ _ _ hb) (fun e => hgq (Option.some.inj e).symm)
            have hos : ∀ k, (Value.slice ao n2 c2).ownBlock = some k → w'.heap.size + 1 ≤ k := fun k hk => (Hown2.out.lt k hk).1
            go_roundw
            case rel =>
              refine ⟨trim zs, chs ++ [rr], .slice ao n2 c2, rfl, hog, by rw [val_trim]; rfl, by omega, ?_, ?_, ?_, ?_⟩
              · rw [val_trim, ← Hch.out, ch_pos hm0, show val ms % 1000000000 = rr by omega, show val ms / 1000000000 = val zs by omega]
                simp
              · rw [heap_setCell_same _ _ _ _ _ _ hq2]; rfl
              · rw [List.length_append, List.map_append]
                exact ownsRow_same Hown2.out (g := w'.heap.size) (fun b hb => Below.heap_setCell _ _ _ _ hb) (fun e => by have := hos _ e; omega)
              · refine ((Hw'.out.trans HzB.out).alloc (by omega) _ |>.grown Hgrow.out (by simp; omega) (fun k hk => ?_)).setCell (p := ⟨w'.heap.size, 0, none⟩) ?_ _
                · have := (Hcr2.out.lt k hk).1
                  have := hb'.size
                  simp at this
                  omega
                · have := hb'.size
                  simp at this
                  exact this
            case measure =>
              show rowVal (.slice (some ⟨g, 0, none⟩) (trim zs).length cap) _ < rowVal (.slice (some ⟨g, 0, none⟩) ms.length cap) _
              rw [rowVal_own hog, rowVal_own Hm.out, val_trim]
              omega
theorem i_Format (v : Value) (na : Bool) (xs : List Nat) (w : World) (h : IntR w v na xs) (hl : xs.length ≤ 1000) (htab : TabG w) :
    Calls Tryz.prog 89 #[v] w fun e w' => e = .returned (.string (Bs (fmt (toZ na xs)))) ∧ Below w.heap.size w w' := callsIn_wide.1 (Format_in v na xs w h hl htab)
theorem ok_i_Format {na : Bool} {xs : List Nat} (hw : Wd xs) (hl : xs.length ≤ 1000) {z : Int} (hz : toZ na xs = z) : CallOK Tryz.prog 89 [dI na xs] (.one (dL (fmt z))) := by
  refine ⟨enter_of Tryz.func89 rfl rfl, fun S w vs hS hv => ?_⟩
  match vs, hv with
  | [v], ⟨h, _⟩ =>
    refine (i_Format v na xs w (intR_of h hw) hl hS.1).mono ?_
    rintro e w' ⟨rfl, hb⟩
    exact ⟨_, rfl, by rw [hz]; exact AV.M.val rfl, hb⟩
theorem okz_i_Format {z : Int} (h : (digs z.natAbs).length ≤ 1000) : CallOK Tryz.prog 89 [dZ z] (.one (dL (fmt z))) := ok_i_Format (Wd_digs _) h (toZ_int z)
end Go.Proofs.YtmpadildchphgaaGreatDoor
namespace Go.Proofs.YtmpadildchphgaaGreatDoor
open Go.RowKit
theorem ok_r1_by {a b : Nat} (h : (digs a).length ≤ 4294967296) (hb0 : 0 < b) (hb1 : b < 4294967296) : CallOK Tryz.prog 92 [dW (digs a), dN .u32 b] (.tup [dW (digs (a / b)), dN .u32 (a % b : Nat)]) :=
  ⟨enter_of Tryz.func92 rfl rfl, fun S w vs hS hv => by
    match vs, hv with
    | [v, u], ⟨h1, h2, _⟩ =>
      obtain rfl := av_val h2
      obtain ⟨A, n, c, rfl, hx⟩ := wrd_of h1 (Wd_digs _)
      have := r1_by A n c b (digs a) w hx (by rw [← hx.len]; exact h) hb0 hb1
      rw [val_digs] at this
      refine this.mono ?_
      rintro e w' ⟨A', n', c', rfl, hq, hb⟩
      refine ⟨_, rfl, ⟨[.slice A' n' c', .int .u32 (a % b : Nat)], rfl, rfl, fun i x u h1 h2 => ?_⟩, hb⟩
      match i with
      | 0 => simp at h1 h2; subst h1 h2; exact aW_of (hS.grow hb) hq
      | 1 => simp at h1 h2; subst h1 h2; exact AV.M.val rfl
      | i + 2 => simp at h1⟩
section
variable {P : Program} {T : TypeId → Option Ty} {n : Nat} {ops : Array Oper} {id : Nat} {draw : Bool} {K : AS → Prop} {s : AS} {k : Nat} {o : Oper} {os : List Oper} {fps : List FP}
theorem r_b2s (hT : ∀ t d, T t = some d → TyOK P t d) {t t' et : TypeId} {ty ty' te : Ty} {x : Operand} {l : List UInt8} {cs : List AV} (hcs : cs = l.map fun c => AV.val (.int .u8 c.toNat)) (hl : l ≠ []) (h1 : gd ops s o = some true) (h2 : o.op = .convert t t' x) (h5 : T t = some ty) (h6 : ty.elem = some (et, 1)) (h7 : T et = some te) (h8 : te.ik = some .u8) (h9 : T t' = some ty') (h10 : ty'.isStr = true) (h11 : s.ev x = .d (.leaf (.sl l.length cs)))
    (h3 : dstOK n o.dst = true) (h4 : chk draw ops (fpOf ops o ⟨.d (dL l), none⟩ []) k fps = true) (h : AOps P T n ops id draw K (k + 1) os (s.eff o.dst ⟨.d (dL l), none⟩) (fpOf ops o ⟨.d (dL l), none⟩ [] :: fps)) : AOps P T n ops id draw K k (o :: os) s fps := by
  refine .run h1 (.gen fun s2 ht _ => ?_) h3 h4 h
  have hx := (rt_op ht (x := x) (by simp [h2, Op.operands])).trans h11
  have hu := str_of (hT _ _ h9) h10
  obtain ⟨d, hd, _, hel, _⟩ := (hT _ _ h5).und
  obtain ⟨rfl, _⟩ := hel et 1 h6
  obtain ⟨d2, hd2, _, _, _, _, _, hik, _⟩ := (hT _ _ h7).und
  obtain rfl := hik _ h8
  refine sound_val fun n S0 w0 g a w hM => ⟨vL l, w, ?_, Below.refl _ _, AV.M.val rfl⟩
  have hm := hM.ev x
  rw [hx] at hm
  have hm : AV.M (Own S0 g s2) w (.sl l.length cs) (a.eval x) := hm
  unfold execOp
  rw [h2]
  obtain ⟨v, hv⟩ : ∃ v, a.eval x = v := ⟨_, rfl⟩
  rw [hv] at hm
  cases hm with
  | emp =>
    have : l = [] := by simpa using hcs.symm
    exact absurd this hl
  | sl f g1 g2 g3 g4 g5 g6 =>
    rename_i b off c
    have hc : ∀ i, i < l.length → w.cell? ⟨b, off + i, none⟩ = some (.int .u8 ((l.map fun c => (c.toNat : Int)).getD i 0)) := by
      intro i hi
      have h12 : cs[i]? = some (AV.val (.int .u8 (l[i].toNat : Int))) := by rw [hcs]; simp [hi]
      rw [g5 i _ h12, av_val (g6 i _ h12)]
      simp [hi]
    simp only [hv, Sem.run_bind, run_convert_bytes_arg w t et hd hd2 b off l.length c (l.map fun c => (c.toNat : Int)) (by simp) hc t' hu, Result.andThen_ok, Sem.run_pure]
    have : strOfNums (l.map fun c => (c.toNat : Int)) = Bs l := by
      unfold strOfNums Bs
      congr 2
      rw [List.map_map]
      conv => rhs; rw [← List.map_id l]
      apply List.map_congr_left
      intro x _
      simp
    rw [this]
    rfl
end
theorem ok_r1_Format {na : Bool} {xs : List Nat} (hw : Wd xs) {z : Int} (hxz : toZ na xs = z) (hz : FitZ z) : CallOK Tryz.prog 63 [dI na xs] (.one (dL (fmt z))) := by
  have hN : (dec z.natAbs).length ≤ 42949672960 := by
    have h1 := lt_of_digs (Nat.le_refl (digs z.natAbs).length)
    refine Nat.le_trans (dec_len (10 * (digs z.natAbs).length) _ (Nat.lt_of_lt_of_le h1 ?_)) (by unfold FitZ at hz; omega)
    rw [Nat.pow_mul]
    exact Nat.pow_le_pow_left (by decide) _
  refine callOK_of TT_ok mixT Tryz.func63 rfl rfl (Nat.le_of_ble_eq_true rfl) ?_
  repeat (first | refine r_op rfl rfl rfl rfl ?_ | refine r_skip rfl rfl rfl ?_ | refine .done ?_ | refine r_seq (T := TT) ?_ | refine r_region (T := TT) rfl ?_ | refine r_block (T := TT) ?_ | refine r_then (T := TT) rfl ?_ | refine r_else (T := TT) rfl ?_)
  refine r_call (ok_r1_Norm (na := na) hw hxz) rfl rfl rfl rfl rfl rfl rfl ?_
  repeat (first | refine r_op rfl rfl rfl rfl ?_ | refine r_skip rfl rfl rfl ?_ | refine .done ?_ | refine r_seq (T := TT) ?_ | refine r_region (T := TT) rfl ?_ | refine r_block (T := TT) ?_ | refine r_then (T := TT) rfl ?_ | refine r_else (T := TT) rfl ?_)
  refine r_loop (Nat × List UInt8) (fun p => dec z.natAbs = dec p.1 ++ p.2 ∧ (digs p.1).length ≤ 2147483648) (fun p => ⟨[(1, .box 0 0), (3, .d (dL p.2)), (4, .d (dW (digs p.1)))], [(0, some (aZ z))]⟩) (fun p => p.1) (z.natAbs, []) ⟨by simp, hz⟩ (weak ⟨rfl, rfl, rfl, trivial⟩ ⟨rfl, trivial⟩ rfl) ?_
  rintro ⟨a, t⟩ ⟨ha, hl⟩
  dsimp only at ha hl ⊢
  repeat (first | refine r_op rfl rfl rfl rfl ?_ | refine r_skip rfl rfl rfl ?_ | refine .done ?_ | refine r_seq (T := TT) ?_ | refine r_region (T := TT) rfl ?_ | refine r_block (T := TT) ?_ | refine r_then (T := TT) rfl ?_ | refine r_else (T := TT) rfl ?_)
  refine r_cond rfl (fun h => ?_) (fun h => ?_)
  · have h0 : a ≠ 0 := fun e => by rw [e, digs_zero] at h; exact absurd h (by decide)
    have hdl := congrArg List.length ha
    rw [dec_pos h0] at hdl
    simp only [List.length_append, List.length_cons, List.length_nil] at hdl
    have hm10 : a % 10 < 10 := Nat.mod_lt _ (by decide)
    refine r_skipc ?_
    repeat (first | refine r_op rfl rfl rfl rfl ?_ | refine r_skip rfl rfl rfl ?_ | refine .done ?_ | refine r_seq (T := TT) ?_ | refine r_region (T := TT) rfl ?_ | refine r_block (T := TT) ?_ | refine r_then (T := TT) rfl ?_ | refine r_else (T := TT) rfl ?_)
    refine r_call (ok_r1_by (b := 10) (Nat.le_trans hl (by decide)) (by decide) (by decide)) rfl rfl rfl rfl rfl rfl rfl ?_
    repeat (first | refine r_op rfl rfl rfl rfl ?_ | refine r_skip rfl rfl rfl ?_ | refine .done ?_ | refine r_seq (T := TT) ?_ | refine r_region (T := TT) rfl ?_ | refine r_block (T := TT) ?_ | refine r_then (T := TT) rfl ?_ | refine r_else (T := TT) rfl ?_)
    have hcv : (Value.int .u8 (IntKind.u8.wrap (IntKind.u32.wrap (48 + ((a % 10 : Nat) : Int)))) : Value) = .int .u8 ((dg (a % 10)).toNat : Int) := by
      rw [IntWalk.u32_in _ (by omega), IntWalk.u8_in _ (by omega), dg_toNat hm10]
      rfl
    refine r_b2s TT_ok (l := [dg (a % 10)]) (congrArg (fun v => [AV.val v]) hcv) (by simp) rfl rfl rfl rfl rfl rfl rfl rfl rfl rfl rfl ?_
    iterate 1 (first | refine r_op rfl rfl rfl rfl ?_ | refine r_skip rfl rfl rfl ?_)
    refine r_bin rfl rfl rfl rfl rfl rfl rfl (binV_cat (a := [dg (a % 10)]) (b := t) (by simp; omega)) ?_
    repeat (first | refine r_op rfl rfl rfl rfl ?_ | refine r_skip rfl rfl rfl ?_ | refine .done ?_ | refine r_seq (T := TT) ?_ | refine r_region (T := TT) rfl ?_ | refine r_block (T := TT) ?_ | refine r_then (T := TT) rfl ?_ | refine r_else (T := TT) rfl ?_)
    refine ⟨(a / 10, dg (a % 10) :: t), ⟨?_, ?_⟩, ?_, weak ⟨rfl, rfl, rfl, trivial⟩ ⟨rfl, trivial⟩ rfl⟩
    · rw [ha, dec_pos h0]; simp
    · exact Nat.le_trans (digs_len_mono (Nat.div_le_self _ _)) hl
    · dsimp only; omega
  · have h0 : a = 0 := by
      have := of_decide_eq_false h
      exact digs_length_zero.1 (by omega)
    subst h0
    rw [dec_zero, List.nil_append] at ha
    refine r_exit ?_
    refine r_seq ?_
    refine r_seq ?_
    refine r_region rfl ?_
    iterate 1 (first | refine r_op rfl rfl rfl rfl ?_ | refine r_skip rfl rfl rfl ?_)
    refine r_bin rfl rfl rfl rfl rfl rfl rfl (binV_eqS (b := [])) ?_
    repeat (first | refine r_op rfl rfl rfl rfl ?_ | refine r_skip rfl rfl rfl ?_ | refine .done ?_ | refine r_seq (T := TT) ?_ | refine r_region (T := TT) rfl ?_ | refine r_block (T := TT) ?_ | refine r_then (T := TT) rfl ?_ | refine r_else (T := TT) rfl ?_)
    by_cases hz0 : z = 0
    · have ht : t = [] := by rw [← ha, hz0]; exact dec_zero
      subst hz0
      refine r_then2 (T := TT) rfl ?_ ?_
      · exact decide_eq_true ht
      repeat (first | refine r_op rfl rfl rfl rfl ?_ | refine r_skip rfl rfl rfl ?_ | refine .done ?_ | refine r_seq (T := TT) ?_ | refine r_region (T := TT) rfl ?_ | refine r_block (T := TT) ?_ | refine r_then (T := TT) rfl ?_ | refine r_else (T := TT) rfl ?_)
      exact r_fin (T := TT) rfl rfl
    · have ht : t ≠ [] := by
        rw [← ha, dec_pos (by omega)]
        simp
      refine r_else2 (T := TT) rfl ?_ ?_
      · exact decide_eq_false ht
      refine r_skipc ?_
      repeat (first | refine r_op rfl rfl rfl rfl ?_ | refine r_skip rfl rfl rfl ?_ | refine .done ?_ | refine r_seq (T := TT) ?_ | refine r_region (T := TT) rfl ?_ | refine r_block (T := TT) ?_ | refine r_then (T := TT) rfl ?_ | refine r_else (T := TT) rfl ?_)
      refine r_cond rfl (fun h => ?_) (fun h => ?_)
      · have hneg := of_decide_eq_true h
        refine r_seq ?_
        refine r_region rfl ?_
        iterate 1 (first | refine r_op rfl rfl rfl rfl ?_ | refine r_skip rfl rfl rfl ?_)
        refine r_bin rfl rfl rfl rfl rfl rfl rfl (binV_cat (a := [45]) (b := t) (by rw [← ha]; simp; omega)) ?_
        repeat (first | refine r_op rfl rfl rfl rfl ?_ | refine r_skip rfl rfl rfl ?_ | refine .done ?_ | refine r_seq (T := TT) ?_ | refine r_region (T := TT) rfl ?_ | refine r_block (T := TT) ?_ | refine r_then (T := TT) rfl ?_ | refine r_else (T := TT) rfl ?_)
        have hf : fmt z = [45] ++ t := by
          unfold fmt
          rw [if_neg hz0, if_pos hneg, ha]
        rw [hf]
        exact r_fin (T := TT) rfl rfl
      · have hneg := of_decide_eq_false h
        refine r_skipc ?_
        repeat (first | refine r_op rfl rfl rfl rfl ?_ | refine r_skip rfl rfl rfl ?_ | refine .done ?_ | refine r_seq (T := TT) ?_ | refine r_region (T := TT) rfl ?_ | refine r_block (T := TT) ?_ | refine r_then (T := TT) rfl ?_ | refine r_else (T := TT) rfl ?_)
        have hf : fmt z = t := by
          unfold fmt
          rw [if_neg hz0, if_neg hneg, ha]
          rfl
        rw [hf]
        exact r_fin (T := TT) rfl rfl
theorem okz_r1_Format {z : Int} (hz : FitZ z) : CallOK Tryz.prog 63 [dZ z] (.one (dL (fmt z))) := ok_r1_Format (Wd_digs _) (toZ_int z) hz
end Go.Proofs.YtmpadildchphgaaGreatDoor
namespace Go.Proofs.YtmpadildchphgaaGreatDoor
open Go.RowKit
section
variable {P : Program} {T : TypeId → Option Ty} {n : Nat} {s : AS}
theorem r_cut {x y : Code} {Q : AX → AS → Prop} (σ : AS) (hy : ∀ s', Weak s' σ → AWp P T n y Q s') (hx : ∀ R : AX → AS → Prop, (∀ s', Weak s' σ → R .normal s') → R .ret = Q .ret → AWp P T n x R s) : AWp P T n (.seq x y) Q s := r_seq (hx _ hy rfl)
theorem r_cutP {x y : Code} {Q : AX → AS → Prop} (σ : AS) (φ : Prop) (hy : φ → ∀ s', Weak s' σ → AWp P T n y Q s') (hx : ∀ R : AX → AS → Prop, (φ → ∀ s', Weak s' σ → R .normal s') → R .ret = Q .ret → AWp P T n x R s) : AWp P T n (.seq x y) Q s := r_seq (hx _ hy rfl)
theorem Weak.trans {a b c : AS} (h : Weak a b) (h' : Weak b c) : Weak a c := fun n S0 w0 x w m => h' n S0 w0 x w (h n S0 w0 x w m)
theorem MG.rename {S0 : Nat → Prop} {w0 : Base} {g : Nat → Nat} {a : Act} {w : World} (h : MG n S0 w0 g s a w) {j j' : Nat} {cs : List AV} (hj : s.bx j = some cs) (hn : look s.b j' = none) (hw : isWB j' = isWB j) (hrv : resv j' = false) (hlb : isLB j' = false) :
    ∃ g', MG n S0 w0 g' ⟨s.t, (j', some cs) :: (j, none) :: s.b⟩ a w ∧ (∀ (m k e : Nat) (v : Value), TV.M (Own S0 g s) g s w (.own j m k e) v → TV.M (Own S0 g' ⟨s.t, (j', some cs) :: (j, none) :: s.b⟩) g' ⟨s.t, (j', some cs) :: (j, none) :: s.b⟩ w (.own j' m k e) v) ∧ ∀ i, i ≠ j' → g' i = g i := by
  have hjj : j' ≠ j := fun e => by
    subst e
    obtain ⟨x, hx⟩ := AS.kn_of hj
    rw [hn] at hx
    cases hx
  have hkn : ∀ i, s.kn i → i ≠ j' := fun i ⟨x, hx⟩ e => by subst e; rw [hn] at hx; cases hx
  have hbx : ∀ i ci, (AS.mk s.t ((j', some cs) :: (j, none) :: s.b)).bx i = some ci → (i = j' ∧ ci = cs) ∨ (i ≠ j' ∧ i ≠ j ∧ s.bx i = some ci) := fun i ci hi => by
    by_cases e1 : i = j'
    · subst e1; rw [AS.bx_same] at hi; cases hi; exact .inl ⟨rfl, rfl⟩
    · rw [AS.bx_ne _ s.t _ _ e1] at hi
      by_cases e2 : i = j
      · subst e2; rw [AS.bx_dead] at hi; cases hi
      · rw [AS.bx_ne _ s.t _ _ e2] at hi; exact .inr ⟨e1, e2, hi⟩
  have hO : Own S0 (fun i => if i = j' then g j else g i) (AS.mk s.t ((j', some cs) :: (j, none) :: s.b)) = Own S0 g s := by
    funext b
    apply propext
    constructor
    · rintro (h0 | ⟨i, ci, hi, e0⟩)
      · exact .inl h0
      · rcases hbx i ci hi with ⟨rfl, rfl⟩ | ⟨h1, h2, h3⟩
        · simp only [if_true] at e0; exact .inr ⟨j, ci, hj, e0⟩
        · simp only [h1, if_false] at e0; exact .inr ⟨i, ci, h3, e0⟩
    · rintro (h0 | ⟨i, ci, hi, e0⟩)
      · exact .inl h0
      · by_cases e2 : i = j
        · subst e2
          exact .inr ⟨j', cs, AS.bx_same _ _ _ _, by simp only [if_true]; exact e0⟩
        · have h1 := hkn i (AS.kn_of hi)
          refine .inr ⟨i, ci, ?_, by simp only [h1, if_false]; exact e0⟩
          rw [AS.bx_ne _ s.t _ _ h1, AS.bx_ne _ s.t _ _ e2]
          exact hi
  have hF : Foll s (AS.mk s.t ((j', some cs) :: (j, none) :: s.b)) g (fun i => if i = j' then g j else g i) w w := ⟨fun z hz => AS.kn_cons (t := s.t) _ (AS.kn_cons (t := s.t) _ hz), fun z cz hk hz => by
    rcases hbx z cz hz with ⟨e1, _⟩ | ⟨h1, h2, h3⟩
    · exact absurd e1 (hkn z hk)
    · exact ⟨cz, h3, Nat.le_refl _, by simp only [h1, if_false], fun a1 e1 h4 => ⟨a1, h4, rfl⟩⟩⟩
  refine ⟨fun i => if i = j' then g j else g i, ⟨fun i => ?_, fun i ci hi => ?_, fun i i' ci ci' hi hi' e0 => ?_, h.grow, h.df, h.sz, h.cl, h.tg, fun k cs hk => by rw [hO]; exact (h.gl k cs hk).agree (Agree.refl _ _) (fun _ _ h => h) hF, fun i q ci h1 h2 hi => by
    rcases hbx i ci hi with ⟨e1, _⟩ | ⟨h3, h4, h5⟩
    · subst e1; rw [hrv] at h1; cases h1
    · simp only [h3, if_false]; exact h.gp i q ci h1 h2 h5⟩, fun m k e v hm => ?_, fun i hi => by simp only [hi, if_false]⟩
  · rw [hO]
    exact (h.tm i).agree (Agree.refl _ _) (fun _ _ h => h) hF
  · rw [hO]
    rcases hbx i ci hi with ⟨rfl, rfl⟩ | ⟨h1, h2, h3⟩
    · simp only [if_true]
      obtain ⟨h1, arr, e1, h4, h5, h6, _⟩ := h.bm j ci hj
      exact ⟨h1, arr, e1, h4, h5, fun hb => h6 (by rw [← hw]; exact hb), fun hl => absurd hl (by rw [hlb]; decide), fun ht => absurd (isTB_lb ht) (by rw [hlb]; decide)⟩
    · simp only [h1, if_false]
      obtain ⟨h4, h5⟩ := h.bm i ci h3
      exact ⟨h4, h5.agree rfl (Agree.refl _ _) (fun _ _ h => h) hF⟩
  · rcases hbx i ci hi with ⟨e1, _⟩ | ⟨h1, h2, h3⟩ <;> rcases hbx i' ci' hi' with ⟨e1', _⟩ | ⟨h1', h2', h3'⟩
    · rw [e1, e1']
    · rw [if_pos e1, if_neg h1'] at e0
      exact absurd (h.inj j i' cs ci' hj h3' e0).symm h2'
    · rw [if_neg h1, if_pos e1'] at e0
      exact absurd (h.inj i j ci cs h3 hj e0) h2
    · rw [if_neg h1, if_neg h1'] at e0
      exact h.inj i i' ci ci' h3 h3' e0
  · obtain ⟨c, e1, e2, e3, e4, e5⟩ := hm.2 cs hj
    refine ⟨⟨_, look_same _ _ _⟩, fun ci hc => ?_⟩
    rw [AS.bx_same] at hc
    cases hc
    simp only [if_true]
    exact ⟨c, e1, e2, e3, e4, e5⟩
theorem weak_renameC {i off j j' m k e : Nat} {cb cs : List AV} (hlbi : isLB i = true) (hi : s.bx i = some cb) (hq : cb[off]? = some (.ow j m k e)) (hj : s.bx j = some cs) (hn : look s.b j' = none) (hw : isWB j' = isWB j) (hij : Nat.beq i j = false) (hrv : resv j' = false := by rfl) (hlb : isLB j' = false := by rfl) :
    Weak s ⟨s.t, (i, some (cb.set off (.ow j' m k e))) :: (j', some cs) :: (j, none) :: s.b⟩ := by
  rintro n S0 w0 a w ⟨g, h⟩
  have hij : i ≠ j := fun e => by subst e; simp at hij
  have hij' : i ≠ j' := fun e => by subst e; obtain ⟨x, hx⟩ := AS.kn_of hi; rw [hn] at hx; cases hx
  obtain ⟨g', h1, h2, h3⟩ := h.rename hj hn hw hrv hlb
  obtain ⟨_, arr, e0, k1, k2, k3, k4, _⟩ := h.bm i cb hi
  refine ⟨g', h1.recell (by rw [AS.bx_ne _ s.t _ _ hij', AS.bx_ne _ s.t _ _ hij]; exact hi) fun arr' e1 q1 v hlt hv => ?_⟩
  rw [h3 i hij', k1] at q1
  injection q1 with q1
  injection q1 with q1 q1'
  subst q1 q1'
  exact ⟨.ow (k2.2 off _ v hq hv).plain, fun _ => h2 m k e v (k4 hlbi off _ v hq hv)⟩
theorem weak_nl {i off : Nat} {cb : List AV} (hi : s.bx i = some cb) (hq : cb[off]? = some .nl) : Weak s ⟨s.t, (i, some (cb.set off (.sl 0 []))) :: s.b⟩ := by
  rintro n S0 w0 a w ⟨g, h⟩
  obtain ⟨_, arr, e0, k1, k2, _⟩ := h.bm i cb hi
  refine ⟨g, h.recell hi fun arr' e1 q1 v hlt hv => ?_⟩
  rw [k1] at q1
  injection q1 with q1
  injection q1 with q1 q1'
  subst q1 q1'
  have := k2.2 off _ v hq hv
  cases this
  exact ⟨.emp (Nat.le_refl _) (by decide) (fun _ => rfl), fun _ => trivial⟩
theorem weak_freezeC {i off j m k e : Nat} {cb cs : List AV} (hlbi : isLB i = true) (hi : s.bx i = some cb) (hq : cb[off]? = some (.ow j m k e)) (hj : s.bx j = some cs) (hij : Nat.beq i j = false) : Weak s ⟨s.t, (i, some (cb.set off (.sl m cs))) :: (j, none) :: s.b⟩ := by
  rintro n S0 w0 a w ⟨g, h⟩
  exact ⟨g, h.freezeC hlbi hi hq hj (fun e => by subst e; simp at hij)⟩
end
section
variable {P : Program} {T : TypeId → Option Ty} {n : Nat} {ops : Array Oper} {id : Nat} {draw : Bool} {K : AS → Prop} {s : AS} {k : Nat} {o : Oper} {os : List Oper} {fps : List FP}
end
end Go.Proofs.YtmpadildchphgaaGreatDoor
namespace Go.Proofs.YtmpadildchphgaaGreatDoor
open Go.RowKit
end Go.Proofs.YtmpadildchphgaaGreatDoor
namespace Go.Proofs.YtmpadildchphgaaGreatDoor
open Go.RowKit
attribute [local go_sem ↓] Go.wp_at_zero Go.wp_at_succ
end Go.Proofs.YtmpadildchphgaaGreatDoor
namespace Go.Proofs.YtmpadildchphgaaGreatDoor
open Go.RowKit
section
variable {P : Program} {T : TypeId → Option Ty} {n : Nat} {ops : Array Oper} {id : Nat} {draw : Bool} {K : AS → Prop} {s : AS} {k : Nat} {o : Oper} {os : List Oper} {fps : List FP}
end
end Go.Proofs.YtmpadildchphgaaGreatDoor
namespace Go.Proofs.YtmpadildchphgaaGreatDoor
open Go.RowKit
def validQ (na : Bool) (xs : List Nat) (nb : Bool) (ys : List Nat) : Bool := validB na xs && validB nb ys && decide (0 < toZ nb ys) && decide (Nat.gcd (val xs) (val ys) = 1)
theorem validB_digs {na : Bool} {xs : List Nat} (hw : Wd xs) (h : validB na xs = true) : xs = digs (toZ na xs).natAbs ∧ na = decide (toZ na xs < 0) := by
  unfold validB at h
  rw [Bool.and_eq_true] at h
  have h1 := of_decide_eq_true h.1
  have hp := (trim_prefix hw).1
  rw [h1, List.take_length] at hp
  rw [natAbs_toZ]
  refine ⟨hp, ?_⟩
  cases na
  · exact (decide_eq_false (by unfold toZ; simp)).symm
  · have h2 := h.2
    simp at h2
    have : val xs ≠ 0 := fun e => by
      rw [hp] at h2
      unfold trim at h2
      rw [e, digs_zero] at h2
      simp at h2
    exact (decide_eq_true (by unfold toZ; simp; omega)).symm
theorem valid_rat {na nb : Bool} {xs ys : List Nat} (hw : Wd xs) (hw' : Wd ys) (h : validQ na xs nb ys = true) : ∃ q : Rat, aI2 na xs nb ys = aQ q ∧ xs = digs q.num.natAbs ∧ ys = digs (q.den : Int).natAbs := by
  unfold validQ at h
  simp only [Bool.and_eq_true, decide_eq_true_eq] at h
  obtain ⟨⟨⟨h1, h2⟩, h3⟩, h4⟩ := h
  obtain ⟨e1, e2⟩ := validB_digs hw h1
  obtain ⟨e3, e4⟩ := validB_digs hw' h2
  have hd : ((toZ nb ys).toNat : Int) = toZ nb ys := by omega
  refine ⟨⟨toZ na xs, (toZ nb ys).toNat, by omega, ?_⟩, ?_, e1, ?_⟩
  · rw [natAbs_toZ, show (toZ nb ys).toNat = (toZ nb ys).natAbs by omega, natAbs_toZ]; exact h4
  · show aI na xs ++ aI nb ys = aZ (toZ na xs) ++ aZ ((toZ nb ys).toNat : Int)
    rw [hd]
    unfold aZ
    rw [← e1, ← e2, ← e3, ← e4]
  · show ys = digs ((toZ nb ys).toNat : Int).natAbs
    rw [hd]; exact e3
theorem validQ_rat (q : Rat) : validQ (decide (q.num < 0)) (digs q.num.natAbs) (decide ((q.den : Int) < 0)) (digs (q.den : Int).natAbs) = true := by
  unfold validQ
  rw [validB_int, validB_int, toZ_int, val_digs, val_digs, decide_eq_true (den_pos q), decide_eq_true (by rw [Int.natAbs_natCast]; exact q.reduced)]
  rfl
theorem ok_r2_Valid' {na nb : Bool} {xs ys : List Nat} (hw : Wd xs) (hw' : Wd ys) (h1 : Fit xs) (h2 : Fit ys) {b : Bool} (hb : validQ na xs nb ys = b) : CallOK Tryz.prog 69 [dI2 na xs nb ys] (.one (dB b)) := by
  subst hb
  unfold validQ
  cases c1 : validB na xs
  · refine callOK_of TT_ok mixT Tryz.func69 rfl rfl (Nat.le_of_ble_eq_true rfl) ?_
    repeat (first | refine r_op rfl rfl rfl rfl ?_ | refine r_skip rfl rfl rfl ?_ | refine .done ?_ | refine r_seq (T := TT) ?_ | refine r_region (T := TT) rfl ?_ | refine r_block (T := TT) ?_ | refine r_then (T := TT) rfl ?_ | refine r_else (T := TT) rfl ?_)
    refine r_call (ok_r1_Valid (na := na) hw c1) rfl rfl rfl rfl rfl rfl rfl ?_
    repeat (first | refine r_op rfl rfl rfl rfl ?_ | refine r_skip rfl rfl rfl ?_ | refine .done ?_ | refine r_seq (T := TT) ?_ | refine r_region (T := TT) rfl ?_ | refine r_block (T := TT) ?_ | refine r_then (T := TT) rfl ?_ | refine r_else (T := TT) rfl ?_)
    exact r_fin (T := TT) rfl rfl
  cases c2 : validB nb ys
  · refine callOK_of TT_ok mixT Tryz.func69 rfl rfl (Nat.le_of_ble_eq_true rfl) ?_
    repeat (first | refine r_op rfl rfl rfl rfl ?_ | refine r_skip rfl rfl rfl ?_ | refine .done ?_ | refine r_seq (T := TT) ?_ | refine r_region (T := TT) rfl ?_ | refine r_block (T := TT) ?_ | refine r_then (T := TT) rfl ?_ | refine r_else (T := TT) rfl ?_)
    refine r_call (ok_r1_Valid (na := na) hw c1) rfl rfl rfl rfl rfl rfl rfl ?_
    repeat (first | refine r_op rfl rfl rfl rfl ?_ | refine r_skip rfl rfl rfl ?_ | refine .done ?_ | refine r_seq (T := TT) ?_ | refine r_region (T := TT) rfl ?_ | refine r_block (T := TT) ?_ | refine r_then (T := TT) rfl ?_ | refine r_else (T := TT) rfl ?_)
    refine r_call (ok_r1_Valid (na := nb) hw' c2) rfl rfl rfl rfl rfl rfl rfl ?_
    repeat (first | refine r_op rfl rfl rfl rfl ?_ | refine r_skip rfl rfl rfl ?_ | refine .done ?_ | refine r_seq (T := TT) ?_ | refine r_region (T := TT) rfl ?_ | refine r_block (T := TT) ?_ | refine r_then (T := TT) rfl ?_ | refine r_else (T := TT) rfl ?_)
    exact r_fin (T := TT) rfl rfl
  by_cases c3 : 0 < toZ nb ys
  · have hc : decide (Nat.gcd (val xs) (val ys) = 1) = decide (((Nat.gcd (val xs) (val ys) : Nat) : Int) = 1) := by by_cases h : Nat.gcd (val xs) (val ys) = 1 <;> simp [h] <;> omega
    rw [decide_eq_true c3, hc]
    refine callOK_of TT_ok mixT Tryz.func69 rfl rfl (Nat.le_of_ble_eq_true rfl) ?_
    repeat (first | refine r_op rfl rfl rfl rfl ?_ | refine r_skip rfl rfl rfl ?_ | refine .done ?_ | refine r_seq (T := TT) ?_ | refine r_region (T := TT) rfl ?_ | refine r_block (T := TT) ?_ | refine r_then (T := TT) rfl ?_ | refine r_else (T := TT) rfl ?_)
    refine r_call (ok_r1_Valid (na := na) hw c1) rfl rfl rfl rfl rfl rfl rfl ?_
    repeat (first | refine r_op rfl rfl rfl rfl ?_ | refine r_skip rfl rfl rfl ?_ | refine .done ?_ | refine r_seq (T := TT) ?_ | refine r_region (T := TT) rfl ?_ | refine r_block (T := TT) ?_ | refine r_then (T := TT) rfl ?_ | refine r_else (T := TT) rfl ?_)
    refine r_call (ok_r1_Valid (na := nb) hw' c2) rfl rfl rfl rfl rfl rfl rfl ?_
    repeat (first | refine r_op rfl rfl rfl rfl ?_ | refine r_skip rfl rfl rfl ?_ | refine .done ?_ | refine r_seq (T := TT) ?_ | refine r_region (T := TT) rfl ?_ | refine r_block (T := TT) ?_ | refine r_then (T := TT) rfl ?_ | refine r_else (T := TT) rfl ?_)
    refine r_call (ok_r1_Sign (na := nb) hw' (Int.sign_eq_one_of_pos c3)) rfl rfl rfl rfl rfl rfl rfl ?_
    repeat (first | refine r_op rfl rfl rfl rfl ?_ | refine r_skip rfl rfl rfl ?_ | refine .done ?_ | refine r_seq (T := TT) ?_ | refine r_region (T := TT) rfl ?_ | refine r_block (T := TT) ?_ | refine r_then (T := TT) rfl ?_ | refine r_else (T := TT) rfl ?_)
    refine r_call (ok_r1_GCD (na := na) (nb := nb) hw hw' h1 h2) rfl rfl rfl rfl rfl rfl rfl ?_
    repeat (first | refine r_op rfl rfl rfl rfl ?_ | refine r_skip rfl rfl rfl ?_ | refine .done ?_ | refine r_seq (T := TT) ?_ | refine r_region (T := TT) rfl ?_ | refine r_block (T := TT) ?_ | refine r_then (T := TT) rfl ?_ | refine r_else (T := TT) rfl ?_)
    refine r_call (okz_r2_one rfl) rfl rfl rfl rfl rfl rfl rfl ?_
    repeat (first | refine r_op rfl rfl rfl rfl ?_ | refine r_skip rfl rfl rfl ?_ | refine .done ?_ | refine r_seq (T := TT) ?_ | refine r_region (T := TT) rfl ?_ | refine r_block (T := TT) ?_ | refine r_then (T := TT) rfl ?_ | refine r_else (T := TT) rfl ?_)
    exact r_fin (T := TT) rfl rfl
  · rw [decide_eq_false c3]
    obtain ⟨z, hz, hz0⟩ : ∃ z, (toZ nb ys).sign = z ∧ ¬ z > 0 := ⟨_, rfl, fun h => c3 (Int.sign_pos_iff.1 h)⟩
    refine callOK_of TT_ok mixT Tryz.func69 rfl rfl (Nat.le_of_ble_eq_true rfl) ?_
    repeat (first | refine r_op rfl rfl rfl rfl ?_ | refine r_skip rfl rfl rfl ?_ | refine .done ?_ | refine r_seq (T := TT) ?_ | refine r_region (T := TT) rfl ?_ | refine r_block (T := TT) ?_ | refine r_then (T := TT) rfl ?_ | refine r_else (T := TT) rfl ?_)
    refine r_call (ok_r1_Valid (na := na) hw c1) rfl rfl rfl rfl rfl rfl rfl ?_
    repeat (first | refine r_op rfl rfl rfl rfl ?_ | refine r_skip rfl rfl rfl ?_ | refine .done ?_ | refine r_seq (T := TT) ?_ | refine r_region (T := TT) rfl ?_ | refine r_block (T := TT) ?_ | refine r_then (T := TT) rfl ?_ | refine r_else (T := TT) rfl ?_)
    refine r_call (ok_r1_Valid (na := nb) hw' c2) rfl rfl rfl rfl rfl rfl rfl ?_
    repeat (first | refine r_op rfl rfl rfl rfl ?_ | refine r_skip rfl rfl rfl ?_ | refine .done ?_ | refine r_seq (T := TT) ?_ | refine r_region (T := TT) rfl ?_ | refine r_block (T := TT) ?_ | refine r_then (T := TT) rfl ?_ | refine r_else (T := TT) rfl ?_)
    refine r_call (ok_r1_Sign (na := nb) hw' hz) rfl rfl rfl rfl rfl rfl rfl ?_
    refine r_eq (v' := .bool false) rfl rfl rfl rfl ?_ ?_
    · exact congrArg Value.bool (decide_eq_false hz0)
    repeat (first | refine r_op rfl rfl rfl rfl ?_ | refine r_skip rfl rfl rfl ?_ | refine .done ?_ | refine r_seq (T := TT) ?_ | refine r_region (T := TT) rfl ?_ | refine r_block (T := TT) ?_ | refine r_then (T := TT) rfl ?_ | refine r_else (T := TT) rfl ?_)
    exact r_fin (T := TT) rfl rfl
theorem ok_r2_ValidQ {k : Nat} (q : Rat) (h : SzQ k q) (hk : k ≤ 2147483648) : CallOK Tryz.prog 69 [dQ q] (.one (dB true)) := ok_r2_Valid' (Wd_digs _) (Wd_digs _) (Nat.le_trans h.1.digs hk) (Nat.le_trans h.2.digs hk) (validQ_rat q)
theorem aW_at {xs : List Nat} {i x : Nat} (h : xs[i]? = some x) : ∀ (j : Nat) (a : AV), [AV.val (W32 x)][j]? = some a → (xs.map fun x : Nat => AV.val (W32 x))[i * 1 + j]? = some a := by
  intro j a hj
  match j, hj with
  | 0, hj => rw [Nat.mul_one, Nat.add_zero, List.getElem?_map, h]; exact hj
theorem sameB_ne {na nb : Bool} {xs ys : List Nat} (h : xs ≠ ys) : sameB na nb xs ys = false := by unfold sameB; rw [decide_eq_false h, Bool.and_false]
theorem sameB_eq {na : Bool} {xs ys : List Nat} (h : xs = ys) : sameB na na xs ys = true := by unfold sameB; rw [decide_eq_true h]; cases na <;> rfl
set_option maxHeartbeats 1000000 in
theorem ok_r2_SameInt {na nb : Bool} {xs ys : List Nat} (hl : xs.length ≤ 2147483648) {b : Bool} (hb : sameB na nb xs ys = b) : CallOK Tryz.prog 67 [dI na xs, dI nb ys] (.one (dB b)) := by
  subst hb
  by_cases hn : na = nb
  · subst hn
    by_cases hxy : xs.length = ys.length
    · cases na
      · refine callOK_of TT_ok mixT Tryz.func67 rfl rfl (Nat.le_of_ble_eq_true rfl) ?_
        repeat refine r_seq (T := TT) ?_
        refine r_region (T := TT) rfl ?_
        repeat (first | refine r_op rfl rfl rfl rfl ?_ | refine r_skip rfl rfl rfl ?_)
        try refine .done ?_
        repeat refine r_seq (T := TT) ?_
        refine r_region (T := TT) rfl ?_
        iterate 12 (first | refine r_op rfl rfl rfl rfl ?_ | refine r_skip rfl rfl rfl ?_)
        refine r_eq (v' := .bool false) rfl rfl rfl rfl ?_ ?_
        · exact congrArg Value.bool ((by simp [hxy]))
        repeat (first | refine r_op rfl rfl rfl rfl ?_ | refine r_skip rfl rfl rfl ?_ | refine .done ?_ | refine r_seq (T := TT) ?_ | refine r_region (T := TT) rfl ?_ | refine r_block (T := TT) ?_ | refine r_then (T := TT) rfl ?_ | refine r_else (T := TT) rfl ?_)
        refine r_loop Nat (fun j => j ≤ xs.length ∧ ∀ i, i < j → xs[i]? = ys[i]?) (fun j => ⟨[(2, .box 0 0), (3, .box 1 0), (5, .d (dN .i64 j))], [(0, some (aI false xs)), (1, some (aI false ys))]⟩) (fun j => xs.length - j) 0 ⟨Nat.zero_le _, fun i h => absurd h (Nat.not_lt_zero _)⟩ (weak ⟨rfl, rfl, rfl, trivial⟩ ⟨rfl, rfl, trivial⟩ rfl) ?_
        rintro j ⟨hj, hall⟩
        repeat (first | refine r_op rfl rfl rfl rfl ?_ | refine r_skip rfl rfl rfl ?_ | refine .done ?_ | refine r_seq (T := TT) ?_ | refine r_region (T := TT) rfl ?_ | refine r_block (T := TT) ?_ | refine r_then (T := TT) rfl ?_ | refine r_else (T := TT) rfl ?_)
        refine r_cond rfl (fun h => ?_) (fun h => ?_)
        · have hlt : j < xs.length := by have := of_decide_eq_true h; omega
          have hlt' : j < ys.length := by omega
          repeat (first | refine r_op rfl rfl rfl rfl ?_ | refine r_skip rfl rfl rfl ?_ | refine .done ?_ | refine r_seq (T := TT) ?_ | refine r_region (T := TT) rfl ?_ | refine r_block (T := TT) ?_ | refine r_then (T := TT) rfl ?_ | refine r_else (T := TT) rfl ?_)
          refine r_idx (cs' := [AV.val (W32 xs[j])]) hlt (aW_at (by simp [hlt])) (Nat.lt_succ_self 0) rfl rfl rfl rfl rfl rfl rfl rfl ?_
          repeat (first | refine r_op rfl rfl rfl rfl ?_ | refine r_skip rfl rfl rfl ?_ | refine .done ?_ | refine r_seq (T := TT) ?_ | refine r_region (T := TT) rfl ?_ | refine r_block (T := TT) ?_ | refine r_then (T := TT) rfl ?_ | refine r_else (T := TT) rfl ?_)
          refine r_idx (cs' := [AV.val (W32 ys[j])]) hlt' (aW_at (by simp [hlt'])) (Nat.lt_succ_self 0) rfl rfl rfl rfl rfl rfl rfl rfl ?_
          repeat (first | refine r_op rfl rfl rfl rfl ?_ | refine r_skip rfl rfl rfl ?_ | refine .done ?_ | refine r_seq (T := TT) ?_ | refine r_region (T := TT) rfl ?_ | refine r_block (T := TT) ?_ | refine r_then (T := TT) rfl ?_ | refine r_else (T := TT) rfl ?_)
          refine r_cond rfl (fun h2 => ?_) (fun h2 => ?_)
          · repeat (first | refine r_op rfl rfl rfl rfl ?_ | refine r_skip rfl rfl rfl ?_ | refine .done ?_ | refine r_seq (T := TT) ?_ | refine r_region (T := TT) rfl ?_ | refine r_block (T := TT) ?_ | refine r_then (T := TT) rfl ?_ | refine r_else (T := TT) rfl ?_)
            have hne : xs[j] ≠ ys[j] := fun e => by rw [e] at h2; simp at h2
            rw [sameB_ne (fun e => hne (by subst e; rfl))]
            exact r_fin (T := TT) rfl rfl
          · have heq : xs[j] = ys[j] := by simp at h2; omega
            repeat (first | refine r_op rfl rfl rfl rfl ?_ | refine r_skip rfl rfl rfl ?_ | refine .done ?_ | refine r_seq (T := TT) ?_ | refine r_region (T := TT) rfl ?_ | refine r_block (T := TT) ?_ | refine r_then (T := TT) rfl ?_ | refine r_else (T := TT) rfl ?_)
            refine ⟨j + 1, ⟨hlt, fun i hi => ?_⟩, by omega, weak ⟨rfl, rfl, ?_, trivial⟩ ⟨rfl, rfl, trivial⟩ rfl⟩
            · rcases Nat.lt_succ_iff_lt_or_eq.1 hi with h3 | rfl
              · exact hall i h3
              · rw [List.getElem?_eq_getElem hlt, List.getElem?_eq_getElem hlt', heq]
            · exact tv_i64 (by omega) (by omega)
        · have hge : j = xs.length := by have := of_decide_eq_false h; omega
          refine r_exit ?_
          repeat (first | refine r_op rfl rfl rfl rfl ?_ | refine r_skip rfl rfl rfl ?_ | refine .done ?_ | refine r_seq (T := TT) ?_ | refine r_region (T := TT) rfl ?_ | refine r_block (T := TT) ?_ | refine r_then (T := TT) rfl ?_ | refine r_else (T := TT) rfl ?_)
          have he : xs = ys := by
            apply List.ext_getElem? fun i => ?_
            by_cases hi : i < xs.length
            · exact hall i (by omega)
            · rw [List.getElem?_eq_none (by omega), List.getElem?_eq_none (by omega)]
          rw [sameB_eq he]
          exact r_fin (T := TT) rfl rfl
      · refine callOK_of TT_ok mixT Tryz.func67 rfl rfl (Nat.le_of_ble_eq_true rfl) ?_
        repeat refine r_seq (T := TT) ?_
        refine r_region (T := TT) rfl ?_
        repeat (first | refine r_op rfl rfl rfl rfl ?_ | refine r_skip rfl rfl rfl ?_)
        try refine .done ?_
        repeat refine r_seq (T := TT) ?_
        refine r_region (T := TT) rfl ?_
        iterate 12 (first | refine r_op rfl rfl rfl rfl ?_ | refine r_skip rfl rfl rfl ?_)
        refine r_eq (v' := .bool false) rfl rfl rfl rfl ?_ ?_
        · exact congrArg Value.bool ((by simp [hxy]))
        repeat (first | refine r_op rfl rfl rfl rfl ?_ | refine r_skip rfl rfl rfl ?_ | refine .done ?_ | refine r_seq (T := TT) ?_ | refine r_region (T := TT) rfl ?_ | refine r_block (T := TT) ?_ | refine r_then (T := TT) rfl ?_ | refine r_else (T := TT) rfl ?_)
        refine r_loop Nat (fun j => j ≤ xs.length ∧ ∀ i, i < j → xs[i]? = ys[i]?) (fun j => ⟨[(2, .box 0 0), (3, .box 1 0), (5, .d (dN .i64 j))], [(0, some (aI true xs)), (1, some (aI true ys))]⟩) (fun j => xs.length - j) 0 ⟨Nat.zero_le _, fun i h => absurd h (Nat.not_lt_zero _)⟩ (weak ⟨rfl, rfl, rfl, trivial⟩ ⟨rfl, rfl, trivial⟩ rfl) ?_
        rintro j ⟨hj, hall⟩
        repeat (first | refine r_op rfl rfl rfl rfl ?_ | refine r_skip rfl rfl rfl ?_ | refine .done ?_ | refine r_seq (T := TT) ?_ | refine r_region (T := TT) rfl ?_ | refine r_block (T := TT) ?_ | refine r_then (T := TT) rfl ?_ | refine r_else (T := TT) rfl ?_)
        refine r_cond rfl (fun h => ?_) (fun h => ?_)
        · have hlt : j < xs.length := by have := of_decide_eq_true h; omega
          have hlt' : j < ys.length := by omega
          repeat (first | refine r_op rfl rfl rfl rfl ?_ | refine r_skip rfl rfl rfl ?_ | refine .done ?_ | refine r_seq (T := TT) ?_ | refine r_region (T := TT) rfl ?_ | refine r_block (T := TT) ?_ | refine r_then (T := TT) rfl ?_ | refine r_else (T := TT) rfl ?_)
          refine r_idx (cs' := [AV.val (W32 xs[j])]) hlt (aW_at (by simp [hlt])) (Nat.lt_succ_self 0) rfl rfl rfl rfl rfl rfl rfl rfl ?_
          repeat (first | refine r_op rfl rfl rfl rfl ?_ | refine r_skip rfl rfl rfl ?_ | refine .done ?_ | refine r_seq (T := TT) ?_ | refine r_region (T := TT) rfl ?_ | refine r_block (T := TT) ?_ | refine r_then (T := TT) rfl ?_ | refine r_else (T := TT) rfl ?_)
          refine r_idx (cs' := [AV.val (W32 ys[j])]) hlt' (aW_at (by simp [hlt'])) (Nat.lt_succ_self 0) rfl rfl rfl rfl rfl rfl rfl rfl ?_
          repeat (first | refine r_op rfl rfl rfl rfl ?_ | refine r_skip rfl rfl rfl ?_ | refine .done ?_ | refine r_seq (T := TT) ?_ | refine r_region (T := TT) rfl ?_ | refine r_block (T := TT) ?_ | refine r_then (T := TT) rfl ?_ | refine r_else (T := TT) rfl ?_)
          refine r_cond rfl (fun h2 => ?_) (fun h2 => ?_)
          · repeat (first | refine r_op rfl rfl rfl rfl ?_ | refine r_skip rfl rfl rfl ?_ | refine .done ?_ | refine r_seq (T := TT) ?_ | refine r_region (T := TT) rfl ?_ | refine r_block (T := TT) ?_ | refine r_then (T := TT) rfl ?_ | refine r_else (T := TT) rfl ?_)
            have hne : xs[j] ≠ ys[j] := fun e => by rw [e] at h2; simp at h2
            rw [sameB_ne (fun e => hne (by subst e; rfl))]
            exact r_fin (T := TT) rfl rfl
          · have heq : xs[j] = ys[j] := by simp at h2; omega
            repeat (first | refine r_op rfl rfl rfl rfl ?_ | refine r_skip rfl rfl rfl ?_ | refine .done ?_ | refine r_seq (T := TT) ?_ | refine r_region (T := TT) rfl ?_ | refine r_block (T := TT) ?_ | refine r_then (T := TT) rfl ?_ | refine r_else (T := TT) rfl ?_)
            refine ⟨j + 1, ⟨hlt, fun i hi => ?_⟩, by omega, weak ⟨rfl, rfl, ?_, trivial⟩ ⟨rfl, rfl, trivial⟩ rfl⟩
            · rcases Nat.lt_succ_iff_lt_or_eq.1 hi with h3 | rfl
              · exact hall i h3
              · rw [List.getElem?_eq_getElem hlt, List.getElem?_eq_getElem hlt', heq]
            · exact tv_i64 (by omega) (by omega)
        · have hge : j = xs.length := by have := of_decide_eq_false h; omega
          refine r_exit ?_
          repeat (first | refine r_op rfl rfl rfl rfl ?_ | refine r_skip rfl rfl rfl ?_ | refine .done ?_ | refine r_seq (T := TT) ?_ | refine r_region (T := TT) rfl ?_ | refine r_block (T := TT) ?_ | refine r_then (T := TT) rfl ?_ | refine r_else (T := TT) rfl ?_)
          have he : xs = ys := by
            apply List.ext_getElem? fun i => ?_
            by_cases hi : i < xs.length
            · exact hall i (by omega)
            · rw [List.getElem?_eq_none (by omega), List.getElem?_eq_none (by omega)]
          rw [sameB_eq he]
          exact r_fin (T := TT) rfl rfl
    · rw [sameB_ne (fun e => hxy (by rw [e]))]
      cases na
      · refine callOK_of TT_ok mixT Tryz.func67 rfl rfl (Nat.le_of_ble_eq_true rfl) ?_
        repeat refine r_seq (T := TT) ?_
        refine r_region (T := TT) rfl ?_
        repeat (first | refine r_op rfl rfl rfl rfl ?_ | refine r_skip rfl rfl rfl ?_)
        try refine .done ?_
        repeat refine r_seq (T := TT) ?_
        refine r_region (T := TT) rfl ?_
        iterate 12 (first | refine r_op rfl rfl rfl rfl ?_ | refine r_skip rfl rfl rfl ?_)
        refine r_eq (v' := .bool true) rfl rfl rfl rfl ?_ ?_
        · exact congrArg Value.bool ((by simp; omega))
        repeat (first | refine r_op rfl rfl rfl rfl ?_ | refine r_skip rfl rfl rfl ?_ | refine .done ?_ | refine r_seq (T := TT) ?_ | refine r_region (T := TT) rfl ?_ | refine r_block (T := TT) ?_ | refine r_then (T := TT) rfl ?_ | refine r_else (T := TT) rfl ?_)
        exact r_fin (T := TT) rfl rfl
      · refine callOK_of TT_ok mixT Tryz.func67 rfl rfl (Nat.le_of_ble_eq_true rfl) ?_
        repeat refine r_seq (T := TT) ?_
        refine r_region (T := TT) rfl ?_
        repeat (first | refine r_op rfl rfl rfl rfl ?_ | refine r_skip rfl rfl rfl ?_)
        try refine .done ?_
        repeat refine r_seq (T := TT) ?_
        refine r_region (T := TT) rfl ?_
        iterate 12 (first | refine r_op rfl rfl rfl rfl ?_ | refine r_skip rfl rfl rfl ?_)
        refine r_eq (v' := .bool true) rfl rfl rfl rfl ?_ ?_
        · exact congrArg Value.bool ((by simp; omega))
        repeat (first | refine r_op rfl rfl rfl rfl ?_ | refine r_skip rfl rfl rfl ?_ | refine .done ?_ | refine r_seq (T := TT) ?_ | refine r_region (T := TT) rfl ?_ | refine r_block (T := TT) ?_ | refine r_then (T := TT) rfl ?_ | refine r_else (T := TT) rfl ?_)
        exact r_fin (T := TT) rfl rfl
  · have e : sameB na nb xs ys = false := by unfold sameB; cases na <;> cases nb <;> first | rfl | exact absurd rfl hn
    rw [e]
    cases na <;> cases nb
    · exact absurd rfl hn
    · refine callOK_of TT_ok mixT Tryz.func67 rfl rfl (Nat.le_of_ble_eq_true rfl) ?_
      repeat (first | refine r_op rfl rfl rfl rfl ?_ | refine r_skip rfl rfl rfl ?_ | refine .done ?_ | refine r_seq (T := TT) ?_ | refine r_region (T := TT) rfl ?_ | refine r_block (T := TT) ?_ | refine r_then (T := TT) rfl ?_ | refine r_else (T := TT) rfl ?_)
      exact r_fin (T := TT) rfl rfl
    · refine callOK_of TT_ok mixT Tryz.func67 rfl rfl (Nat.le_of_ble_eq_true rfl) ?_
      repeat (first | refine r_op rfl rfl rfl rfl ?_ | refine r_skip rfl rfl rfl ?_ | refine .done ?_ | refine r_seq (T := TT) ?_ | refine r_region (T := TT) rfl ?_ | refine r_block (T := TT) ?_ | refine r_then (T := TT) rfl ?_ | refine r_else (T := TT) rfl ?_)
      exact r_fin (T := TT) rfl rfl
    · exact absurd rfl hn
theorem okz_r2_SameInt {a b : Int} (h : FitZ a) {t : Bool} (ht : decide (a = b) = t) : CallOK Tryz.prog 67 [dZ a, dZ b] (.one (dB t)) := ok_r2_SameInt h (by rw [sameB_int, ht])
theorem rat_ext_iff {a b : Rat} : decide (a = b) = (decide (a.num = b.num) && decide ((a.den : Int) = (b.den : Int))) := by
  by_cases h : a = b
  · subst h; simp
  · rw [decide_eq_false h]
    by_cases h1 : a.num = b.num
    · have : ¬ (a.den : Int) = b.den := fun e => h (Rat.ext h1 (by omega))
      simp [h1]; omega
    · simp [h1]
theorem ok_r2_Same {k : Nat} {a b : Rat} (h : SzQ k a) (hk : k ≤ 2147483648) {t : Bool} (ht : decide (a = b) = t) : CallOK Tryz.prog 38 [dQ a, dQ b] (.one (dB t)) := by
  rw [rat_ext_iff] at ht
  subst ht
  by_cases h1 : a.num = b.num
  · rw [decide_eq_true h1, Bool.true_and]
    refine callOK_of TT_ok mixT Tryz.func38 rfl rfl (Nat.le_of_ble_eq_true rfl) ?_
    repeat (first | refine r_op rfl rfl rfl rfl ?_ | refine r_skip rfl rfl rfl ?_ | refine .done ?_ | refine r_seq (T := TT) ?_ | refine r_region (T := TT) rfl ?_ | refine r_block (T := TT) ?_ | refine r_then (T := TT) rfl ?_ | refine r_else (T := TT) rfl ?_)
    refine r_call (okz_r2_SameInt (h.1.fit hk) (decide_eq_true h1)) rfl rfl rfl rfl rfl rfl rfl ?_
    repeat (first | refine r_op rfl rfl rfl rfl ?_ | refine r_skip rfl rfl rfl ?_ | refine .done ?_ | refine r_seq (T := TT) ?_ | refine r_region (T := TT) rfl ?_ | refine r_block (T := TT) ?_ | refine r_then (T := TT) rfl ?_ | refine r_else (T := TT) rfl ?_)
    refine r_call (okz_r2_SameInt (h.2.fit hk) rfl) rfl rfl rfl rfl rfl rfl rfl ?_
    repeat (first | refine r_op rfl rfl rfl rfl ?_ | refine r_skip rfl rfl rfl ?_ | refine .done ?_ | refine r_seq (T := TT) ?_ | refine r_region (T := TT) rfl ?_ | refine r_block (T := TT) ?_ | refine r_then (T := TT) rfl ?_ | refine r_else (T := TT) rfl ?_)
    exact r_fin (T := TT) rfl rfl
  · rw [decide_eq_false h1, Bool.false_and]
    refine callOK_of TT_ok mixT Tryz.func38 rfl rfl (Nat.le_of_ble_eq_true rfl) ?_
    repeat (first | refine r_op rfl rfl rfl rfl ?_ | refine r_skip rfl rfl rfl ?_ | refine .done ?_ | refine r_seq (T := TT) ?_ | refine r_region (T := TT) rfl ?_ | refine r_block (T := TT) ?_ | refine r_then (T := TT) rfl ?_ | refine r_else (T := TT) rfl ?_)
    refine r_call (okz_r2_SameInt (h.1.fit hk) (decide_eq_false h1)) rfl rfl rfl rfl rfl rfl rfl ?_
    repeat (first | refine r_op rfl rfl rfl rfl ?_ | refine r_skip rfl rfl rfl ?_ | refine .done ?_ | refine r_seq (T := TT) ?_ | refine r_region (T := TT) rfl ?_ | refine r_block (T := TT) ?_ | refine r_then (T := TT) rfl ?_ | refine r_else (T := TT) rfl ?_)
    exact r_fin (T := TT) rfl rfl
theorem fmt_len {z : Int} {k : Nat} (h : Sz k z) : (fmt z).length ≤ 10 * k + 2 := by
  have h1 : (dec z.natAbs).length ≤ 10 * k := dec_len _ _ (Nat.lt_of_lt_of_le h (by rw [Nat.pow_mul]; exact Nat.pow_le_pow_left (by decide) _))
  unfold fmt
  split
  · simp
  · rw [List.length_append]
    have : (if z < 0 then [45] else [] : List UInt8).length ≤ 1 := by split <;> simp
    omega
theorem fmtQ_len {q : Rat} {k : Nat} (h : SzQ k q) : (fmtQ q).length ≤ 20 * k + 5 := by
  have h1 := fmt_len h.1
  have h2 := fmt_len h.2
  unfold fmtQ
  split
  · omega
  · rw [List.length_append, List.length_cons]; omega
theorem fmtQ_cat {q : Rat} (h : ¬ q.den = 1) : fmtQ q = (fmt q.num ++ [47]) ++ fmt q.den := by
  unfold fmtQ; rw [if_neg h, List.append_assoc]; rfl
theorem ok_q_Format {k : Nat} {q : Rat} (h : SzQ k q) (hk : k ≤ 1000) {l : List UInt8} (hl : fmtQ q = l) : CallOK Tryz.prog 60 [dQ q] (.one (dL l)) := by
  subst hl
  have h1 := fmt_len h.1
  have h2 := fmt_len h.2
  by_cases hd : q.den = 1
  · have e : fmtQ q = fmt q.num := by unfold fmtQ; rw [if_pos hd]
    rw [e]
    refine callOK_of TT_ok mixT Tryz.func60 rfl rfl (Nat.le_of_ble_eq_true rfl) ?_
    repeat (first | refine r_op rfl rfl rfl rfl ?_ | refine r_skip rfl rfl rfl ?_ | refine .done ?_ | refine r_seq (T := TT) ?_ | refine r_region (T := TT) rfl ?_ | refine r_block (T := TT) ?_ | refine r_then (T := TT) rfl ?_ | refine r_else (T := TT) rfl ?_)
    refine r_call (okz_i_Format (Nat.le_trans h.1.digs hk)) rfl rfl rfl rfl rfl rfl rfl ?_
    repeat (first | refine r_op rfl rfl rfl rfl ?_ | refine r_skip rfl rfl rfl ?_ | refine .done ?_ | refine r_seq (T := TT) ?_ | refine r_region (T := TT) rfl ?_ | refine r_block (T := TT) ?_ | refine r_then (T := TT) rfl ?_ | refine r_else (T := TT) rfl ?_)
    refine r_call (okz_q_isOne (one_t hd)) rfl rfl rfl rfl rfl rfl rfl ?_
    repeat (first | refine r_op rfl rfl rfl rfl ?_ | refine r_skip rfl rfl rfl ?_ | refine .done ?_ | refine r_seq (T := TT) ?_ | refine r_region (T := TT) rfl ?_ | refine r_block (T := TT) ?_ | refine r_then (T := TT) rfl ?_ | refine r_else (T := TT) rfl ?_)
    exact r_fin (T := TT) rfl rfl
  · rw [fmtQ_cat hd]
    refine callOK_of TT_ok mixT Tryz.func60 rfl rfl (Nat.le_of_ble_eq_true rfl) ?_
    repeat (first | refine r_op rfl rfl rfl rfl ?_ | refine r_skip rfl rfl rfl ?_ | refine .done ?_ | refine r_seq (T := TT) ?_ | refine r_region (T := TT) rfl ?_ | refine r_block (T := TT) ?_ | refine r_then (T := TT) rfl ?_ | refine r_else (T := TT) rfl ?_)
    refine r_call (okz_i_Format (Nat.le_trans h.1.digs hk)) rfl rfl rfl rfl rfl rfl rfl ?_
    repeat (first | refine r_op rfl rfl rfl rfl ?_ | refine r_skip rfl rfl rfl ?_ | refine .done ?_ | refine r_seq (T := TT) ?_ | refine r_region (T := TT) rfl ?_ | refine r_block (T := TT) ?_ | refine r_then (T := TT) rfl ?_ | refine r_else (T := TT) rfl ?_)
    refine r_call (okz_q_isOne (one_f hd)) rfl rfl rfl rfl rfl rfl rfl ?_
    repeat (first | refine r_op rfl rfl rfl rfl ?_ | refine r_skip rfl rfl rfl ?_ | refine .done ?_ | refine r_seq (T := TT) ?_ | refine r_region (T := TT) rfl ?_ | refine r_block (T := TT) ?_ | refine r_then (T := TT) rfl ?_ | refine r_else (T := TT) rfl ?_)
    refine r_bin rfl rfl rfl rfl rfl rfl rfl (binV_cat (a := fmt q.num) (b := [47]) (by simp; omega)) ?_
    repeat (first | refine r_op rfl rfl rfl rfl ?_ | refine r_skip rfl rfl rfl ?_ | refine .done ?_ | refine r_seq (T := TT) ?_ | refine r_region (T := TT) rfl ?_ | refine r_block (T := TT) ?_ | refine r_then (T := TT) rfl ?_ | refine r_else (T := TT) rfl ?_)
    refine r_call (okz_i_Format (Nat.le_trans h.2.digs hk)) rfl rfl rfl rfl rfl rfl rfl ?_
    refine r_bin rfl rfl rfl rfl rfl rfl rfl (binV_cat (a := fmt q.num ++ [47]) (b := fmt q.den) (by simp; omega)) ?_
    repeat (first | refine r_op rfl rfl rfl rfl ?_ | refine r_skip rfl rfl rfl ?_ | refine .done ?_ | refine r_seq (T := TT) ?_ | refine r_region (T := TT) rfl ?_ | refine r_block (T := TT) ?_ | refine r_then (T := TT) rfl ?_ | refine r_else (T := TT) rfl ?_)
    exact r_fin (T := TT) rfl rfl
end Go.Proofs.YtmpadildchphgaaGreatDoor
namespace Go.Proofs.YtmpadildchphgaaGreatDoor
open Go.RowKit
end Go.Proofs.YtmpadildchphgaaGreatDoor
namespace Go.Proofs.YtmpadildchphgaaGreatDoor
open Go.RowKit
end Go.Proofs.YtmpadildchphgaaGreatDoor
namespace Go.Proofs.YtmpadildchphgaaGreatDoor
open Go.RowKit
inductive RT where
  | v (r : RV)
  | own (j n k e : Nat)
def RT.tv : RT → TV
  | .v r => r.tv
  | .own j n k e => .own j n k e
abbrev BL := List (Nat × List AV)
def bAll : BL → List (Nat × Option (List AV))
  | [] => []
  | (j, cs) :: r => (j, some cs) :: bAll r
def sB (b : BL) : AS := ⟨[], bAll b⟩
def argV : Nat → List TV → List (Nat × TV)
  | _, [] => []
  | k, d :: r => (k, d) :: argV (k + 1) r
def TVs (S : Nat → Prop) (g : Nat → Nat) (s : AS) (w : World) : List TV → List Value → Prop
  | [], [] => True
  | x :: xs, v :: vs => TV.M S g s w x v ∧ TVs S g s w xs vs
  | _, _ => False
section
variable {n : Nat} {S0 : Nat → Prop} {w0 : Base} {g : Nat → Nat} {s : AS} {a : Act} {w w' : World}
theorem sB_bx {b : BL} {j : Nat} {cs : List AV} : (sB b).bx j = some cs ↔ look (bAll b) j = some (some cs) := by
  unfold sB AS.bx
  constructor
  · intro h; split at h
    · rename_i x hx; cases h; exact hx
    · cases h
  · intro h; simp only [h]
theorem TV.M.sub {S : Nat → Prop} {s s' : AS} {x : TV} {v : Value} (h : TV.M S g s w x v) (hk : ∀ j ∈ tvBox x, s'.kn j) (hb : ∀ j cs, s'.bx j = some cs → s.bx j = some cs) : TV.M S g s' w x v := by
  cases x with
  | d x => exact h
  | tup ts => exact h
  | box j o => exact ⟨hk j (by simp [tvBox]), fun cs hc => h.2 cs (hb j cs hc)⟩
  | rp cs => exact h
  | own j n k e0 => exact ⟨hk j (by simp [tvBox]), fun cs hc => h.2 cs (hb j cs hc)⟩
  | clo fn fs cs => obtain ⟨us, vs, e, h1, h2⟩ := h; exact ⟨us, vs, e, h1.weak hb (fun j hj => hk j (by simp [tvBox, hj])), h2.weak hb (fun j hj => hk j (by simp [tvBox, hj]))⟩
  | mp es => exact h
  | nil => exact h
  | und => exact h
  | junk => trivial
end
section
variable {P : Program} {T : TypeId → Option Ty} {n : Nat} {S0 : Nat → Prop} {w0 : Base}
theorem TVs.length {S : Nat → Prop} {g : Nat → Nat} {s : AS} {w : World} : ∀ {ts : List TV} {vs : List Value}, TVs S g s w ts vs → ts.length = vs.length
  | [], [], _ => rfl
  | _ :: ts, _ :: vs, h => by simp [TVs.length h.2]
  | [], _ :: _, h => h.elim
  | _ :: _, [], h => h.elim
theorem TVs.at {S : Nat → Prop} {g : Nat → Nat} {s : AS} {w : World} : ∀ {ts : List TV} {vs : List Value}, TVs S g s w ts vs → ∀ (k i : Nat), TV.M S g s w (match look (argV k ts) i with | some v => v | none => .junk) (if i < k then undef else vs.getD (i - k) undef)
  | [], [], _, k, i => trivial
  | d :: ds, v :: vs, h, k, i => by
    simp only [argV]
    by_cases e : k = i
    · subst e
      rw [look_same]
      simp only [Nat.lt_irrefl, if_false, Nat.sub_self]
      exact h.1
    · rw [look_ne _ _ e]
      have := TVs.at h.2 (k + 1) i
      by_cases h1 : i < k
      · rw [if_pos (by omega)] at this; rw [if_pos h1]; exact this
      · rw [if_neg (by omega)] at this
        rw [if_neg h1]
        have e2 : i - k = (i - (k + 1)) + 1 := by omega
        rw [e2]
        simpa using this
  | [], _ :: _, h, _, _ => h.elim
  | _ :: _, [], h, _, _ => h.elim
def LenOK (b b' : BL) : Prop := ∀ j cs cs', (sB b).bx j = some cs → (sB b').bx j = some cs' → cs.length ≤ cs'.length
theorem LenOK.refl (b : BL) : LenOK b b := fun j cs cs' h h' => by rw [h] at h'; cases h'; exact Nat.le_refl _
theorem LenOK.nil (b : BL) : LenOK [] b := fun j cs cs' h => by cases h
theorem LenOK.one {j : Nat} {cs cs' : List AV} (h : cs.length ≤ cs'.length) : LenOK [(j, cs)] [(j, cs')] := fun i c c' h1 h2 => by
  have h1 := sB_bx.1 h1
  have h2 := sB_bx.1 h2
  simp only [bAll] at h1 h2
  by_cases e : j = i
  · subst e; rw [look_same] at h1 h2; cases h1; cases h2; exact h
  · rw [look_ne _ _ e] at h1; cases h1
variable {ops : Array Oper} {id : Nat} {draw : Bool} {K : AS → Prop} {s : AS} {k : Nat} {o : Oper} {os : List Oper} {fps : List FP}
end
end Go.Proofs.YtmpadildchphgaaGreatDoor
namespace Go.Proofs.YtmpadildchphgaaGreatDoor
open Go.RowKit
section
variable {P : Program} {T : TypeId → Option Ty} {n : Nat}
theorem AOps.mono {ops : Array Oper} {id : Nat} {draw : Bool} {K K' : AS → Prop} (hK : ∀ s, K s → K' s) {k : Nat} {os : List Oper} {s : AS} {fps : List FP} (h : AOps P T n ops id draw K k os s fps) : AOps P T n ops id draw K' k os s fps := by
  induction h with
  | done h => exact .done (hK _ h)
  | run h1 h2 h3 h4 _ ih => exact .run h1 h2 h3 h4 ih
  | skip h1 h2 h3 _ ih => exact .skip h1 h2 h3 ih
  | app h0 h1 h2 h3 h4 h5 h6 h7 h8 h9 h10 h11 h12 h13 h14 h15 _ ih => exact .app h0 h1 h2 h3 h4 h5 h6 h7 h8 h9 h10 h11 h12 h13 h14 h15 ih
  | snd h0 h1 h2 _ ih => exact .snd h0 h1 h2 ih
theorem awp_mono : ∀ (c : Code) {Q Q' : AX → AS → Prop} {s : AS}, (∀ e s, Q e s → Q' e s) → AWp P T n c Q s → AWp P T n c Q' s := by
  intro c
  induction c with
  | skip => intro Q Q' s hQ h; exact hQ _ _ h
  | label l => intro Q Q' s hQ h; exact hQ _ _ h
  | region id ops draw => intro Q Q' s hQ ⟨s1, hw, h1, h2⟩; exact ⟨s1, hw, h1, h2.mono (fun s h => hQ _ s h)⟩
  | seq x y ihx ihy =>
    intro Q Q' s hQ h
    refine ihx (fun e s h => ?_) h
    cases e with
    | normal => exact ihy hQ h
    | exit i => exact hQ _ _ h
    | ret => exact hQ _ _ h
  | cond c x y ihx ihy => intro Q Q' s hQ ⟨t, hc, h1, h2⟩; exact ⟨t, hc, fun ht => ihx hQ (h1 ht), fun ht => ihy hQ (h2 ht)⟩
  | block id x ih =>
    intro Q Q' s hQ h
    refine ih (fun e s h => ?_) h
    cases e with
    | normal => exact hQ _ _ h
    | exit i =>
      unfold blockQ at h ⊢
      cases hb : Nat.beq i id
      · simp only [hb] at h ⊢; exact hQ _ _ h
      · simp only [hb] at h ⊢; exact hQ _ _ h
    | ret => exact hQ _ _ h
  | loop x ih =>
    intro Q Q' s hQ ⟨α, I, σ, μ, h0, hr⟩
    refine ⟨α, I, σ, μ, h0, fun y hy => ih (fun e s h => ?_) (hr y hy)⟩
    cases e with
    | normal => exact h
    | exit i => exact hQ _ _ h
    | ret => exact hQ _ _ h
  | scope x ih => intro Q Q' s hQ h; exact ih hQ h
  | exit id => intro Q Q' s hQ h; exact hQ _ _ h
  | ret => intro Q Q' s hQ h; exact hQ _ _ h
  | goto l => intro Q Q' s _ h; exact h
  | rangeFunc => intro Q Q' s _ h; exact h
  | refuse => intro Q Q' s _ h; exact h
def UL (P : Program) (T : TypeId → Option Ty) (n : Nat) (x : Code) (Q : AX → AS → Prop) : Nat → AS → Prop
  | 0, _ => False
  | k + 1, s => ∃ s1, Weak s s1 ∧ AWp P T n x (seqQ (UL P T n x Q k) Q) s1
theorem r_unroll {x : Code} {Q : AX → AS → Prop} {s : AS} (k : Nat) (h : UL P T n x Q k s) : AWp P T n (.loop x) Q s := by
  cases k with
  | zero => exact h.elim
  | succ k =>
    obtain ⟨s1, hw, h⟩ := h
    refine ⟨Nat × AS, fun y => AWp P T n x (seqQ (UL P T n x Q y.1) Q) y.2, fun y => y.2, fun y => y.1, ⟨(k, s1), h, hw⟩, fun y hy => ?_⟩
    refine awp_mono x (fun e s h => ?_) hy
    cases e with
    | normal =>
      have h : UL P T n x Q y.1 s := h
      cases hk : y.1 with
      | zero => rw [hk] at h; exact h.elim
      | succ j =>
        rw [hk] at h
        obtain ⟨s2, hw2, h2⟩ := h
        exact ⟨(j, s2), h2, by dsimp only; omega, hw2⟩
    | exit i => exact h
    | ret => exact h
theorem r_round {x : Code} {Q : AX → AS → Prop} {s : AS} {k : Nat} (s1 : AS) (hw : Weak s s1) (h : AWp P T n x (seqQ (UL P T n x Q k) Q) s1) : UL P T n x Q (k + 1) s := ⟨s1, hw, h⟩
variable {ops : Array Oper} {id : Nat} {draw : Bool} {K : AS → Prop} {s : AS} {k : Nat} {o : Oper} {os : List Oper} {fps : List FP}
theorem r_appC (j' : Nat) {d : Nat} {x y : Operand} {t et q m1 m2 : Nat} {ty te : Ty} {dead : Option Nat} {cs xs : List AV} (hT : ∀ t d, T t = some d → TyOK P t d) (hm : 0 < m2) (hb : (m1 + m2) * te.bytes ≤ 140737488355328) (hxs : xs.length = m2 * q) (h0 : draw = false) (h1 : gd ops s o = some true) (ho : o.op = .call ⟨.builtin .append, #[x, y], #[t, t]⟩) (hd : o.dst = some d) (h3 : dstOK n o.dst = true) (ht : T t = some ty) (hel : ty.elem = some (et, q)) (hte : T et = some te) (hq : te.size = q) (hq0 : (Nat.ble 1 q && Nat.ble 1 te.bytes) = true)
    (hbase : BaseOK s x m1 q et dead cs) (hy : s.ev y = .d (.leaf (.sl m2 xs))) (hnew : newB s j' = true) (hcl : (allB te.zero && allB xs && deadOK dead) = true)
    (h : AOps P T n ops id draw K (k + 1) os ⟨(d, .own j' (m1 + m2) q et) :: s.t, (j', some (cs.take (m1 * q) ++ xs)) :: deadB dead s.b⟩ (fpOf ops o ⟨.junk, none⟩ [] :: fps)) : AOps P T n ops id draw K k (o :: os) s fps := by
  refine .snd h0 h1 (fun S0 w0 g a w K' Q hM hK => ?_) h
  rw [Bool.and_eq_true] at hq0
  have h63 : m1 + m2 ≤ 9223372036854775807 := by
    have := Nat.le_mul_of_pos_right (m1 + m2) (Nat.le_of_ble_eq_true hq0.2)
    omega
  exact sound_append (hT _ _ ht) (hT _ _ hte) ho hd hel hq (Nat.le_of_ble_eq_true hq0.1) hbase hy hxs hm hb h63 (newB_none hnew) (newB_lb hnew) (.inr hcl) hM (dstOK_lt h3 d hd) hK
def deadL : Option Nat → List Nat
  | some j => [j]
  | none => []
theorem r_appD (j' : Nat) {d : Nat} {x y : Operand} {t et q m1 m2 : Nat} {ty te : Ty} {dead : Option Nat} {cs xs : List AV} (hT : ∀ t d, T t = some d → TyOK P t d) (hm : 0 < m2) (hb : (m1 + m2) * te.bytes ≤ 140737488355328) (hxs : xs.length = m2 * q) (h1 : gd ops s o = some true) (ho : o.op = .call ⟨.builtin .append, #[x, y], #[t, t]⟩) (hd : o.dst = some d) (h3 : dstOK n o.dst = true) (ht : T t = some ty) (hel : ty.elem = some (et, q)) (hte : T et = some te) (hq : te.size = q) (hq0 : (Nat.ble 1 q && Nat.ble 1 te.bytes) = true)
    (hbase : BaseOK s x m1 q et dead cs) (hy : s.ev y = .d (.leaf (.sl m2 xs))) (hnew : newB s j' = true) (hcl : (allB te.zero && allB xs && deadOK dead) = true)
    (h4 : chk draw ops (fpOf ops o ⟨.own j' (m1 + m2) q et, some ((j', some (cs.take (m1 * q) ++ xs)) :: deadB dead [])⟩ (j' :: deadL dead)) k fps = true)
    (h : AOps P T n ops id draw K (k + 1) os (s.eff o.dst ⟨.own j' (m1 + m2) q et, some ((j', some (cs.take (m1 * q) ++ xs)) :: deadB dead [])⟩) (fpOf ops o ⟨.own j' (m1 + m2) q et, some ((j', some (cs.take (m1 * q) ++ xs)) :: deadB dead [])⟩ (j' :: deadL dead) :: fps)) : AOps P T n ops id draw K k (o :: os) s fps := by
  rw [Bool.and_eq_true] at hq0
  have h63 : m1 + m2 ≤ 9223372036854775807 := by
    have := Nat.le_mul_of_pos_right (m1 + m2) (Nat.le_of_ble_eq_true hq0.2)
    omega
  refine .run h1 (.gen fun s2 ht2 hrb => ?_) h3 h4 h
  have hx2 : s2.ev x = s.ev x := rt_op ht2 (by rw [ho]; simp [Op.operands, Call.operands])
  have hy2 : s2.ev y = s.ev y := rt_op ht2 (by rw [ho]; simp [Op.operands, Call.operands])
  have hbase2 : BaseOK s2 x m1 q et dead cs := by
    cases hbase with
    | nil a b => exact .nil (hx2.trans a) b
    | own a b => exact .own (hx2.trans a) ((bx_congr (hrb _ (by simp [deadL]))).trans b)
  have hnew2 : newB s2 j' = true := (newB_congr (hrb j' (by simp))).trans hnew
  intro n S0 w0 g a w K Q hM hdn hK
  refine sound_append (hT _ _ ht) (hT _ _ hte) ho hd hel hq (Nat.le_of_ble_eq_true hq0.1) hbase2 (hy2.trans hy) hxs hm hb h63 (newB_none hnew2) (newB_lb hnew2) (.inr hcl) hM (hdn d hd) fun g' a' w' hM' => hK g' a' w' ?_
  rw [hd]
  cases dead <;> exact hM'
theorem r_alloc (j' : Nat) {t : TypeId} {ty : Ty} {d : Nat} (hT : ∀ t d, T t = some d → TyOK P t d) (h1 : gd ops s o = some true) (ho : o.op = .alloc t) (hd : o.dst = some d) (ht : T t = some ty) (hj : look s.b j' = none) (hrv : resv j' = false) (htb : isTB j' = false) (hB : allB ty.zero = true) (h3 : dstOK n o.dst = true)
    (h4 : chk draw ops (fpOf ops o ⟨.box j' 0, some [(j', some ty.zero)]⟩ [j']) k fps = true) (h : AOps P T n ops id draw K (k + 1) os (s.eff o.dst ⟨.box j' 0, some [(j', some ty.zero)]⟩) (fpOf ops o ⟨.box j' 0, some [(j', some ty.zero)]⟩ [j'] :: fps)) : AOps P T n ops id draw K k (o :: os) s fps :=
  .run h1 (.gen fun _ _ hrb => sound_alloc (hT _ _ ht) ho hd ⟨(hrb j' (by simp)).trans hj, hrv⟩ hB (fun h => by rw [htb] at h; cases h)) h3 h4 h
end
end Go.Proofs.YtmpadildchphgaaGreatDoor
namespace Go.Proofs.YtmpadildchphgaaGreatDoor
open Go.RowKit
def aQt (q : Rat) (p : Int) : List AV := aQ q ++ [.val (.int .i64 p)]
def dQt (q : Rat) (p : Int) : DV := .agg (aQt q p)
def aQt0 : List AV := aQ0 ++ [.val (.int .i64 0)]
def dQt0 : DV := .agg aQt0
def inP (p : Int) : Bool := decide (-4 ≤ p) && decide (p ≤ 4)
theorem sub_at {cs cs' : List AV} {o k : Nat} (h : (cs.drop o).take k = cs') : ∀ (j : Nat) (a : AV), cs'[j]? = some a → cs[o + j]? = some a := by
  intro j a hj
  rw [← h, List.getElem?_take] at hj
  split at hj
  · simpa using hj
  · cases hj
def facL : List (List UInt8 × Rat) := [([99, 109], (10 : Int)), ([102, 116], Rat.divInt 1524 5), ([105, 110], Rat.divInt 127 5), ([109], (1000 : Int)), ([109, 109], (1 : Int))]
def facN (s : List UInt8) : List (List UInt8 × Rat) → Option Rat
  | [] => none
  | (n, q) :: r => if s = n then some q else facN s r
def fac (s : List UInt8) : Option Rat := facN s facL
def unitCells : List AV := [.val (.string ⟨#[99, 109]⟩), .val (.int .i64 10), .val (.int .i64 1), .val (.string ⟨#[102, 116]⟩), .val (.int .i64 1524), .val (.int .i64 5), .val (.string ⟨#[105, 110]⟩), .val (.int .i64 127), .val (.int .i64 5), .val (.string ⟨#[109]⟩), .val (.int .i64 1000), .val (.int .i64 1), .val (.string ⟨#[109, 109]⟩), .val (.int .i64 1), .val (.int .i64 1)]
def facR (s : List UInt8) : RV := match fac s with
  | some q => .tup [dQt q 1, dB true]
  | none => .tup [dQt0, dB false]
theorem divInt_one (n : Int) : Rat.divInt n 1 = (n : Rat) := divInt_num_den (n : Rat)
set_option maxHeartbeats 1000000 in
theorem ok_u_Factor (s : List UInt8) : CallOK Tryz.prog 31 [dL s] (facR s) := by
  refine callOK_of TT_ok mixT Tryz.func31 rfl rfl (Nat.le_of_ble_eq_true rfl) ?_
  repeat (first | refine r_op rfl rfl rfl rfl ?_ | refine r_skip rfl rfl rfl ?_ | refine .done ?_ | refine r_seq (T := TT) ?_ | refine r_region (T := TT) rfl ?_ | refine r_block (T := TT) ?_ | refine r_then (T := TT) rfl ?_ | refine r_else (T := TT) rfl ?_)
  refine r_unroll 6 ?_
  refine r_round ⟨[(0, .d (dL s)), (2, .box 0 0), (3, .d (dB false)), (6, .d (.leaf (.sl 5 unitCells))), (7, .d (dN .i64 5)), (8, .d (dN .i64 0))], [(0, some aQt0)]⟩ (weak ⟨rfl, rfl, rfl, rfl, rfl, rfl, trivial⟩ ⟨rfl, trivial⟩ rfl) ?_
  repeat (first | refine r_op rfl rfl rfl rfl ?_ | refine r_skip rfl rfl rfl ?_ | refine .done ?_ | refine r_seq (T := TT) ?_ | refine r_region (T := TT) rfl ?_ | refine r_block (T := TT) ?_ | refine r_then (T := TT) rfl ?_ | refine r_else (T := TT) rfl ?_)
  refine r_idx (i := 0) (cs' := [.val (vL [99, 109]), .val (.int .i64 10), .val (.int .i64 1)]) (by decide) (sub_at (k := 3) rfl) (by decide) rfl rfl rfl rfl rfl rfl rfl rfl ?_
  repeat (first | refine r_op rfl rfl rfl rfl ?_ | refine r_skip rfl rfl rfl ?_ | refine .done ?_)
  repeat refine r_seq (T := TT) ?_
  refine r_region (T := TT) rfl ?_
  iterate 3 (first | refine r_op rfl rfl rfl rfl ?_ | refine r_skip rfl rfl rfl ?_)
  by_cases h0 : s = [99, 109]
  · refine r_bin rfl rfl rfl rfl rfl rfl rfl (binV_eqT (a := [99, 109]) (b := s) h0.symm) ?_
    repeat (first | refine r_op rfl rfl rfl rfl ?_ | refine r_skip rfl rfl rfl ?_ | refine .done ?_ | refine r_seq (T := TT) ?_ | refine r_region (T := TT) rfl ?_ | refine r_block (T := TT) ?_ | refine r_then (T := TT) rfl ?_ | refine r_else (T := TT) rfl ?_)
    refine r_call (ok_q_Frac 10 1 (by decide) (by decide) (by decide) (by decide) (q := ((10 : Int) : Rat)) (by first | rfl | exact divInt_one _)) rfl rfl rfl rfl rfl rfl rfl ?_
    repeat (first | refine r_op rfl rfl rfl rfl ?_ | refine r_skip rfl rfl rfl ?_ | refine .done ?_ | refine r_seq (T := TT) ?_ | refine r_region (T := TT) rfl ?_ | refine r_block (T := TT) ?_ | refine r_then (T := TT) rfl ?_ | refine r_else (T := TT) rfl ?_)
    have : facR s = .tup [dQt (((10 : Int) : Rat)) 1, dB true] := by subst h0; rfl
    rw [this]
    exact r_fin (T := TT) rfl rfl
  refine r_bin rfl rfl rfl rfl rfl rfl rfl (binV_eqF (a := [99, 109]) (b := s) (fun e => h0 e.symm)) ?_
  repeat (first | refine r_op rfl rfl rfl rfl ?_ | refine r_skip rfl rfl rfl ?_ | refine .done ?_ | refine r_seq (T := TT) ?_ | refine r_region (T := TT) rfl ?_ | refine r_block (T := TT) ?_ | refine r_then (T := TT) rfl ?_ | refine r_else (T := TT) rfl ?_)
  refine r_round ⟨[(0, .d (dL s)), (2, .box 0 0), (3, .d (dB false)), (6, .d (.leaf (.sl 5 unitCells))), (7, .d (dN .i64 5)), (8, .d (dN .i64 1))], [(0, some aQt0)]⟩ (weak ⟨rfl, rfl, rfl, rfl, rfl, rfl, trivial⟩ ⟨rfl, trivial⟩ rfl) ?_
  repeat (first | refine r_op rfl rfl rfl rfl ?_ | refine r_skip rfl rfl rfl ?_ | refine .done ?_ | refine r_seq (T := TT) ?_ | refine r_region (T := TT) rfl ?_ | refine r_block (T := TT) ?_ | refine r_then (T := TT) rfl ?_ | refine r_else (T := TT) rfl ?_)
  refine r_idx (i := 1) (cs' := [.val (vL [102, 116]), .val (.int .i64 1524), .val (.int .i64 5)]) (by decide) (sub_at (k := 3) rfl) (by decide) rfl rfl rfl rfl rfl rfl rfl rfl ?_
  repeat (first | refine r_op rfl rfl rfl rfl ?_ | refine r_skip rfl rfl rfl ?_ | refine .done ?_)
  repeat refine r_seq (T := TT) ?_
  refine r_region (T := TT) rfl ?_
  iterate 3 (first | refine r_op rfl rfl rfl rfl ?_ | refine r_skip rfl rfl rfl ?_)
  by_cases h1 : s = [102, 116]
  · refine r_bin rfl rfl rfl rfl rfl rfl rfl (binV_eqT (a := [102, 116]) (b := s) h1.symm) ?_
    repeat (first | refine r_op rfl rfl rfl rfl ?_ | refine r_skip rfl rfl rfl ?_ | refine .done ?_ | refine r_seq (T := TT) ?_ | refine r_region (T := TT) rfl ?_ | refine r_block (T := TT) ?_ | refine r_then (T := TT) rfl ?_ | refine r_else (T := TT) rfl ?_)
    refine r_call (ok_q_Frac 1524 5 (by decide) (by decide) (by decide) (by decide) (q := Rat.divInt 1524 5) (by first | rfl | exact divInt_one _)) rfl rfl rfl rfl rfl rfl rfl ?_
    repeat (first | refine r_op rfl rfl rfl rfl ?_ | refine r_skip rfl rfl rfl ?_ | refine .done ?_ | refine r_seq (T := TT) ?_ | refine r_region (T := TT) rfl ?_ | refine r_block (T := TT) ?_ | refine r_then (T := TT) rfl ?_ | refine r_else (T := TT) rfl ?_)
    have : facR s = .tup [dQt (Rat.divInt 1524 5) 1, dB true] := by subst h1; rfl
    rw [this]
    exact r_fin (T := TT) rfl rfl
  refine r_bin rfl rfl rfl rfl rfl rfl rfl (binV_eqF (a := [102, 116]) (b := s) (fun e => h1 e.symm)) ?_
  repeat (first | refine r_op rfl rfl rfl rfl ?_ | refine r_skip rfl rfl rfl ?_ | refine .done ?_ | refine r_seq (T := TT) ?_ | refine r_region (T := TT) rfl ?_ | refine r_block (T := TT) ?_ | refine r_then (T := TT) rfl ?_ | refine r_else (T := TT) rfl ?_)
  refine r_round ⟨[(0, .d (dL s)), (2, .box 0 0), (3, .d (dB false)), (6, .d (.leaf (.sl 5 unitCells))), (7, .d (dN .i64 5)), (8, .d (dN .i64 2))], [(0, some aQt0)]⟩ (weak ⟨rfl, rfl, rfl, rfl, rfl, rfl, trivial⟩ ⟨rfl, trivial⟩ rfl) ?_
  repeat (first | refine r_op rfl rfl rfl rfl ?_ | refine r_skip rfl rfl rfl ?_ | refine .done ?_ | refine r_seq (T := TT) ?_ | refine r_region (T := TT) rfl ?_ | refine r_block (T := TT) ?_ | refine r_then (T := TT) rfl ?_ | refine r_else (T := TT) rfl ?_)
  refine r_idx (i := 2) (cs' := [.val (vL [105, 110]), .val (.int .i64 127), .val (.int .i64 5)]) (by decide) (sub_at (k := 3) rfl) (by decide) rfl rfl rfl rfl rfl rfl rfl rfl ?_
  repeat (first | refine r_op rfl rfl rfl rfl ?_ | refine r_skip rfl rfl rfl ?_ | refine .done ?_)
  repeat refine r_seq (T := TT) ?_
  refine r_region (T := TT) rfl ?_
  iterate 3 (first | refine r_op rfl rfl rfl rfl ?_ | refine r_skip rfl rfl rfl ?_)
  by_cases h2 : s = [105, 110]
  · refine r_bin rfl rfl rfl rfl rfl rfl rfl (binV_eqT (a := [105, 110]) (b := s) h2.symm) ?_
    repeat (first | refine r_op rfl rfl rfl rfl ?_ | refine r_skip rfl rfl rfl ?_ | refine .done ?_ | refine r_seq (T := TT) ?_ | refine r_region (T := TT) rfl ?_ | refine r_block (T := TT) ?_ | refine r_then (T := TT) rfl ?_ | refine r_else (T := TT) rfl ?_)
    refine r_call (ok_q_Frac 127 5 (by decide) (by decide) (by decide) (by decide) (q := Rat.divInt 127 5) (by first | rfl | exact divInt_one _)) rfl rfl rfl rfl rfl rfl rfl ?_
    repeat (first | refine r_op rfl rfl rfl rfl ?_ | refine r_skip rfl rfl rfl ?_ | refine .done ?_ | refine r_seq (T := TT) ?_ | refine r_region (T := TT) rfl ?_ | refine r_block (T := TT) ?_ | refine r_then (T := TT) rfl ?_ | refine r_else (T := TT) rfl ?_)
    have : facR s = .tup [dQt (Rat.divInt 127 5) 1, dB true] := by subst h2; rfl
    rw [this]
    exact r_fin (T := TT) rfl rfl
  refine r_bin rfl rfl rfl rfl rfl rfl rfl (binV_eqF (a := [105, 110]) (b := s) (fun e => h2 e.symm)) ?_
  repeat (first | refine r_op rfl rfl rfl rfl ?_ | refine r_skip rfl rfl rfl ?_ | refine .done ?_ | refine r_seq (T := TT) ?_ | refine r_region (T := TT) rfl ?_ | refine r_block (T := TT) ?_ | refine r_then (T := TT) rfl ?_ | refine r_else (T := TT) rfl ?_)
  refine r_round ⟨[(0, .d (dL s)), (2, .box 0 0), (3, .d (dB false)), (6, .d (.leaf (.sl 5 unitCells))), (7, .d (dN .i64 5)), (8, .d (dN .i64 3))], [(0, some aQt0)]⟩ (weak ⟨rfl, rfl, rfl, rfl, rfl, rfl, trivial⟩ ⟨rfl, trivial⟩ rfl) ?_
  repeat (first | refine r_op rfl rfl rfl rfl ?_ | refine r_skip rfl rfl rfl ?_ | refine .done ?_ | refine r_seq (T := TT) ?_ | refine r_region (T := TT) rfl ?_ | refine r_block (T := TT) ?_ | refine r_then (T := TT) rfl ?_ | refine r_else (T := TT) rfl ?_)
  refine r_idx (i := 3) (cs' := [.val (vL [109]), .val (.int .i64 1000), .val (.int .i64 1)]) (by decide) (sub_at (k := 3) rfl) (by decide) rfl rfl rfl rfl rfl rfl rfl rfl ?_
  repeat (first | refine r_op rfl rfl rfl rfl ?_ | refine r_skip rfl rfl rfl ?_ | refine .done ?_)
  repeat refine r_seq (T := TT) ?_
  refine r_region (T := TT) rfl ?_
  iterate 3 (first | refine r_op rfl rfl rfl rfl ?_ | refine r_skip rfl rfl rfl ?_)
  by_cases h3 : s = [109]
  · refine r_bin rfl rfl rfl rfl rfl rfl rfl (binV_eqT (a := [109]) (b := s) h3.symm) ?_
    repeat (first | refine r_op rfl rfl rfl rfl ?_ | refine r_skip rfl rfl rfl ?_ | refine .done ?_ | refine r_seq (T := TT) ?_ | refine r_region (T := TT) rfl ?_ | refine r_block (T := TT) ?_ | refine r_then (T := TT) rfl ?_ | refine r_else (T := TT) rfl ?_)
    refine r_call (ok_q_Frac 1000 1 (by decide) (by decide) (by decide) (by decide) (q := ((1000 : Int) : Rat)) (by first | rfl | exact divInt_one _)) rfl rfl rfl rfl rfl rfl rfl ?_
    repeat (first | refine r_op rfl rfl rfl rfl ?_ | refine r_skip rfl rfl rfl ?_ | refine .done ?_ | refine r_seq (T := TT) ?_ | refine r_region (T := TT) rfl ?_ | refine r_block (T := TT) ?_ | refine r_then (T := TT) rfl ?_ | refine r_else (T := TT) rfl ?_)
    have : facR s = .tup [dQt (((1000 : Int) : Rat)) 1, dB true] := by subst h3; rfl
    rw [this]
    exact r_fin (T := TT) rfl rfl
  refine r_bin rfl rfl rfl rfl rfl rfl rfl (binV_eqF (a := [109]) (b := s) (fun e => h3 e.symm)) ?_
  repeat (first | refine r_op rfl rfl rfl rfl ?_ | refine r_skip rfl rfl rfl ?_ | refine .done ?_ | refine r_seq (T := TT) ?_ | refine r_region (T := TT) rfl ?_ | refine r_block (T := TT) ?_ | refine r_then (T := TT) rfl ?_ | refine r_else (T := TT) rfl ?_)
  refine r_round ⟨[(0, .d (dL s)), (2, .box 0 0), (3, .d (dB false)), (6, .d (.leaf (.sl 5 unitCells))), (7, .d (dN .i64 5)), (8, .d (dN .i64 4))], [(0, some aQt0)]⟩ (weak ⟨rfl, rfl, rfl, rfl, rfl, rfl, trivial⟩ ⟨rfl, trivial⟩ rfl) ?_
  repeat (first | refine r_op rfl rfl rfl rfl ?_ | refine r_skip rfl rfl rfl ?_ | refine .done ?_ | refine r_seq (T := TT) ?_ | refine r_region (T := TT) rfl ?_ | refine r_block (T := TT) ?_ | refine r_then (T := TT) rfl ?_ | refine r_else (T := TT) rfl ?_)
  refine r_idx (i := 4) (cs' := [.val (vL [109, 109]), .val (.int .i64 1), .val (.int .i64 1)]) (by decide) (sub_at (k := 3) rfl) (by decide) rfl rfl rfl rfl rfl rfl rfl rfl ?_
  repeat (first | refine r_op rfl rfl rfl rfl ?_ | refine r_skip rfl rfl rfl ?_ | refine .done ?_)
  repeat refine r_seq (T := TT) ?_
  refine r_region (T := TT) rfl ?_
  iterate 3 (first | refine r_op rfl rfl rfl rfl ?_ | refine r_skip rfl rfl rfl ?_)
  by_cases h4 : s = [109, 109]
  · refine r_bin rfl rfl rfl rfl rfl rfl rfl (binV_eqT (a := [109, 109]) (b := s) h4.symm) ?_
    repeat (first | refine r_op rfl rfl rfl rfl ?_ | refine r_skip rfl rfl rfl ?_ | refine .done ?_ | refine r_seq (T := TT) ?_ | refine r_region (T := TT) rfl ?_ | refine r_block (T := TT) ?_ | refine r_then (T := TT) rfl ?_ | refine r_else (T := TT) rfl ?_)
    refine r_call (ok_q_Frac 1 1 (by decide) (by decide) (by decide) (by decide) (q := ((1 : Int) : Rat)) (by first | rfl | exact divInt_one _)) rfl rfl rfl rfl rfl rfl rfl ?_
    repeat (first | refine r_op rfl rfl rfl rfl ?_ | refine r_skip rfl rfl rfl ?_ | refine .done ?_ | refine r_seq (T := TT) ?_ | refine r_region (T := TT) rfl ?_ | refine r_block (T := TT) ?_ | refine r_then (T := TT) rfl ?_ | refine r_else (T := TT) rfl ?_)
    have : facR s = .tup [dQt (((1 : Int) : Rat)) 1, dB true] := by subst h4; rfl
    rw [this]
    exact r_fin (T := TT) rfl rfl
  refine r_bin rfl rfl rfl rfl rfl rfl rfl (binV_eqF (a := [109, 109]) (b := s) (fun e => h4 e.symm)) ?_
  repeat (first | refine r_op rfl rfl rfl rfl ?_ | refine r_skip rfl rfl rfl ?_ | refine .done ?_ | refine r_seq (T := TT) ?_ | refine r_region (T := TT) rfl ?_ | refine r_block (T := TT) ?_ | refine r_then (T := TT) rfl ?_ | refine r_else (T := TT) rfl ?_)
  refine r_round ⟨[(0, .d (dL s)), (2, .box 0 0), (3, .d (dB false)), (6, .d (.leaf (.sl 5 unitCells))), (7, .d (dN .i64 5)), (8, .d (dN .i64 5))], [(0, some aQt0)]⟩ (weak ⟨rfl, rfl, rfl, rfl, rfl, rfl, trivial⟩ ⟨rfl, trivial⟩ rfl) ?_
  repeat (first | refine r_op rfl rfl rfl rfl ?_ | refine r_skip rfl rfl rfl ?_ | refine .done ?_ | refine r_seq (T := TT) ?_ | refine r_region (T := TT) rfl ?_ | refine r_block (T := TT) ?_ | refine r_then (T := TT) rfl ?_ | refine r_else (T := TT) rfl ?_)
  have : facR s = .tup [dQt0, dB false] := by
    unfold facR fac facL
    simp only [facN, h0, h1, h2, h3, h4, if_false]
  rw [this]
  exact r_fin (T := TT) rfl rfl
end Go.Proofs.YtmpadildchphgaaGreatDoor
