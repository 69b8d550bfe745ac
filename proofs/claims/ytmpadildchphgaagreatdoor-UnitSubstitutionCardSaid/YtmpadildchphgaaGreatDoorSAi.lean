/- A region that draws its order, as a set of facts: each operation is shown once, from the facts of those that it waits for. Pow of the program. Facts of a region with one new box: what the slots hold, kept from operation to operation. -/
import Derived.Test.YtmpadildchphgaaGreatDoorSAd
import Derived.Test.YtmpadildchphgaaGreatDoorSAh
namespace Go.Proofs.YtmpadildchphgaaGreatDoor
open Go.RowKit
def puts (a : Act) : List Tmp → (Tmp → Value) → Act
  | [], _ => a
  | s :: ss, x => puts (a.put (some s) (x s)) ss x
def upd (x : Tmp → Value) (s : Tmp) (v : Value) : Tmp → Value := fun k => if k = s then v else x k
theorem upd_same (x : Tmp → Value) (s : Tmp) (v : Value) : upd x s v s = v := by simp [upd]
theorem upd_far (x : Tmp → Value) {s k : Tmp} (v : Value) (h : k ≠ s) : upd x s v k = x k := by simp [upd, h]
theorem getD_set_same {l : Array Bool} {i : Nat} (h : i < l.size) : (l.setIfInBounds i true).getD i false = true := by
  simp [h]
theorem getD_set_other {l : Array Bool} {i k : Nat} (b : Bool) (h : i ≠ k) : (l.setIfInBounds i true).getD k b = l.getD k b := by
  simp [h]
section
variable {P : Program} {Q : Exit → Act → World → Prop} {id : Nat} {a : Act} {w : World}
def RegJ (ops : Array Oper) (a : Act) (slots : List Tmp) (F : Nat → (Tmp → Value) → World → Prop) (B : (Tmp → Value) → World → Prop) (listed : Array Bool) (a' : Act) (w' : World) : Prop :=
  (∀ k o, listed.getD k false = true → ops[k]? = some o → ∀ e ∈ o.after, Region.binds .any e = true → listed.getD e.on false = true) ∧ ∃ x, a' = puts a slots x ∧ B x w' ∧ ∀ k, listed.getD k false = true → F k x w'
def waits (ops : Array Oper) (k i : Nat) : Bool := match ops.toList[k]? with | some o => o.after.toList.any fun e => Region.binds .any e && e.on == i | none => false
def Way (ops : Array Oper) (F : Nat → (Tmp → Value) → World → Prop) (B : (Tmp → Value) → World → Prop) (a : Act) (slots : List Tmp) (i : Nat) (x : Tmp → Value) (w : World) (K : Act → World → Prop) : Prop :=
  ∀ a' w' x', a' = puts a slots x' → B x' w' → F i x' w' → (∀ k, k ≠ i → k < ops.size → waits ops k i = false → F k x w → F k x' w') → K a' w'
def Known (o : Oper) (F : Nat → (Tmp → Value) → World → Prop) (x : Tmp → Value) (w : World) : Prop := ∀ j ∈ (o.after.toList.filter (Region.binds .any)).map (·.on), F j x w
structure Veil (p : Prop) : Prop where
  out : p
def Step (P : Program) (ops : Array Oper) (Q : Exit → Act → World → Prop) (a : Act) (slots : List Tmp) (F : Nat → (Tmp → Value) → World → Prop) (B : (Tmp → Value) → World → Prop) (o : Oper) (i : Nat) : Prop :=
  ∀ x w, B x w → Known o F x w → ∀ K, Way ops F B a slots i x w K →
    Veil (if Region.wanted o (yielded ops (puts a slots x).tmps) = true then Oper.wp P o (puts a slots x) w K Q else K ((puts a slots x).put o.dst undef) w)
def Steps (P : Program) (ops : Array Oper) (Q : Exit → Act → World → Prop) (a : Act) (slots : List Tmp) (F : Nat → (Tmp → Value) → World → Prop) (B : (Tmp → Value) → World → Prop) : List Oper → Nat → Prop
  | [], _ => True
  | o :: os, i => Step P ops Q a slots F B o i ∧ Steps P ops Q a slots F B os (i + 1)
theorem Steps.at {ops : Array Oper} {slots : List Tmp} {F : Nat → (Tmp → Value) → World → Prop} {B : (Tmp → Value) → World → Prop} :
    ∀ (os : List Oper) (n i : Nat) (o : Oper), Steps P ops Q a slots F B os n → os[i]? = some o → Step P ops Q a slots F B o (n + i)
  | [], _, _, _, _, h => by simp at h
  | o' :: os, n, 0, o, hs, h => by simp at h; subst h; exact hs.1
  | o' :: os, n, i + 1, o, hs, h => by
    have := Steps.at os (n + 1) i o hs.2 (by simpa using h)
    rwa [show n + (i + 1) = n + 1 + i by omega]
def topo (ops : Array Oper) : Bool := (List.range ops.size).all fun i => match ops[i]? with | some o => o.after.all fun e => !Region.binds .any e || decide (e.on < i) | none => true
theorem all_of_ready {ops : Array Oper} {listed : Array Bool} (ht : topo ops = true) (hl : listed.size = ops.size) (hr : Region.ready .any ops listed = []) : ∀ k, k < ops.size → listed.getD k false = true := by
  intro k
  induction k using Nat.strongRecOn with
  | _ k ih =>
    intro hk
    cases h : listed.getD k false with
    | true => rfl
    | false =>
      exfalso
      have hm : k ∈ Region.ready .any ops listed := by
        refine mem_ready.2 ⟨?_, ops[k], by simp [hk], fun e he hb => ?_⟩
        · have hk' : k < listed.size := by omega
          simp [hk'] at h ⊢
          exact h
        · unfold topo at ht
          rw [List.all_eq_true] at ht
          have h1 := ht k (List.mem_range.2 hk)
          rw [show ops[k]? = some ops[k] by simp [hk]] at h1
          simp only [Array.all_eq_true_iff_forall_mem] at h1
          have h2 := h1 e he
          rw [hb] at h2
          simp only [Bool.not_true, Bool.false_or, decide_eq_true_eq] at h2
          exact ih e.on h2 (by omega)
      rw [hr] at hm
      cases hm
theorem wpAny_facts {ops : Array Oper} {slots : List Tmp} {F : Nat → (Tmp → Value) → World → Prop} {B : (Tmp → Value) → World → Prop} (ht : topo ops = true)
    (hs : Steps P ops Q a slots F B ops.toList 0)
    (hE : ∀ x w', B x w' → (∀ k, k < ops.size → F k x w') → Q .normal (puts a slots x) w') :
    ∀ (fuel : Nat) (listed : Array Bool) (a' : Act) (w' : World), listed.size = ops.size → listed.toList.count false ≤ fuel → RegJ ops a slots F B listed a' w' → wpAny P .any ops Q fuel listed a' w' := by
  intro fuel
  have fin : ∀ (listed : Array Bool) (a' : Act) (w' : World), listed.size = ops.size → RegJ ops a slots F B listed a' w' → Region.ready .any ops listed = [] → Q .normal a' w' := by
    intro listed a' w' hl hJ hr
    obtain ⟨_, x, rfl, hB, hF⟩ := hJ
    exact hE x w' hB (fun k hk => hF k (all_of_ready ht hl hr k hk))
  induction fuel with
  | zero =>
    intro listed a' w' hl hc hJ
    have hr : Region.ready .any ops listed = [] := by
      rw [List.eq_nil_iff_forall_not_mem]
      intro j hj
      obtain ⟨h1, o, ho, _⟩ := mem_ready.1 hj
      have hjl : j < listed.size := by
        have := (Array.getElem?_eq_some_iff.1 ho).1
        omega
      have h0 : listed.toList.count false = 0 := by omega
      rw [List.count_eq_zero] at h0
      apply h0
      simp [hjl] at h1
      rw [← h1]
      simp
    exact ⟨hr, fin listed a' w' hl hJ hr⟩
  | succ fuel ih =>
    intro listed a' w' hl hc hJ
    refine ⟨fin listed a' w' hl hJ, fun i hi => ?_⟩
    obtain ⟨h1, o, ho, hall⟩ := mem_ready.1 hi
    have hio : i < ops.size := (Array.getElem?_eq_some_iff.1 ho).1
    have hil : i < listed.size := by omega
    obtain ⟨hdc, x, rfl, hB, hF⟩ := hJ
    have hst := Steps.at ops.toList 0 i o hs (by simpa using ho)
    rw [Nat.zero_add] at hst
    refine wpOp_step ho (fun K' hK => ?_)
    refine (hst x w' hB ?_ K' ?_).out
    · intro j hj
      simp only [List.mem_map, List.mem_filter, Array.mem_toList_iff] at hj
      obtain ⟨e, ⟨he, hb⟩, rfl⟩ := hj
      exact hF _ (hall e he hb)
    · intro a2 w2 x2 ha hB2 hFi hk
      have hfi : listed.getD i false = false := by simpa [hil] using h1
      refine hK a2 w2 (ih _ a2 w2 (by simp [hl]) ?_ ⟨fun k ok hk2 hok e he hb => ?_, x2, ha, hB2, fun k hk2 => ?_⟩)
      · have hf : listed[i] = false := by simpa [hil] using h1
        have : (listed.setIfInBounds i true).toList.count false + 1 = listed.toList.count false := by
          rw [Array.toList_setIfInBounds, List.count_set (by simpa using hil)]
          have hpos : 0 < listed.toList.count false := List.count_pos_iff.2 (by rw [← hf]; simp)
          rw [Array.getElem_toList, hf]
          simp only [beq_self_eq_true, if_true]
          rw [if_neg (by decide)]
          omega
        omega
      · by_cases hei : e.on = i
        · rw [hei]; exact getD_set_same hil
        · rw [getD_set_other _ (fun e => hei e.symm)]
          by_cases hki : k = i
          · subst hki
            rw [ho] at hok
            cases hok
            exact hall e he hb
          · rw [getD_set_other _ (fun e => hki e.symm)] at hk2
            exact hdc k ok hk2 hok e he hb
      · by_cases hki : k = i
        · subst hki; exact hFi
        · rw [getD_set_other _ (fun e => hki e.symm)] at hk2
          have hks : k < ops.size := by
            rcases Nat.lt_or_ge k listed.size with h | h
            · omega
            · simp [Nat.not_lt.2 h] at hk2
          refine hk k hki hks ?_ (hF k hk2)
          cases hw : waits ops k i with
          | false => rfl
          | true =>
            exfalso
            unfold waits at hw
            rw [show ops.toList[k]? = some ops[k] by simp [hks]] at hw
            simp only [List.any_eq_true, Bool.and_eq_true, beq_iff_eq] at hw
            obtain ⟨e, he, hb, heq⟩ := hw
            have := hdc k ops[k] hk2 (by simp [hks]) e (by simpa using he) hb
            rw [heq, hfi] at this
            cases this
theorem put_self (a : Act) (s : Tmp) : a.put (some s) (a.tmps.getD s undef) = a := by
  unfold Act.put
  have : a.tmps.setIfInBounds s (a.tmps.getD s undef) = a.tmps := by
    apply Array.ext'
    rw [Array.toList_setIfInBounds]
    apply List.ext_getElem?
    intro k
    rw [List.getElem?_set]
    split
    · rename_i e
      subst e
      split
      · rename_i h
        have h' : s < a.tmps.size := by simpa using h
        simp [h']
      · rename_i h
        have h' : ¬ s < a.tmps.size := by simpa using h
        simp [h']
    · rfl
  show { a with tmps := a.tmps.setIfInBounds s (a.tmps.getD s undef) } = a
  rw [this]
def held (a : Act) : Tmp → Value := fun k => a.tmps.getD k undef
theorem puts_self (a : Act) : ∀ (slots : List Tmp), a = puts a slots (held a)
  | [] => rfl
  | s :: ss => by
    unfold puts
    rw [show a.put (some s) (held a s) = a from put_self a s]
    exact puts_self a ss
theorem region_facts {ops : Array Oper} (hm : P.follows .mixedOrders = true) (ht : topo ops = true) (slots : List Tmp) (F : Nat → (Tmp → Value) → World → Prop) (B : (Tmp → Value) → World → Prop)
    (x0 : Tmp → Value) (h0 : a = puts a slots x0) (hB : B x0 w.drew)
    (hs : Steps P ops Q a slots F B ops.toList 0)
    (hE : ∀ x w', B x w' → (∀ k, k < ops.size → F k x w') → Q .normal (puts a slots x) w') : (Code.region id ops true).wp P Q a w := by
  have no : ∀ k, (Array.replicate ops.size false).getD k false = true → False := by
    intro k hk
    rcases Nat.lt_or_ge k ops.size with h | h
    · simp [h] at hk
    · simp [Nat.not_lt.2 h] at hk
  refine wp_region_any hm (wpAny_facts ht hs hE _ _ _ _ (by simp) ?_ ⟨fun k o hk _ => (no k hk).elim, x0, h0, hB, fun k hk => (no k hk).elim⟩)
  rw [Array.toList_replicate, List.count_replicate]; simp
end
end Go.Proofs.YtmpadildchphgaaGreatDoor
namespace Go.Proofs.YtmpadildchphgaaGreatDoor
open Go.RowKit
attribute [local go_sem ↓] Go.wp_at_zero Go.wp_at_succ
def Old (w : World) (v : Value) : Prop := ∀ g o, v = .pointer (some ⟨g, o, none⟩) → g < w.heap.size
theorem Old.undef (w : World) : Old w undef := by intro g o h; cases h
theorem Old.below {w w' : World} {v : Value} (h : Old w v) (hb : Below w.heap.size w w') : Old w' v := fun g o e => Nat.lt_of_lt_of_le (h g o e) hb.size
theorem Old.set2 {w : World} {v : Value} (h : Old w v) (g : Nat) (u0 u1 : Value) : Old ((w.setCell ⟨g, 0, none⟩ u0).setCell ⟨g, 1, none⟩ u1) v := fun g' o e => by
  have := h g' o e
  simpa using this
def BoxAt (N : Nat) (w : World) (v y : Value) : Prop := ∃ g, v = .pointer (some ⟨g, 0, none⟩) ∧ N ≤ g ∧ Slot w g ∧ v ≠ y
def DoneAt (N : Nat) (w : World) (v y : Value) (z : Int) : Prop := ∃ g, v = .pointer (some ⟨g, 0, none⟩) ∧ N ≤ g ∧ Slot w g ∧ Done w g z ∧ v ≠ y
theorem Slot.new (w : World) (t : TypeId) : Slot (w.alloc (.cells #[.bool false, .slice none 0 0] t)) w.heap.size := by
  have h : (w.alloc (.cells #[.bool false, .slice none 0 0] t)).cell? ⟨w.heap.size, 0, none⟩ = some (.bool false) ∧ (w.alloc (.cells #[.bool false, .slice none 0 0] t)).cell? ⟨w.heap.size, 1, none⟩ = some (.slice none 0 0) ∧ (w.alloc (.cells #[.bool false, .slice none 0 0] t)).frozen? ⟨w.heap.size, 0, none⟩ = false ∧ (w.alloc (.cells #[.bool false, .slice none 0 0] t)).frozen? ⟨w.heap.size, 1, none⟩ = false := by simp [go_sem]
  exact Slot.mk h.1 h.2.1 h.2.2.1 h.2.2.2
theorem Slot.lt {w : World} {g : Nat} (h : Slot w g) : g < w.heap.size := by
  obtain ⟨_, _, h0, _⟩ := h
  exact World.block_lt_of_cell? w _ h0
theorem BoxAt.below {N : Nat} {w w' : World} {v y : Value} (h : BoxAt N w v y) (hb : Below w.heap.size w w') : BoxAt N w' v y := by
  obtain ⟨g, h0, h1, h2, h3⟩ := h
  exact ⟨g, h0, h1, h2.below hb, h3⟩
theorem DoneAt.below {N : Nat} {w w' : World} {v y : Value} {z : Int} (h : DoneAt N w v y z) (hb : Below w.heap.size w w') : DoneAt N w' v y z := by
  obtain ⟨g, h0, h1, h2, h3, h4⟩ := h
  exact ⟨g, h0, h1, h2.below hb, h3.below hb, h4⟩
theorem below_alloc (w : World) (o : Obj) : Below w.heap.size w (w.alloc o) := (Below.refl _ _).alloc (Nat.le_refl _) _
theorem Slot.any {w : World} {r : Nat} (h : Slot w r) (r' : Nat) (b : Bool) (A : Option Addr) (n c : Nat) : Slot ((w.setCell ⟨r', 0, none⟩ (.bool b)).setCell ⟨r', 1, none⟩ (.slice A n c)) r := by
  by_cases e : r = r'
  · subst e; exact h.same _ _ _ _
  · exact h.far e _ _
def TwoF (N : Nat) (s t p q l : Tmp) (va : Value) (z1 z2 : Int) (k : Nat) (x : Tmp → Value) (w : World) : Prop :=
  match k with
  | 0 => IntV w (x p) z1
  | 1 => x l = va
  | 2 => IntV w (x q) z2
  | 3 => BoxAt N w (x s) (x t)
  | 4 => BoxAt N w (x t) (x s)
  | 5 => DoneAt N w (x s) (x t) z1
  | 6 => DoneAt N w (x t) (x s) z2
  | _ => True
section
variable {N : Nat} {s t p q l : Tmp} {va : Value} {z1 z2 : Int} {x : Tmp → Value} {w w' : World}
theorem TwoF.fill {d : Tmp} {v : Value} (hb : Below w.heap.size w w') (hs : d ≠ s) (ht : d ≠ t) {k : Nat} (hk : TwoF N s t p q l va z1 z2 k x w) (hp : d = p → k ≠ 0) (hl : d = l → k ≠ 1) (hq : d = q → k ≠ 2) : TwoF N s t p q l va z1 z2 k (upd x d v) w' := by
  have es : upd x d v s = x s := upd_far x v (fun e => hs e.symm)
  have et : upd x d v t = x t := upd_far x v (fun e => ht e.symm)
  unfold TwoF at *
  rw [es, et]
  split <;> simp only at hk
  · rw [upd_far x v (fun e => hp e.symm rfl)]; exact IntV.below hk hb
  · rw [upd_far x v (fun e => hl e.symm rfl)]; exact hk
  · rw [upd_far x v (fun e => hq e.symm rfl)]; exact IntV.below hk hb
  · exact hk.below hb
  · exact hk.below hb
  · exact hk.below hb
  · exact hk.below hb
  · trivial
theorem IntV.set2 {w : World} {v : Value} {z : Int} {g : Nat} (h : IntV w v z) (hs : Slot w g) (u0 u1 : Value) : IntV ((w.setCell ⟨g, 0, none⟩ u0).setCell ⟨g, 1, none⟩ u1) v z := by
  obtain ⟨A, n, c, h0, h1⟩ := h
  exact ⟨A, n, c, h0, h1.set2 hs _ _⟩
theorem BoxAt.set2 {v y : Value} (h : BoxAt N w v y) (g' : Nat) (b : Bool) (A : Option Addr) (n c : Nat) : BoxAt N ((w.setCell ⟨g', 0, none⟩ (.bool b)).setCell ⟨g', 1, none⟩ (.slice A n c)) v y := by
  obtain ⟨g, e0, e1, e2, e3⟩ := h
  exact ⟨g, e0, e1, e2.any _ _ _ _ _, e3⟩
theorem DoneAt.far2 {v y : Value} {z : Int} {g' : Nat} (h : DoneAt N w v y z) (hs : Slot w g') (hv : v ≠ .pointer (some ⟨g', 0, none⟩)) (b : Bool) (A : Option Addr) (n c : Nat) : DoneAt N ((w.setCell ⟨g', 0, none⟩ (.bool b)).setCell ⟨g', 1, none⟩ (.slice A n c)) v y z := by
  obtain ⟨g, e0, e1, e2, e3, e4⟩ := h
  exact ⟨g, e0, e1, e2.any _ _ _ _ _, e3.far hs (fun e => hv (by rw [e0, e])) _ _, e4⟩
theorem TwoF.store {g : Nat} {b : Bool} {A : Option Addr} {n c : Nat} (hs : Slot w g) {k : Nat} (hk : TwoF N s t p q l va z1 z2 k x w) (h5 : k = 5 → x s ≠ .pointer (some ⟨g, 0, none⟩)) (h6 : k = 6 → x t ≠ .pointer (some ⟨g, 0, none⟩)) :
    TwoF N s t p q l va z1 z2 k x ((w.setCell ⟨g, 0, none⟩ (.bool b)).setCell ⟨g, 1, none⟩ (.slice A n c)) := by
  unfold TwoF at *
  split <;> simp only at hk
  · exact hk.set2 hs _ _
  · exact hk
  · exact hk.set2 hs _ _
  · exact hk.set2 _ _ _ _ _
  · exact hk.set2 _ _ _ _ _
  · exact hk.far2 hs (h5 rfl) _ _ _ _
  · exact hk.far2 hs (h6 rfl) _ _ _ _
  · trivial
theorem DoneAt.mk {v y : Value} {z : Int} {g n c : Nat} {A : Option Addr} (e0 : v = .pointer (some ⟨g, 0, none⟩)) (hN : N ≤ g) (hs : Slot w g) (hz : Wrd w A n c (digs z.natAbs)) (hne : v ≠ y) :
    DoneAt N ((w.setCell ⟨g, 0, none⟩ (.bool (decide (z < 0)))).setCell ⟨g, 1, none⟩ (.slice A n c)) v y z :=
  ⟨g, e0, hN, hs.same _ _ _ _, Done.intro hz hs, hne⟩
end
def PowB (w : World) (va0 va1 : Value) (x : Tmp → Value) (w' : World) : Prop :=
  (w'.cell? ⟨w.heap.size, 0, none⟩ = some va0 ∧ w'.cell? ⟨w.heap.size, 1, none⟩ = some va1 ∧ Slot w' (w.heap.size + 1) ∧ Ext w w' ∧ w.heap.size + 2 ≤ w'.heap.size) ∧ Old w' (x 6) ∧ Old w' (x 7)
section
variable {w w1 w2 : World} {va0 va1 : Value} {x y : Tmp → Value}
theorem PowB.below (h : PowB w va0 va1 x w1) (hb : Below w1.heap.size w1 w2) (h6 : Old w2 (y 6)) (h7 : Old w2 (y 7)) : PowB w va0 va1 y w2 :=
  ⟨⟨kc h.1.1 hb, kc h.1.2.1 hb, h.1.2.2.1.below hb, h.1.2.2.2.1.more hb, Nat.le_trans h.1.2.2.2.2 hb.size⟩, h6, h7⟩
theorem PowB.more (h : PowB w va0 va1 x w1) (hb : Below w1.heap.size w1 w2) (e6 : y 6 = x 6) (e7 : y 7 = x 7) : PowB w va0 va1 y w2 :=
  h.below hb (by rw [e6]; exact h.2.1.below hb) (by rw [e7]; exact h.2.2.below hb)
theorem Old.new (w : World) (o : Obj) : Old (w.alloc o) (.pointer (some ⟨w.heap.size, 0, none⟩)) := by
  intro g k e
  simp only [Value.pointer.injEq, Option.some.injEq, Addr.mk.injEq] at e
  simp
  omega
theorem PowB.set2 {g : Nat} (h : PowB w va0 va1 x w1) (hg : w.heap.size + 2 ≤ g) (b : Bool) (A : Option Addr) (n c : Nat) : PowB w va0 va1 x ((w1.setCell ⟨g, 0, none⟩ (.bool b)).setCell ⟨g, 1, none⟩ (.slice A n c)) :=
  ⟨⟨cell_far2 h.1.1 (by dsimp only; omega), cell_far2 h.1.2.1 (by dsimp only; omega), h.1.2.2.1.any _ _ _ _ _, h.1.2.2.2.1.set2 (by omega) _ _, by simpa using h.1.2.2.2.2⟩, h.2.1.set2 _ _ _, h.2.2.set2 _ _ _⟩
end
theorem toZ_int (a : Int) : toZ (decide (a < 0)) (digs a.natAbs) = a := by
  unfold toZ
  rw [val_digs]
  by_cases h : a < 0 <;> simp [h] <;> omega
theorem intV_mk {w : World} {z : Int} {A : Option Addr} {n c : Nat} (h : Wrd w A n c (digs z.natAbs)) : IntV w (.agg #[.bool (decide (z < 0)), .slice A n c]) z := ⟨A, n, c, rfl, h⟩
def PowS (w : World) (g6 g7 : Nat) (a b : Int) (wr : World) : Prop := Done wr g6 a ∧ Done wr g7 b ∧ Slot wr g6 ∧ Slot wr g7 ∧ Slot wr (w.heap.size + 1) ∧ Ext w wr
theorem PowS.below {w : World} {g6 g7 : Nat} {a b : Int} {w1 w2 : World} (h : PowS w g6 g7 a b w1) (hb : Below w1.heap.size w1 w2) : PowS w g6 g7 a b w2 :=
  ⟨h.1.below hb, h.2.1.below hb, h.2.2.1.below hb, h.2.2.2.1.below hb, h.2.2.2.2.1.below hb, h.2.2.2.2.2.more hb⟩
end Go.Proofs.YtmpadildchphgaaGreatDoor
namespace Go.Proofs.YtmpadildchphgaaGreatDoor
open Go.RowKit
inductive Fact where
  | is (l : Tmp) (v : Value)
  | int (p : Tmp) (z : Int)
  | box (s : Tmp)
  | done (s : Tmp) (z : Int)
  | any
def Fact.ok (N : Nat) (x : Tmp → Value) (w : World) : Fact → Prop
  | .is l v => x l = v
  | .int p z => IntV w (x p) z
  | .box s => BoxAt N w (x s) undef
  | .done s z => DoneAt N w (x s) undef z
  | .any => True
def Fact.off (d : Tmp) : Fact → Bool
  | .is l _ => l != d
  | .int p _ => p != d
  | .box s => s != d
  | .done s _ => s != d
  | .any => true
def Fact.isDone : Fact → Bool
  | .done _ _ => true
  | _ => false
def FactF (N : Nat) (fs : List Fact) (k : Nat) (x : Tmp → Value) (w : World) : Prop := (fs.getD k .any).ok N x w
section
variable {N : Nat} {fs : List Fact} {x : Tmp → Value} {w w' : World} {k : Nat}
theorem Fact.fill {f : Fact} {d : Tmp} {v : Value} (h : f.ok N x w) (hb : Below w.heap.size w w') (hd : f.off d = true) : f.ok N (upd x d v) w' := by
  cases f with
  | is l u => simp only [Fact.off, bne_iff_ne, ne_eq] at hd; simp only [Fact.ok, upd_far x v hd] at h ⊢; exact h
  | int p z => simp only [Fact.off, bne_iff_ne, ne_eq] at hd; simp only [Fact.ok, upd_far x v hd] at h ⊢; exact IntV.below h hb
  | box s => simp only [Fact.off, bne_iff_ne, ne_eq] at hd; simp only [Fact.ok, upd_far x v hd] at h ⊢; exact h.below hb
  | done s z => simp only [Fact.off, bne_iff_ne, ne_eq] at hd; simp only [Fact.ok, upd_far x v hd] at h ⊢; exact h.below hb
  | any => trivial
theorem Fact.store {f : Fact} {g : Nat} {b : Bool} {A : Option Addr} {n c : Nat} (h : f.ok N x w) (hs : Slot w g) (hd : f.isDone = false) : f.ok N x ((w.setCell ⟨g, 0, none⟩ (.bool b)).setCell ⟨g, 1, none⟩ (.slice A n c)) := by
  cases f with
  | is l u => exact h
  | int p z => exact IntV.set2 h hs _ _
  | box s => exact BoxAt.set2 h _ _ _ _ _
  | done s z => simp [Fact.isDone] at hd
  | any => trivial
theorem ptr_ne_undef (g : Nat) : Value.pointer (some ⟨g, 0, none⟩) ≠ undef := by intro h; cases h
theorem boxAt_new {t : TypeId} (hN : N ≤ w.heap.size) : BoxAt N (w.alloc (.cells #[.bool false, .slice none 0 0] t)) (.pointer (some ⟨w.heap.size, 0, none⟩)) undef :=
  ⟨_, rfl, hN, Slot.new _ _, ptr_ne_undef _⟩
end
structure Keeps (N : Nat) (S : World → Prop) : Prop where
  grow : ∀ {w w' : World}, S w → Below w.heap.size w w' → S w'
  store : ∀ {w : World} {g : Nat} {b : Bool} {A : Option Addr} {n c : Nat}, S w → N ≤ g → Slot w g → S ((w.setCell ⟨g, 0, none⟩ (.bool b)).setCell ⟨g, 1, none⟩ (.slice A n c))
  size : ∀ {w : World}, S w → N ≤ w.heap.size
theorem Keeps.and {N : Nat} {S T : World → Prop} (h : Keeps N S) (k : Keeps N T) : Keeps N (fun w => S w ∧ T w) :=
  ⟨fun h' hb => ⟨h.grow h'.1 hb, k.grow h'.2 hb⟩, fun h' hg hs => ⟨h.store h'.1 hg hs, k.store h'.2 hg hs⟩, fun h' => h.size h'.1⟩
def offAll (fs : List Fact) (d : Tmp) (ex : List Nat) : Bool := (List.range fs.length).all fun k => ex.contains k || (fs.getD k .any).off d
def noDone (fs : List Fact) (ex : List Nat) : Bool := (List.range fs.length).all fun k => ex.contains k || !(fs.getD k .any).isDone
section
variable {N : Nat} {fs : List Fact} {x : Tmp → Value} {w w' : World} {k : Nat}
theorem FactF.fill {d : Tmp} {v : Value} {ex : List Nat} (h : FactF N fs k x w) (hb : Below w.heap.size w w') (hoff : offAll fs d ex = true) (hk : k ∉ ex) : FactF N fs k (upd x d v) w' := by
  unfold FactF at *
  rcases Nat.lt_or_ge k fs.length with hl | hl
  · refine Fact.fill h hb ?_
    have := List.all_eq_true.1 hoff k (List.mem_range.2 hl)
    rw [Bool.or_eq_true] at this
    rcases this with h1 | h1
    · exact absurd (by simpa using h1) hk
    · exact h1
  · rw [List.getD_eq_getElem?_getD, List.getElem?_eq_none hl]; trivial
theorem FactF.store {g : Nat} {b : Bool} {A : Option Addr} {n c : Nat} {ex : List Nat} (h : FactF N fs k x w) (hs : Slot w g) (hno : noDone fs ex = true) (hk : k ∉ ex) : FactF N fs k x ((w.setCell ⟨g, 0, none⟩ (.bool b)).setCell ⟨g, 1, none⟩ (.slice A n c)) := by
  unfold FactF at *
  rcases Nat.lt_or_ge k fs.length with hl | hl
  · refine Fact.store h hs ?_
    have := List.all_eq_true.1 hno k (List.mem_range.2 hl)
    rw [Bool.or_eq_true] at this
    rcases this with h1 | h1
    · exact absurd (by simpa using h1) hk
    · simpa using h1
  · rw [List.getD_eq_getElem?_getD, List.getElem?_eq_none hl]; trivial
end
end Go.Proofs.YtmpadildchphgaaGreatDoor
