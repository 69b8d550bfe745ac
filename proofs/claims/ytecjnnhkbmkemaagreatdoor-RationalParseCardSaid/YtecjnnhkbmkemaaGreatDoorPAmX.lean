/- Cuts: a common state behind a branch; rows of one's own: a name anew, load, store. -/
import Derived.Test.YtecjnnhkbmkemaaGreatDoorPAmS
namespace Go.Proofs.YtecjnnhkbmkemaaGreatDoor
open Go.RowKit
section
variable {P : Program} {T : TypeId → Option Ty} {n : Nat} {s : AS}
theorem r_cut {x y : Code} {Q : AX → AS → Prop} (σ : AS) (hy : ∀ s', Weak s' σ → AWp P T n y Q s') (hx : ∀ R : AX → AS → Prop, (∀ s', Weak s' σ → R .normal s') → R .ret = Q .ret → AWp P T n x R s) : AWp P T n (.seq x y) Q s := r_seq (hx _ hy rfl)
theorem r_cutP {x y : Code} {Q : AX → AS → Prop} (σ : AS) (φ : Prop) (hy : φ → ∀ s', Weak s' σ → AWp P T n y Q s') (hx : ∀ R : AX → AS → Prop, (φ → ∀ s', Weak s' σ → R .normal s') → R .ret = Q .ret → AWp P T n x R s) : AWp P T n (.seq x y) Q s := r_seq (hx _ hy rfl)
theorem Weak.trans {a b c : AS} (h : Weak a b) (h' : Weak b c) : Weak a c := fun n S0 w0 x w m => h' n S0 w0 x w (h n S0 w0 x w m)
theorem weak_rename {q j j' m k e : Nat} {cs : List AV} (hq : s.tv q = .own j m k e) (hj : s.bx j = some cs) (hn : look s.b j' = none) (hw : isWB j' = isWB j) (hrv : resv j' = false := by rfl) : Weak s ⟨(q, .own j' m k e) :: s.t, (j', some cs) :: (j, none) :: s.b⟩ := by
  intro n S0 w0 a w ⟨g, h⟩
  have hjj : j' ≠ j := fun e => by
    subst e
    obtain ⟨x, hx⟩ := AS.kn_of hj
    rw [hn] at hx
    cases hx
  have hkn : ∀ i, s.kn i → i ≠ j' := fun i ⟨x, hx⟩ e => by subst e; rw [hn] at hx; cases hx
  have hbx : ∀ i ci, (AS.mk ((q, TV.own j' m k e) :: s.t) ((j', some cs) :: (j, none) :: s.b)).bx i = some ci → (i = j' ∧ ci = cs) ∨ (i ≠ j' ∧ i ≠ j ∧ s.bx i = some ci) := fun i ci hi => by
    by_cases e1 : i = j'
    · subst e1; rw [AS.bx_same] at hi; cases hi; exact .inl ⟨rfl, rfl⟩
    · rw [AS.bx_ne _ s.t _ _ e1] at hi
      by_cases e2 : i = j
      · subst e2; rw [AS.bx_dead] at hi; cases hi
      · rw [AS.bx_ne _ s.t _ _ e2] at hi; exact .inr ⟨e1, e2, hi⟩
  have hO : Own S0 (fun i => if i = j' then g j else g i) (AS.mk ((q, TV.own j' m k e) :: s.t) ((j', some cs) :: (j, none) :: s.b)) = Own S0 g s := by
    funext b
    apply propext
    constructor
    · rintro (h0 | ⟨i, ci, hi, e0⟩)
      · exact .inl h0
      · rcases hbx i ci hi with ⟨rfl, rfl⟩ | ⟨h1, h2, h3⟩
        · simp only [if_true] at e0; exact .inr ⟨j, ci, hj, e0⟩
        · simp only [h1, if_false] at e0; exact .inr ⟨i, ci, h3, e0⟩
    · rintro (h0 | ⟨i, ci, hi, e0⟩)
      · exact .inl h0
      · by_cases e2 : i = j
        · subst e2
          exact .inr ⟨j', cs, AS.bx_same _ _ _ _, by simp only [if_true]; exact e0⟩
        · have h1 := hkn i (AS.kn_of hi)
          refine .inr ⟨i, ci, ?_, by simp only [h1, if_false]; exact e0⟩
          rw [AS.bx_ne _ s.t _ _ h1, AS.bx_ne _ s.t _ _ e2]
          exact hi
  have hF : Foll s (AS.mk ((q, TV.own j' m k e) :: s.t) ((j', some cs) :: (j, none) :: s.b)) g (fun i => if i = j' then g j else g i) w w := ⟨fun z hz => AS.kn_cons (t := s.t) _ (AS.kn_cons (t := s.t) _ hz), fun z cz hk hz => by
    rcases hbx z cz hz with ⟨e1, _⟩ | ⟨h1, h2, h3⟩
    · exact absurd e1 (hkn z hk)
    · exact ⟨cz, h3, Nat.le_refl _, by simp only [h1, if_false], fun a1 e1 h4 => ⟨a1, h4, rfl⟩⟩⟩
  refine ⟨fun i => if i = j' then g j else g i, fun i => ?_, fun i ci hi => ?_, fun i i' ci ci' hi hi' e0 => ?_, h.grow, h.df, h.sz, h.cl, h.tg, fun k cs hk => by rw [hO]; exact (h.gl k cs hk).agree (Agree.refl _ _) (fun _ _ h => h) hF, fun i q ci h1 h2 hi => by
    rcases hbx i ci hi with ⟨e1, _⟩ | ⟨h3, h4, h5⟩
    · subst e1; rw [hrv] at h1; cases h1
    · simp only [h3, if_false]; exact h.gp i q ci h1 h2 h5⟩
  · rw [hO]
    by_cases hi : q = i
    · subst hi
      have e0 : (AS.mk ((q, TV.own j' m k e) :: s.t) ((j', some cs) :: (j, none) :: s.b)).tv q = .own j' m k e := by simp [AS.tv, look_same]
      rw [e0]
      have hm := h.tm q
      rw [hq] at hm
      obtain ⟨c, e1, e2, e3, e4, e5⟩ := hm.2 cs hj
      refine ⟨⟨_, look_same _ _ _⟩, fun ci hc => ?_⟩
      rw [AS.bx_same] at hc
      cases hc
      simp only [if_true]
      exact ⟨c, e1, e2, e3, e4, e5⟩
    · have e0 : (AS.mk ((q, TV.own j' m k e) :: s.t) ((j', some cs) :: (j, none) :: s.b)).tv i = s.tv i := by simp [AS.tv, look_ne _ _ hi]
      rw [e0]
      refine (h.tm i).agree (Agree.refl _ _) (fun _ _ h => h) ⟨fun z hz => AS.kn_cons (t := s.t) _ (AS.kn_cons (t := s.t) _ hz), fun z cz hk hz => ?_⟩
      rcases hbx z cz hz with ⟨e1, _⟩ | ⟨h1, h2, h3⟩
      · exact absurd e1 (hkn z hk)
      · exact ⟨cz, h3, Nat.le_refl _, by simp only [h1, if_false], fun a1 e1 h4 => ⟨a1, h4, rfl⟩⟩
  · rw [hO]
    rcases hbx i ci hi with ⟨rfl, rfl⟩ | ⟨h1, h2, h3⟩
    · simp only [if_true]
      obtain ⟨h1, arr, e1, h4, h5, h6⟩ := h.bm j ci hj
      exact ⟨h1, arr, e1, h4, h5, fun hb => h6 (by rw [← hw]; exact hb)⟩
    · simp only [h1, if_false]
      exact h.bm i ci h3
  · rcases hbx i ci hi with ⟨e1, _⟩ | ⟨h1, h2, h3⟩ <;> rcases hbx i' ci' hi' with ⟨e1', _⟩ | ⟨h1', h2', h3'⟩
    · rw [e1, e1']
    · rw [if_pos e1, if_neg h1'] at e0
      exact absurd (h.inj j i' cs ci' hj h3' e0).symm h2'
    · rw [if_neg h1, if_pos e1'] at e0
      exact absurd (h.inj i j ci cs h3 hj e0) h2
    · rw [if_neg h1, if_neg h1'] at e0
      exact h.inj i i' ci ci' h3 h3' e0
end
section
variable {P : Program} {T : TypeId → Option Ty} {n : Nat} {ops : Array Oper} {id : Nat} {draw : Bool} {K : AS → Prop} {s : AS} {k : Nat} {o : Oper} {os : List Oper} {fps : List FP}
theorem r_bload {t : TypeId} {ty : Ty} {x : Operand} {i off : Nat} {cs : List AV} {a : AV} (ha : cs[off]? = some a) (h1 : gd ops s o = some true) (h2 : o.op = .load t x) (h5 : T t = some ty) (h6 : ty.agg = false) (h7 : ty.size = 1) (h8 : s.ev x = .box i off) (h9 : s.bx i = some cs)
    (h3 : dstOK n o.dst = true) (h4 : chk draw ops (fpOf ops o ⟨.d (.leaf a), none⟩ [i]) k fps = true) (h : AOps P T n ops id draw K (k + 1) os (s.eff o.dst ⟨.d (.leaf a), none⟩) (fpOf ops o ⟨.d (.leaf a), none⟩ [i] :: fps)) : AOps P T n ops id draw K k (o :: os) s fps := by
  refine r_op h1 ?_ h3 h4 h
  obtain ⟨hl, hg⟩ := List.getElem?_eq_some_iff.1 ha
  have hb : Nat.ble (off + 1) cs.length = true := Nat.ble_eq_true_of_le hl
  have hd : (cs.drop off).take 1 = [a] := by
    rw [List.drop_eq_getElem_cons hl, hg]
    rfl
  unfold astep
  simp only [h2, h5, h8, h9, h6, h7, hb, hd]
  rfl
theorem r_bstore {t : TypeId} {ty : Ty} {x y : Operand} {i off : Nat} {cs cs' : List AV} {a : AV} (hl : off < cs.length) (hs : splice cs off [a] = cs') (h1 : gd ops s o = some true) (h2 : o.op = .store t x y) (h0 : o.dst = none) (h5 : T t = some ty) (h7 : ty.size = 1) (h8 : s.ev x = .box i off) (h9 : s.bx i = some cs) (h10 : dOf (s.ev y) = some (.leaf a)) (h11 : okS i [a] = true)
    (h4 : chk draw ops (fpOf ops o ⟨.junk, some (i, cs')⟩ [i]) k fps = true) (h : AOps P T n ops id draw K (k + 1) os (s.eff o.dst ⟨.junk, some (i, cs')⟩) (fpOf ops o ⟨.junk, some (i, cs')⟩ [i] :: fps)) : AOps P T n ops id draw K k (o :: os) s fps := by
  refine r_op h1 ?_ (by rw [h0]; rfl) h4 h
  have hb : Nat.ble (off + 1) cs.length = true := Nat.ble_eq_true_of_le hl
  unfold astep
  simp only [h0, h2, h5, h8, h9, h7, hb, h10, DV.cells, h11, hs]
  rfl
end
end Go.Proofs.YtecjnnhkbmkemaaGreatDoor
