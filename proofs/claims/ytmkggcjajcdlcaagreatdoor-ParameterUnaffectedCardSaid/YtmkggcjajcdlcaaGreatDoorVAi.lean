/- A region that draws its order, as a set of facts: each operation is shown once, from the facts of those that it waits for. Pow of the program. Facts of a region with one new box: what the slots hold, kept from operation to operation. -/
import Derived.Test.YtmkggcjajcdlcaaGreatDoorVAh
set_option maxHeartbeats 100000000
set_option linter.all false
namespace Go.Proofs.YtmkggcjajcdlcaaGreatDoor
open Go.RowKit
def iM (a:Act):List Tmp->(Tmp->Value)->Act
 | [],_=>a
 |s::ss,x=>iM (a.put (some s) (x s)) ss x
def By (x:Tmp->Value) (s:Tmp) (v:Value):Tmp->Value:=fun k=>if k=s then v else x k
theorem iG (x:Tmp->Value) (s:Tmp) (v:Value):By x s v s=v:=by simp[By]
theorem pY (x:Tmp->Value) {s k:Tmp} (v:Value) (h:k≠s):By x s v k=x k:=by simp[By,h]
theorem sH {l:Array Bool} {i:Nat} (h:i<l.size):(l.setIfInBounds i true).getD i false=true:=by
 simp[h]
theorem gU {l:Array Bool} {i k:Nat} (b:Bool) (h:i≠k):(l.setIfInBounds i true).getD k b=l.getD k b:=by
 simp[h]
section
variable {P:Program} {Q:Exit->Act->World->Prop} {id:Nat} {a:Act} {w:World}
def Rd (ops:Array Oper) (a:Act) (slots:List Tmp) (F:Nat->(Tmp->Value)->World->Prop) (B:(Tmp->Value)->World->Prop) (listed:Array Bool) (a':Act) (w':World):Prop:=
 (∀k o,listed.getD k false=true->ops[k]? =some o-> ∀e∈o.after,Region.binds .any e=true->listed.getD e.on false=true)/\ ∃x,a'=iM a slots x/\B x w'/\ ∀k,listed.getD k false=true->F k x w'
def Ji (ops:Array Oper) (k i:Nat):Bool:=match ops.toList[k]? with|some o=>o.after.toList.any fun e=>Region.binds .any e && e.on == i|none=>false
def Tj (ops:Array Oper) (F:Nat->(Tmp->Value)->World->Prop) (B:(Tmp->Value)->World->Prop) (a:Act) (slots:List Tmp) (i:Nat) (x:Tmp->Value) (w:World) (K:Act->World->Prop):Prop:=
 ∀a' w' x',a'=iM a slots x'->B x' w'->F i x' w'->(∀k,k≠i->k<ops.size->Ji ops k i=false->F k x w->F k x' w')->K a' w'
def QB (o:Oper) (F:Nat->(Tmp->Value)->World->Prop) (x:Tmp->Value) (w:World):Prop:=∀j∈(o.after.toList.filter (Region.binds .any)).map (·.on),F j x w
structure So (p:Prop):Prop where
 out:p
def QS (P:Program) (ops:Array Oper) (Q:Exit->Act->World->Prop) (a:Act) (slots:List Tmp) (F:Nat->(Tmp->Value)->World->Prop) (B:(Tmp->Value)->World->Prop) (o:Oper) (i:Nat):Prop:=
 ∀x w,B x w->QB o F x w-> ∀K,Tj ops F B a slots i x w K ->
  So (if Region.wanted o (yielded ops (iM a slots x).tmps)=true then Oper.wp P o (iM a slots x) w K Q else K ((iM a slots x).put o.dst undef) w)
def qQ (P:Program) (ops:Array Oper) (Q:Exit->Act->World->Prop) (a:Act) (slots:List Tmp) (F:Nat->(Tmp->Value)->World->Prop) (B:(Tmp->Value)->World->Prop):List Oper->Nat->Prop
 | [],_=>True
 |o::os,i=>QS P ops Q a slots F B o i/\qQ P ops Q a slots F B os (i+1)
theorem qQ.at {ops:Array Oper} {slots:List Tmp} {F:Nat->(Tmp->Value)->World->Prop} {B:(Tmp->Value)->World->Prop}:
 ∀(os:List Oper) (n i:Nat) (o:Oper),qQ P ops Q a slots F B os n->os[i]? =some o->QS P ops Q a slots F B o (n+i)
 | [],_,_,_,_,h=>by simp at h
 |o'::os,n,0,o,hs,h=>by simp at h;subst h;exact hs.1
 |o'::os,n,i+1,o,hs,h=>by
  have:=qQ.at os (n+1) i o hs.2 (by simpa using h)
  rwa[show n+(i+1)=n+1+i by omega]
def JX (ops:Array Oper):Bool:=(List.range ops.size).all fun i=>match ops[i]? with|some o=>o.after.all fun e=>!Region.binds .any e || decide (e.on<i)|none=>true
theorem uK {ops:Array Oper} {listed:Array Bool} (ht:JX ops=true) (hl:listed.size=ops.size) (hr:Region.ready .any ops listed=[]):∀k,k<ops.size->listed.getD k false=true:=by
 intro k
 induction k using Nat.strongRecOn with
 |_ k ih=>
  intro hk;cases h:listed.getD k false with
  |true=>rfl
  |false=>
   exfalso
   have hm:k∈Region.ready .any ops listed:=by
    refine mem_ready.2 ⟨?_,ops[k],by simp[hk],fun e he hb=>?_⟩
    ·have hk':k<listed.size:=by omega
     simp[hk']at h ⊢
     exact h
    ·unfold JX at ht
     rw[List.all_eq_true]at ht;have h1:=ht k (List.mem_range.2 hk);rw[show ops[k]? =some ops[k] by simp[hk]]at h1
     simp only[Array.all_eq_true_iff_forall_mem]at h1
     have h2:=h1 e he;rw[hb]at h2
     simp only[Bool.not_true,Bool.false_or,decide_eq_true_eq]at h2
     exact ih e.on h2 (by omega)
   rw[hr]at hm;cases hm
theorem xe {ops:Array Oper} {slots:List Tmp} {F:Nat->(Tmp->Value)->World->Prop} {B:(Tmp->Value)->World->Prop} (ht:JX ops=true)
 (hs:qQ P ops Q a slots F B ops.toList 0)
 (hE:∀x w',B x w'->(∀k,k<ops.size->F k x w')->Q .normal (iM a slots x) w'):
 ∀(fuel:Nat) (listed:Array Bool) (a':Act) (w':World),listed.size=ops.size->listed.toList.count false<=fuel->Rd ops a slots F B listed a' w'->wpAny P .any ops Q fuel listed a' w':=by
 intro fuel
 have fin:∀(listed:Array Bool) (a':Act) (w':World),listed.size=ops.size->Rd ops a slots F B listed a' w'->Region.ready .any ops listed=[]->Q .normal a' w':=by
  intro listed a' w' hl hJ hr;obtain⟨_,x,rfl,hB,hF⟩:=hJ;exact hE x w' hB (fun k hk=>hF k (uK ht hl hr k hk))
 induction fuel with
 |zero=>
  intro listed a' w' hl hc hJ
  have hr:Region.ready .any ops listed=[]:=by
   exact Qf
  exact⟨hr,fin listed a' w' hl hJ hr⟩
 |succ fuel ih=>
  intro listed a' w' hl hc hJ;refine⟨fin listed a' w' hl hJ,fun i hi=>?_⟩;obtain⟨h1,o,ho,hall⟩:=mem_ready.1 hi;have hio:i<ops.size:=(Array.getElem?_eq_some_iff.1 ho).1
  have hil:i<listed.size:=by omega
  obtain⟨hdc,x,rfl,hB,hF⟩:=hJ;have hst:=qQ.at ops.toList 0 i o hs (by simpa using ho);rw[Nat.zero_add]at hst;refine wpOp_step ho (fun K' hK=>?_);refine(hst x w' hB ?_ K' ?_).out
  ·intro j hj
   simp only[List.mem_map,List.mem_filter,Array.mem_toList_iff]at hj
   obtain⟨e,⟨he,hb⟩,rfl⟩:=hj;exact hF _ (hall e he hb)
  ·intro a2 w2 x2 ha hB2 hFi hk
   have hfi:listed.getD i false=false:=by simpa[hil]using h1
   refine hK a2 w2 (ih _ a2 w2 (by simp[hl]) ?_ ⟨fun k ok hk2 hok e he hb=>?_,x2,ha,hB2,fun k hk2=>?_⟩)
   ·have hf:listed[i]=false:=by simpa[hil]using h1
    exact RD
   ·by_cases hei:e.on=i
    ·rw[hei];exact sH hil
    ·rw[gU _ (fun e=>hei e.symm)]
     by_cases hki:k=i
     ·subst hki
      rw[ho]at hok;cases hok;exact hall e he hb
     ·rw[gU _ (fun e=>hki e.symm)]at hk2
      exact hdc k ok hk2 hok e he hb
   ·by_cases hki:k=i
    ·subst hki;exact hFi
    ·rw[gU _ (fun e=>hki e.symm)]at hk2
     have hks:k<ops.size:=by
      rcases Nat.lt_or_ge k listed.size with h|h
      ·omega
      ·simp[Nat.not_lt.2 h]at hk2
     refine hk k hki hks ?_ (hF k hk2);cases hw:Ji ops k i with
     |false=>rfl
     |true=>
      exfalso
      unfold Ji at hw;rw[show ops.toList[k]? =some ops[k] by simp[hks]]at hw
      simp only[List.any_eq_true,Bool.and_eq_true,beq_iff_eq]at hw
      obtain⟨e,he,hb,heq⟩:=hw;have:=hdc k ops[k] hk2 (by simp[hks]) e (by simpa using he) hb;rw[heq,hfi]at this;cases this
theorem G8 (a:Act) (s:Tmp):a.put (some s) (a.tmps.getD s undef)=a:=by
 unfold Act.put
 have:a.tmps.setIfInBounds s (a.tmps.getD s undef)=a.tmps:=by
  apply Array.ext'
  rw[Array.toList_setIfInBounds]
  apply List.ext_getElem?
  intro k;rw[List.getElem?_set]
  split
  ·rename_i e
   subst e
   split
   ·rename_i h
    have h':s<a.tmps.size:=by simpa using h
    simp[h']
   ·rename_i h
    have h':¬s<a.tmps.size:=by simpa using h
    simp[h']
  ·rfl
 show { a with tmps:=a.tmps.setIfInBounds s (a.tmps.getD s undef) }=a;rw[this]
def held (a:Act):Tmp->Value:=fun k=>a.tmps.getD k undef
theorem tZ (a:Act):∀(slots:List Tmp),a=iM a slots (held a)
 | []=>rfl
 |s::ss=>by
  unfold iM;rw[show a.put (some s) (held a s)=a from G8 a s];exact tZ a ss
theorem wG {ops:Array Oper} (hm:P.follows .mixedOrders=true) (ht:JX ops=true) (slots:List Tmp) (F:Nat->(Tmp->Value)->World->Prop) (B:(Tmp->Value)->World->Prop)
 (x0:Tmp->Value) (h0:a=iM a slots x0) (hB:B x0 w.drew)
 (hs:qQ P ops Q a slots F B ops.toList 0)
 (hE:∀x w',B x w'->(∀k,k<ops.size->F k x w')->Q .normal (iM a slots x) w'):(Code.region id ops true).wp P Q a w:=by
 have no:∀k,(Array.replicate ops.size false).getD k false=true->False:=by
  intro k hk;rcases Nat.lt_or_ge k ops.size with h|h
  ·simp[h]at hk
  ·simp[Nat.not_lt.2 h]at hk
 refine wp_region_any hm (xe ht hs hE _ _ _ _ (by simp) ?_ ⟨fun k o hk _=>(no k hk).elim,x0,h0,hB,fun k hk=>(no k hk).elim⟩);rw[Array.toList_replicate,List.count_replicate];simp
end
section
attribute [local go_sem ↓] Go.wp_at_zero Go.wp_at_succ
def Lj (w:World) (v:Value):Prop:=∀g o,v= .pointer (some ⟨g,o,none⟩)->g<w.heap.size
theorem Lj.undef (w:World):Lj w undef:=by intro g o h;cases h
theorem Lj.below {w w':World} {v:Value} (h:Lj w v) (hb:Below w.heap.size w w'):Lj w' v:=fun g o e=>Nat.lt_of_lt_of_le (h g o e) hb.size
def j0 (N:Nat) (w:World) (v y:Value):Prop:=∃g,v= .pointer (some ⟨g,0,none⟩)/\N<=g/\bh w g/\v≠y
def jd (N:Nat) (w:World) (v y:Value) (z:Int):Prop:=∃g,v= .pointer (some ⟨g,0,none⟩)/\N<=g/\bh w g/\ep w g z/\v≠y
theorem bh.new (w:World) (t:TypeId):bh (w.alloc (.cells #[.bool false, .slice none 0 0] t)) w.heap.size:=by
 have h:(w.alloc (.cells #[.bool false, .slice none 0 0] t)).cell? ⟨w.heap.size,0,none⟩=some (.bool false)/\(w.alloc (.cells #[.bool false, .slice none 0 0] t)).cell? ⟨w.heap.size,1,none⟩=some (.slice none 0 0)/\(w.alloc (.cells #[.bool false, .slice none 0 0] t)).frozen? ⟨w.heap.size,0,none⟩=false/\(w.alloc (.cells #[.bool false, .slice none 0 0] t)).frozen? ⟨w.heap.size,1,none⟩=false:=by simp[go_sem]
 exact bh.mk h.1 h.2.1 h.2.2.1 h.2.2.2
theorem bh.lt {w:World} {g:Nat} (h:bh w g):g<w.heap.size:=by
 obtain⟨_,_,h0,_⟩:=h;exact World.block_lt_of_cell? w _ h0
theorem j0.below {N:Nat} {w w':World} {v y:Value} (h:j0 N w v y) (hb:Below w.heap.size w w'):j0 N w' v y:=by
 obtain⟨g,h0,h1,h2,h3⟩:=h;exact⟨g,h0,h1,h2.below hb,h3⟩
theorem jd.below {N:Nat} {w w':World} {v y:Value} {z:Int} (h:jd N w v y z) (hb:Below w.heap.size w w'):jd N w' v y z:=by
 obtain⟨g,h0,h1,h2,h3,h4⟩:=h;exact⟨g,h0,h1,h2.below hb,h3.below hb,h4⟩
theorem it (w:World) (o:Obj):Below w.heap.size w (w.alloc o):=(Below.refl _ _).alloc (Nat.le_refl _) _
theorem bh.any {w:World} {r:Nat} (h:bh w r) (r':Nat) (b:Bool) (A:Option Addr) (n c:Nat):bh ((w.setCell ⟨r',0,none⟩ (.bool b)).setCell ⟨r',1,none⟩ (.slice A n c)) r:=by
 by_cases e:r=r'
 ·subst e;exact h.same _ _ _ _
 ·exact h.far e _ _
def Uf (N:Nat) (s t p q l:Tmp) (va:Value) (z1 z2:Int) (k:Nat) (x:Tmp->Value) (w:World):Prop:=
 match k with
 |0=>dz w (x p) z1
 |1=>x l=va
 |2=>dz w (x q) z2
 |3=>j0 N w (x s) (x t)
 |4=>j0 N w (x t) (x s)
 |5=>jd N w (x s) (x t) z1
 |6=>jd N w (x t) (x s) z2
 |_=>True
section
variable {N:Nat} {s t p q l:Tmp} {va:Value} {z1 z2:Int} {x:Tmp->Value} {w w':World}
theorem Uf.fill {d:Tmp} {v:Value} (hb:Below w.heap.size w w') (hs:d≠s) (ht:d≠t) {k:Nat} (hk:Uf N s t p q l va z1 z2 k x w) (hp:d=p->k≠0) (hl:d=l->k≠1) (hq:d=q->k≠2):Uf N s t p q l va z1 z2 k (By x d v) w':=by
 have es:By x d v s=x s:=pY x v (fun e=>hs e.symm);have et:By x d v t=x t:=pY x v (fun e=>ht e.symm);unfold Uf at *;rw[es,et]
 split <;>simp only at hk
 ·rw[pY x v (fun e=>hp e.symm rfl)];exact dz.below hk hb
 ·rw[pY x v (fun e=>hl e.symm rfl)];exact hk
 ·rw[pY x v (fun e=>hq e.symm rfl)];exact dz.below hk hb
 ·exact hk.below hb
 ·exact hk.below hb
 ·exact hk.below hb
 ·exact hk.below hb
 ·trivial
theorem dz.set2 {w:World} {v:Value} {z:Int} {g:Nat} (h:dz w v z) (hs:bh w g) (u0 u1:Value):dz ((w.setCell ⟨g,0,none⟩ u0).setCell ⟨g,1,none⟩ u1) v z:=by
 obtain⟨A,n,c,h0,h1⟩:=h;exact⟨A,n,c,h0,h1.set2 hs _ _⟩
theorem j0.set2 {v y:Value} (h:j0 N w v y) (g':Nat) (b:Bool) (A:Option Addr) (n c:Nat):j0 N ((w.setCell ⟨g',0,none⟩ (.bool b)).setCell ⟨g',1,none⟩ (.slice A n c)) v y:=by
 obtain⟨g,e0,e1,e2,e3⟩:=h;exact⟨g,e0,e1,e2.any _ _ _ _ _,e3⟩
theorem jd.mk {v y:Value} {z:Int} {g n c:Nat} {A:Option Addr} (e0:v= .pointer (some ⟨g,0,none⟩)) (hN:N<=g) (hs:bh w g) (hz:aC w A n c (digs z.natAbs)) (hne:v≠y):
 jd N ((w.setCell ⟨g,0,none⟩ (.bool (decide (z<0)))).setCell ⟨g,1,none⟩ (.slice A n c)) v y z:=
 ⟨g,e0,hN,hs.same _ _ _ _,ep.intro hz hs,hne⟩
end
def Fd (w:World) (va0 va1:Value) (x:Tmp->Value) (w':World):Prop:=
 (w'.cell? ⟨w.heap.size,0,none⟩=some va0/\w'.cell? ⟨w.heap.size,1,none⟩=some va1/\bh w' (w.heap.size+1)/\aK w w'/\w.heap.size+2<=w'.heap.size)/\Lj w' (x 6)/\Lj w' (x 7)
section
variable {w w1 w2:World} {va0 va1:Value} {x y:Tmp->Value}
theorem Fd.below (h:Fd w va0 va1 x w1) (hb:Below w1.heap.size w1 w2) (h6:Lj w2 (y 6)) (h7:Lj w2 (y 7)):Fd w va0 va1 y w2:=
 ⟨⟨kc h.1.1 hb,kc h.1.2.1 hb,h.1.2.2.1.below hb,h.1.2.2.2.1.more hb,Nat.le_trans h.1.2.2.2.2 hb.size⟩,h6,h7⟩
theorem Fd.more (h:Fd w va0 va1 x w1) (hb:Below w1.heap.size w1 w2) (e6:y 6=x 6) (e7:y 7=x 7):Fd w va0 va1 y w2:=
 h.below hb (by rw[e6];exact h.2.1.below hb) (by rw[e7];exact h.2.2.below hb)
theorem Lj.ne {v:Value} (h:Lj w v): .pointer (some ⟨w.heap.size,0,none⟩)≠v:=fun e=>absurd (h _ _ e.symm) (Nat.lt_irrefl _)
end
theorem aP (a:Int):ap (decide (a<0)) (digs a.natAbs)=a:=by
 unfold ap;rw[ae]
 by_cases h:a<0<;>simp[h]<;>omega
theorem KG {w:World} {z:Int} {A:Option Addr} {n c:Nat} (h:aC w A n c (digs z.natAbs)):dz w (.agg #[.bool (decide (z<0)), .slice A n c]) z:=⟨A,n,c,rfl,h⟩
def N3 (w:World) (g6 g7:Nat) (a b:Int) (wr:World):Prop:=ep wr g6 a/\ep wr g7 b/\bh wr g6/\bh wr g7/\bh wr (w.heap.size+1)/\aK w wr
theorem N3.below {w:World} {g6 g7:Nat} {a b:Int} {w1 w2:World} (h:N3 w g6 g7 a b w1) (hb:Below w1.heap.size w1 w2):N3 w g6 g7 a b w2:=
 ⟨h.1.below hb,h.2.1.below hb,h.2.2.1.below hb,h.2.2.2.1.below hb,h.2.2.2.2.1.below hb,h.2.2.2.2.2.more hb⟩
end
inductive fW where
 |is (l:Tmp) (v:Value)
 |int (p:Tmp) (z:Int)
 |box (s:Tmp)
 |done (s:Tmp) (z:Int)
 |any
def fW.ok (N:Nat) (x:Tmp->Value) (w:World):fW->Prop
 | .is l v=>x l=v
 | .int p z=>dz w (x p) z
 | .box s=>j0 N w (x s) undef
 | .done s z=>jd N w (x s) undef z
 | .any=>True
def fW.off (d:Tmp):fW->Bool
 | .is l _=>l != d
 | .int p _=>p != d
 | .box s=>s != d
 | .done s _=>s != d
 | .any=>true
def fW.isDone:fW->Bool
 | .done _ _=>true
 |_=>false
def kd (N:Nat) (fs:List fW) (k:Nat) (x:Tmp->Value) (w:World):Prop:=(fs.getD k .any).ok N x w
section
variable {N:Nat} {fs:List fW} {x:Tmp->Value} {w w':World} {k:Nat}
theorem fW.fill {f:fW} {d:Tmp} {v:Value} (h:f.ok N x w) (hb:Below w.heap.size w w') (hd:f.off d=true):f.ok N (By x d v) w':=by
 cases f with
 |is l u=>simp only[fW.off,bne_iff_ne,ne_eq]at hd;simp only[fW.ok,pY x v hd]at h ⊢;exact h
 |int p z=>simp only[fW.off,bne_iff_ne,ne_eq]at hd;simp only[fW.ok,pY x v hd]at h ⊢;exact dz.below h hb
 |box s=>simp only[fW.off,bne_iff_ne,ne_eq]at hd;simp only[fW.ok,pY x v hd]at h ⊢;exact h.below hb
 |done s z=>simp only[fW.off,bne_iff_ne,ne_eq]at hd;simp only[fW.ok,pY x v hd]at h ⊢;exact h.below hb
 |any=>trivial
theorem fW.store {f:fW} {g:Nat} {b:Bool} {A:Option Addr} {n c:Nat} (h:f.ok N x w) (hs:bh w g) (hd:f.isDone=false):f.ok N x ((w.setCell ⟨g,0,none⟩ (.bool b)).setCell ⟨g,1,none⟩ (.slice A n c)):=by
 cases f with
 |is l u=>exact h
 |int p z=>exact dz.set2 h hs _ _
 |box s=>exact j0.set2 h _ _ _ _ _
 |done s z=>simp[fW.isDone]at hd
 |any=>trivial
theorem uS (g:Nat):Value.pointer (some ⟨g,0,none⟩)≠undef:=by intro h;cases h
theorem EP {t:TypeId} (hN:N<=w.heap.size):j0 N (w.alloc (.cells #[.bool false, .slice none 0 0] t)) (.pointer (some ⟨w.heap.size,0,none⟩)) undef:=
 ⟨_,rfl,hN,bh.new _ _,uS _⟩
end
structure LU (N:Nat) (S:World->Prop):Prop where
 grow:∀{w w':World},S w->Below w.heap.size w w'->S w'
 store:∀{w:World} {g:Nat} {b:Bool} {A:Option Addr} {n c:Nat},S w->N<=g->bh w g->S ((w.setCell ⟨g,0,none⟩ (.bool b)).setCell ⟨g,1,none⟩ (.slice A n c))
 size:∀{w:World},S w->N<=w.heap.size
def On (fs:List fW) (d:Tmp) (ex:List Nat):Bool:=(List.range fs.length).all fun k=>ex.contains k || (fs.getD k .any).off d
def N4 (fs:List fW) (ex:List Nat):Bool:=(List.range fs.length).all fun k=>ex.contains k || !(fs.getD k .any).isDone
section
variable {N:Nat} {fs:List fW} {x:Tmp->Value} {w w':World} {k:Nat}
theorem kd.fill {d:Tmp} {v:Value} {ex:List Nat} (h:kd N fs k x w) (hb:Below w.heap.size w w') (hoff:On fs d ex=true) (hk:k ∉ ex):kd N fs k (By x d v) w':=by
 unfold kd at *;rcases Nat.lt_or_ge k fs.length with hl|hl
 ·refine fW.fill h hb ?_
  have:=List.all_eq_true.1 hoff k (List.mem_range.2 hl);rw[Bool.or_eq_true]at this;rcases this with h1|h1
  ·exact absurd (by simpa using h1) hk
  ·exact h1
 ·rw[List.getD_eq_getElem?_getD,List.getElem?_eq_none hl];trivial
theorem kd.store {g:Nat} {b:Bool} {A:Option Addr} {n c:Nat} {ex:List Nat} (h:kd N fs k x w) (hs:bh w g) (hno:N4 fs ex=true) (hk:k ∉ ex):kd N fs k x ((w.setCell ⟨g,0,none⟩ (.bool b)).setCell ⟨g,1,none⟩ (.slice A n c)):=by
 unfold kd at *;rcases Nat.lt_or_ge k fs.length with hl|hl
 ·refine fW.store h hs ?_
  have:=List.all_eq_true.1 hno k (List.mem_range.2 hl);rw[Bool.or_eq_true]at this;rcases this with h1|h1
  ·exact absurd (by simpa using h1) hk
  ·simpa using h1
 ·rw[List.getD_eq_getElem?_getD,List.getElem?_eq_none hl];trivial
end
end Go.Proofs.YtmkggcjajcdlcaaGreatDoor
