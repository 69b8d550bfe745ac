/- A region that draws its order, as a set of facts: each operation is shown once, from the facts of those that it waits for. Pow of the program. Facts of a region with one new box: what the slots hold, kept from operation to operation. -/
import Derived.Test.YtmkggcjajcdlcaaGreatDoorEAh
set_option maxHeartbeats 100000000
set_option linter.all false
namespace Go.Proofs.YtmkggcjajcdlcaaGreatDoor
open Go.RowKit
def jn (a:Act):List Tmp->(Tmp->Value)->Act
 | [],_=>a
 |s::ss,x=>jn (a.put (some s) (x s)) ss x
def CE (x:Tmp->Value) (s:Tmp) (v:Value):Tmp->Value:=fun k=>if k=s then v else x k
theorem jl (x:Tmp->Value) (s:Tmp) (v:Value):CE x s v s=v:=by simp[CE]
theorem rn (x:Tmp->Value) {s k:Tmp} (v:Value) (h:k≠s):CE x s v k=x k:=by simp[CE,h]
theorem uD {l:Array Bool} {i:Nat} (h:i<l.size):(l.setIfInBounds i true).getD i false=true:=by
 simp[h]
theorem ie {l:Array Bool} {i k:Nat} (b:Bool) (h:i≠k):(l.setIfInBounds i true).getD k b=l.getD k b:=by
 simp[h]
section
variable {P:Program} {Q:Exit->Act->World->Prop} {id:Nat} {a:Act} {w:World}
def R1 (ops:Array Oper) (a:Act) (slots:List Tmp) (F:Nat->(Tmp->Value)->World->Prop) (B:(Tmp->Value)->World->Prop) (listed:Array Bool) (a':Act) (w':World):Prop:=
 (∀k o,listed.getD k false=true->ops[k]? =some o-> ∀e∈o.after,Region.binds .any e=true->listed.getD e.on false=true)/\ ∃x,a'=jn a slots x/\B x w'/\ ∀k,listed.getD k false=true->F k x w'
def Ky (ops:Array Oper) (k i:Nat):Bool:=match ops.toList[k]? with|some o=>o.after.toList.any fun e=>Region.binds .any e && e.on == i|none=>false
def UE (ops:Array Oper) (F:Nat->(Tmp->Value)->World->Prop) (B:(Tmp->Value)->World->Prop) (a:Act) (slots:List Tmp) (i:Nat) (x:Tmp->Value) (w:World) (K:Act->World->Prop):Prop:=
 ∀a' w' x',a'=jn a slots x'->B x' w'->F i x' w'->(∀k,k≠i->k<ops.size->Ky ops k i=false->F k x w->F k x' w')->K a' w'
def RF (o:Oper) (F:Nat->(Tmp->Value)->World->Prop) (x:Tmp->Value) (w:World):Prop:=∀j∈(o.after.toList.filter (Region.binds .any)).map (·.on),F j x w
structure Ub (p:Prop):Prop where
 out:p
def R3 (P:Program) (ops:Array Oper) (Q:Exit->Act->World->Prop) (a:Act) (slots:List Tmp) (F:Nat->(Tmp->Value)->World->Prop) (B:(Tmp->Value)->World->Prop) (o:Oper) (i:Nat):Prop:=
 ∀x w,B x w->RF o F x w-> ∀K,UE ops F B a slots i x w K ->
  Ub (if Region.wanted o (yielded ops (jn a slots x).tmps)=true then Oper.wp P o (jn a slots x) w K Q else K ((jn a slots x).put o.dst undef) w)
def sV (P:Program) (ops:Array Oper) (Q:Exit->Act->World->Prop) (a:Act) (slots:List Tmp) (F:Nat->(Tmp->Value)->World->Prop) (B:(Tmp->Value)->World->Prop):List Oper->Nat->Prop
 | [],_=>True
 |o::os,i=>R3 P ops Q a slots F B o i/\sV P ops Q a slots F B os (i+1)
theorem sV.at {ops:Array Oper} {slots:List Tmp} {F:Nat->(Tmp->Value)->World->Prop} {B:(Tmp->Value)->World->Prop}:
 ∀(os:List Oper) (n i:Nat) (o:Oper),sV P ops Q a slots F B os n->os[i]? =some o->R3 P ops Q a slots F B o (n+i)
 | [],_,_,_,_,h=>by simp at h
 |o'::os,n,0,o,hs,h=>by simp at h;subst h;exact hs.1
 |o'::os,n,i+1,o,hs,h=>by
  have:=sV.at os (n+1) i o hs.2 (by simpa using h)
  rwa[show n+(i+1)=n+1+i by omega]
def Mf (ops:Array Oper):Bool:=(List.range ops.size).all fun i=>match ops[i]? with|some o=>o.after.all fun e=>!Region.binds .any e || decide (e.on<i)|none=>true
theorem xu {ops:Array Oper} {listed:Array Bool} (ht:Mf ops=true) (hl:listed.size=ops.size) (hr:Region.ready .any ops listed=[]):∀k,k<ops.size->listed.getD k false=true:=by
 intro k
 induction k using Nat.strongRecOn with
 |_ k ih=>
  intro hk;cases h:listed.getD k false with
  |true=>rfl
  |false=>
   exfalso
   have hm:k∈Region.ready .any ops listed:=by
    refine mem_ready.2 ⟨?_,ops[k],by simp[hk],fun e he hb=>?_⟩
    ·have hk':k<listed.size:=by omega
     simp[hk']at h ⊢
     exact h
    ·unfold Mf at ht
     rw[List.all_eq_true]at ht;have h1:=ht k (List.mem_range.2 hk);rw[show ops[k]? =some ops[k] by simp[hk]]at h1
     simp only[Array.all_eq_true_iff_forall_mem]at h1
     have h2:=h1 e he;rw[hb]at h2
     simp only[Bool.not_true,Bool.false_or,decide_eq_true_eq]at h2
     exact ih e.on h2 (by omega)
   rw[hr]at hm;cases hm
theorem zg {ops:Array Oper} {slots:List Tmp} {F:Nat->(Tmp->Value)->World->Prop} {B:(Tmp->Value)->World->Prop} (ht:Mf ops=true)
 (hs:sV P ops Q a slots F B ops.toList 0)
 (hE:∀x w',B x w'->(∀k,k<ops.size->F k x w')->Q .normal (jn a slots x) w'):
 ∀(fuel:Nat) (listed:Array Bool) (a':Act) (w':World),listed.size=ops.size->listed.toList.count false<=fuel->R1 ops a slots F B listed a' w'->wpAny P .any ops Q fuel listed a' w':=by
 intro fuel
 have fin:∀(listed:Array Bool) (a':Act) (w':World),listed.size=ops.size->R1 ops a slots F B listed a' w'->Region.ready .any ops listed=[]->Q .normal a' w':=by
  intro listed a' w' hl hJ hr;obtain⟨_,x,rfl,hB,hF⟩:=hJ;exact hE x w' hB (fun k hk=>hF k (xu ht hl hr k hk))
 induction fuel with
 |zero=>
  intro listed a' w' hl hc hJ
  have hr:Region.ready .any ops listed=[]:=by
   exact Sa
  exact⟨hr,fin listed a' w' hl hJ hr⟩
 |succ fuel ih=>
  intro listed a' w' hl hc hJ;refine⟨fin listed a' w' hl hJ,fun i hi=>?_⟩;obtain⟨h1,o,ho,hall⟩:=mem_ready.1 hi;have hio:i<ops.size:=(Array.getElem?_eq_some_iff.1 ho).1
  have hil:i<listed.size:=by omega
  obtain⟨hdc,x,rfl,hB,hF⟩:=hJ;have hst:=sV.at ops.toList 0 i o hs (by simpa using ho);rw[Nat.zero_add]at hst;refine wpOp_step ho (fun K' hK=>?_);refine(hst x w' hB ?_ K' ?_).out
  ·intro j hj
   simp only[List.mem_map,List.mem_filter,Array.mem_toList_iff]at hj
   obtain⟨e,⟨he,hb⟩,rfl⟩:=hj;exact hF _ (hall e he hb)
  ·intro a2 w2 x2 ha hB2 hFi hk
   have hfi:listed.getD i false=false:=by simpa[hil]using h1
   refine hK a2 w2 (ih _ a2 w2 (by simp[hl]) ?_ ⟨fun k ok hk2 hok e he hb=>?_,x2,ha,hB2,fun k hk2=>?_⟩)
   ·have hf:listed[i]=false:=by simpa[hil]using h1
    exact SY
   ·by_cases hei:e.on=i
    ·rw[hei];exact uD hil
    ·rw[ie _ (fun e=>hei e.symm)]
     by_cases hki:k=i
     ·subst hki
      rw[ho]at hok;cases hok;exact hall e he hb
     ·rw[ie _ (fun e=>hki e.symm)]at hk2
      exact hdc k ok hk2 hok e he hb
   ·by_cases hki:k=i
    ·subst hki;exact hFi
    ·rw[ie _ (fun e=>hki e.symm)]at hk2
     have hks:k<ops.size:=by
      rcases Nat.lt_or_ge k listed.size with h|h
      ·omega
      ·simp[Nat.not_lt.2 h]at hk2
     refine hk k hki hks ?_ (hF k hk2);cases hw:Ky ops k i with
     |false=>rfl
     |true=>
      exfalso
      unfold Ky at hw;rw[show ops.toList[k]? =some ops[k] by simp[hks]]at hw
      simp only[List.any_eq_true,Bool.and_eq_true,beq_iff_eq]at hw
      obtain⟨e,he,hb,heq⟩:=hw;have:=hdc k ops[k] hk2 (by simp[hks]) e (by simpa using he) hb;rw[heq,hfi]at this;cases this
theorem J6 (a:Act) (s:Tmp):a.put (some s) (a.tmps.getD s undef)=a:=by
 unfold Act.put
 have:a.tmps.setIfInBounds s (a.tmps.getD s undef)=a.tmps:=by
  apply Array.ext'
  rw[Array.toList_setIfInBounds]
  apply List.ext_getElem?
  intro k;rw[List.getElem?_set]
  split
  ·rename_i e
   subst e
   split
   ·rename_i h
    have h':s<a.tmps.size:=by simpa using h
    simp[h']
   ·rename_i h
    have h':¬s<a.tmps.size:=by simpa using h
    simp[h']
  ·rfl
 show { a with tmps:=a.tmps.setIfInBounds s (a.tmps.getD s undef) }=a;rw[this]
def held (a:Act):Tmp->Value:=fun k=>a.tmps.getD k undef
theorem vI (a:Act):∀(slots:List Tmp),a=jn a slots (held a)
 | []=>rfl
 |s::ss=>by
  unfold jn;rw[show a.put (some s) (held a s)=a from J6 a s];exact vI a ss
theorem yv {ops:Array Oper} (hm:P.follows .mixedOrders=true) (ht:Mf ops=true) (slots:List Tmp) (F:Nat->(Tmp->Value)->World->Prop) (B:(Tmp->Value)->World->Prop)
 (x0:Tmp->Value) (h0:a=jn a slots x0) (hB:B x0 w.drew)
 (hs:sV P ops Q a slots F B ops.toList 0)
 (hE:∀x w',B x w'->(∀k,k<ops.size->F k x w')->Q .normal (jn a slots x) w'):(Code.region id ops true).wp P Q a w:=by
 have no:∀k,(Array.replicate ops.size false).getD k false=true->False:=by
  intro k hk;rcases Nat.lt_or_ge k ops.size with h|h
  ·simp[h]at hk
  ·simp[Nat.not_lt.2 h]at hk
 refine wp_region_any hm (zg ht hs hE _ _ _ _ (by simp) ?_ ⟨fun k o hk _=>(no k hk).elim,x0,h0,hB,fun k hk=>(no k hk).elim⟩);rw[Array.toList_replicate,List.count_replicate];simp
end
section
attribute [local go_sem ↓] Go.wp_at_zero Go.wp_at_succ
def ke (N:Nat) (w:World) (v y:Value):Prop:=∃g,v= .pointer (some ⟨g,0,none⟩)/\N<=g/\bC w g/\v≠y
def jL (N:Nat) (w:World) (v y:Value) (z:Int):Prop:=∃g,v= .pointer (some ⟨g,0,none⟩)/\N<=g/\bC w g/\fv w g z/\v≠y
theorem bC.new (w:World) (t:TypeId):bC (w.alloc (.cells #[.bool false, .slice none 0 0] t)) w.heap.size:=by
 have h:(w.alloc (.cells #[.bool false, .slice none 0 0] t)).cell? ⟨w.heap.size,0,none⟩=some (.bool false)/\(w.alloc (.cells #[.bool false, .slice none 0 0] t)).cell? ⟨w.heap.size,1,none⟩=some (.slice none 0 0)/\(w.alloc (.cells #[.bool false, .slice none 0 0] t)).frozen? ⟨w.heap.size,0,none⟩=false/\(w.alloc (.cells #[.bool false, .slice none 0 0] t)).frozen? ⟨w.heap.size,1,none⟩=false:=by simp[go_sem]
 exact bC.mk h.1 h.2.1 h.2.2.1 h.2.2.2
theorem bC.lt {w:World} {g:Nat} (h:bC w g):g<w.heap.size:=by
 obtain⟨_,_,h0,_⟩:=h;exact World.block_lt_of_cell? w _ h0
theorem ke.below {N:Nat} {w w':World} {v y:Value} (h:ke N w v y) (hb:Below w.heap.size w w'):ke N w' v y:=by
 obtain⟨g,h0,h1,h2,h3⟩:=h;exact⟨g,h0,h1,h2.below hb,h3⟩
theorem jL.below {N:Nat} {w w':World} {v y:Value} {z:Int} (h:jL N w v y z) (hb:Below w.heap.size w w'):jL N w' v y z:=by
 obtain⟨g,h0,h1,h2,h3,h4⟩:=h;exact⟨g,h0,h1,h2.below hb,h3.below hb,h4⟩
theorem iO (w:World) (o:Obj):Below w.heap.size w (w.alloc o):=(Below.refl _ _).alloc (Nat.le_refl _) _
theorem bC.any {w:World} {r:Nat} (h:bC w r) (r':Nat) (b:Bool) (A:Option Addr) (n c:Nat):bC ((w.setCell ⟨r',0,none⟩ (.bool b)).setCell ⟨r',1,none⟩ (.slice A n c)) r:=by
 by_cases e:r=r'
 ·subst e;exact h.same _ _ _ _
 ·exact h.far e _ _
section
variable {N:Nat} {s t p q l:Tmp} {va:Value} {z1 z2:Int} {x:Tmp->Value} {w w':World}
theorem ef.set2 {w:World} {v:Value} {z:Int} {g:Nat} (h:ef w v z) (hs:bC w g) (u0 u1:Value):ef ((w.setCell ⟨g,0,none⟩ u0).setCell ⟨g,1,none⟩ u1) v z:=by
 obtain⟨A,n,c,h0,h1⟩:=h;exact⟨A,n,c,h0,h1.set2 hs _ _⟩
theorem ke.set2 {v y:Value} (h:ke N w v y) (g':Nat) (b:Bool) (A:Option Addr) (n c:Nat):ke N ((w.setCell ⟨g',0,none⟩ (.bool b)).setCell ⟨g',1,none⟩ (.slice A n c)) v y:=by
 obtain⟨g,e0,e1,e2,e3⟩:=h;exact⟨g,e0,e1,e2.any _ _ _ _ _,e3⟩
theorem jL.mk {v y:Value} {z:Int} {g n c:Nat} {A:Option Addr} (e0:v= .pointer (some ⟨g,0,none⟩)) (hN:N<=g) (hs:bC w g) (hz:aJ w A n c (digs z.natAbs)) (hne:v≠y):
 jL N ((w.setCell ⟨g,0,none⟩ (.bool (decide (z<0)))).setCell ⟨g,1,none⟩ (.slice A n c)) v y z:=
 ⟨g,e0,hN,hs.same _ _ _ _,fv.intro hz hs,hne⟩
end
section
variable {w w1 w2:World} {va0 va1:Value} {x y:Tmp->Value}
end
theorem aX (a:Int):ar (decide (a<0)) (digs a.natAbs)=a:=by
 unfold ar;rw[af]
 by_cases h:a<0<;>simp[h]<;>omega
end
inductive gw where
 |is (l:Tmp) (v:Value)
 |int (p:Tmp) (z:Int)
 |box (s:Tmp)
 |done (s:Tmp) (z:Int)
 |any
def gw.ok (N:Nat) (x:Tmp->Value) (w:World):gw->Prop
 | .is l v=>x l=v
 | .int p z=>ef w (x p) z
 | .box s=>ke N w (x s) undef
 | .done s z=>jL N w (x s) undef z
 | .any=>True
def gw.off (d:Tmp):gw->Bool
 | .is l _=>l != d
 | .int p _=>p != d
 | .box s=>s != d
 | .done s _=>s != d
 | .any=>true
def gw.isDone:gw->Bool
 | .done _ _=>true
 |_=>false
def lI (N:Nat) (fs:List gw) (k:Nat) (x:Tmp->Value) (w:World):Prop:=(fs.getD k .any).ok N x w
section
variable {N:Nat} {fs:List gw} {x:Tmp->Value} {w w':World} {k:Nat}
theorem gw.fill {f:gw} {d:Tmp} {v:Value} (h:f.ok N x w) (hb:Below w.heap.size w w') (hd:f.off d=true):f.ok N (CE x d v) w':=by
 cases f with
 |is l u=>simp only[gw.off,bne_iff_ne,ne_eq]at hd;simp only[gw.ok,rn x v hd]at h ⊢;exact h
 |int p z=>simp only[gw.off,bne_iff_ne,ne_eq]at hd;simp only[gw.ok,rn x v hd]at h ⊢;exact ef.below h hb
 |box s=>simp only[gw.off,bne_iff_ne,ne_eq]at hd;simp only[gw.ok,rn x v hd]at h ⊢;exact h.below hb
 |done s z=>simp only[gw.off,bne_iff_ne,ne_eq]at hd;simp only[gw.ok,rn x v hd]at h ⊢;exact h.below hb
 |any=>trivial
theorem gw.store {f:gw} {g:Nat} {b:Bool} {A:Option Addr} {n c:Nat} (h:f.ok N x w) (hs:bC w g) (hd:f.isDone=false):f.ok N x ((w.setCell ⟨g,0,none⟩ (.bool b)).setCell ⟨g,1,none⟩ (.slice A n c)):=by
 cases f with
 |is l u=>exact h
 |int p z=>exact ef.set2 h hs _ _
 |box s=>exact ke.set2 h _ _ _ _ _
 |done s z=>simp[gw.isDone]at hd
 |any=>trivial
theorem xM (g:Nat):Value.pointer (some ⟨g,0,none⟩)≠undef:=by intro h;cases h
theorem Gf {t:TypeId} (hN:N<=w.heap.size):ke N (w.alloc (.cells #[.bool false, .slice none 0 0] t)) (.pointer (some ⟨w.heap.size,0,none⟩)) undef:=
 ⟨_,rfl,hN,bC.new _ _,xM _⟩
end
structure Pu (N:Nat) (S:World->Prop):Prop where
 grow:∀{w w':World},S w->Below w.heap.size w w'->S w'
 store:∀{w:World} {g:Nat} {b:Bool} {A:Option Addr} {n c:Nat},S w->N<=g->bC w g->S ((w.setCell ⟨g,0,none⟩ (.bool b)).setCell ⟨g,1,none⟩ (.slice A n c))
 size:∀{w:World},S w->N<=w.heap.size
def Qb (fs:List gw) (d:Tmp) (ex:List Nat):Bool:=(List.range fs.length).all fun k=>ex.contains k || (fs.getD k .any).off d
def Qm (fs:List gw) (ex:List Nat):Bool:=(List.range fs.length).all fun k=>ex.contains k || !(fs.getD k .any).isDone
section
variable {N:Nat} {fs:List gw} {x:Tmp->Value} {w w':World} {k:Nat}
theorem lI.fill {d:Tmp} {v:Value} {ex:List Nat} (h:lI N fs k x w) (hb:Below w.heap.size w w') (hoff:Qb fs d ex=true) (hk:k ∉ ex):lI N fs k (CE x d v) w':=by
 unfold lI at *;rcases Nat.lt_or_ge k fs.length with hl|hl
 ·refine gw.fill h hb ?_
  have:=List.all_eq_true.1 hoff k (List.mem_range.2 hl);rw[Bool.or_eq_true]at this;rcases this with h1|h1
  ·exact absurd (by simpa using h1) hk
  ·exact h1
 ·rw[List.getD_eq_getElem?_getD,List.getElem?_eq_none hl];trivial
theorem lI.store {g:Nat} {b:Bool} {A:Option Addr} {n c:Nat} {ex:List Nat} (h:lI N fs k x w) (hs:bC w g) (hno:Qm fs ex=true) (hk:k ∉ ex):lI N fs k x ((w.setCell ⟨g,0,none⟩ (.bool b)).setCell ⟨g,1,none⟩ (.slice A n c)):=by
 unfold lI at *;rcases Nat.lt_or_ge k fs.length with hl|hl
 ·refine gw.store h hs ?_
  have:=List.all_eq_true.1 hno k (List.mem_range.2 hl);rw[Bool.or_eq_true]at this;rcases this with h1|h1
  ·exact absurd (by simpa using h1) hk
  ·simpa using h1
 ·rw[List.getD_eq_getElem?_getD,List.getElem?_eq_none hl];trivial
end
end Go.Proofs.YtmkggcjajcdlcaaGreatDoor
