/- A region that draws its order, as a set of facts: each operation is shown once, from the facts of those that it waits for. Pow of the program. Facts of a region with one new box: what the slots hold, kept from operation to operation. -/
import Derived.Test.YtnchbpoopnjghaaGreatDoorCAh
set_option maxHeartbeats 100000000
set_option maxRecDepth 100000
set_option linter.all false
open Go.Proofs.Tryz
namespace Go.Proofs.YtnchbpoopnjghaaGreatDoor
open Go.RowKit
def nL (a:Act):List Tmp->(Tmp->Value)->Act
 | [],_=>a
 |s::ss,x=>nL (a.put (some s) (x s)) ss x
def s8 (x:Tmp->Value) (s:Tmp) (v:Value):Tmp->Value:=fun k=>if k=s then v else x k
theorem gi (x:Tmp->Value) (s:Tmp) (v:Value):s8 x s v s=v:=by simp[s8]
theorem dK (x:Tmp->Value) {s k:Tmp} (v:Value) (h:k≠s):s8 x s v k=x k:=by simp[s8,h]
theorem sI {l:Array Bool} {i:Nat} (h:i<l.size):(l.setIfInBounds i true).getD i false=true:=by
 simp[h]
theorem gk {l:Array Bool} {i k:Nat} (b:Bool) (h:i≠k):(l.setIfInBounds i true).getD k b=l.getD k b:=by
 simp[h]
section
variable {P:Program} {Q:Exit->Act->World->Prop} {id:Nat} {a:Act} {w:World}
def Rr (ops:Array Oper) (a:Act) (slots:List Tmp) (F:Nat->(Tmp->Value)->World->Prop) (B:(Tmp->Value)->World->Prop) (listed:Array Bool) (a':Act) (w':World):Prop:=
 (∀k o,listed.getD k false=true->ops[k]? =some o-> ∀e∈o.after,Region.binds .any e=true->listed.getD e.on false=true)/\ ∃x,a'=nL a slots x/\B x w'/\ ∀k,listed.getD k false=true->F k x w'
def FQ (ops:Array Oper) (k i:Nat):Bool:=match ops.toList[k]? with|some o=>o.after.toList.any fun e=>Region.binds .any e && e.on == i|none=>false
def TB (ops:Array Oper) (F:Nat->(Tmp->Value)->World->Prop) (B:(Tmp->Value)->World->Prop) (a:Act) (slots:List Tmp) (i:Nat) (x:Tmp->Value) (w:World) (K:Act->World->Prop):Prop:=
 ∀a' w' x',a'=nL a slots x'->B x' w'->F i x' w'->(∀k,k≠i->k<ops.size->FQ ops k i=false->F k x w->F k x' w')->K a' w'
def Qu (o:Oper) (F:Nat->(Tmp->Value)->World->Prop) (x:Tmp->Value) (w:World):Prop:=∀j∈(o.after.toList.filter (Region.binds .any)).map (·.on),F j x w
structure Sv (p:Prop):Prop where
 out:p
def R4 (P:Program) (ops:Array Oper) (Q:Exit->Act->World->Prop) (a:Act) (slots:List Tmp) (F:Nat->(Tmp->Value)->World->Prop) (B:(Tmp->Value)->World->Prop) (o:Oper) (i:Nat):Prop:=
 ∀x w,B x w->Qu o F x w-> ∀K,TB ops F B a slots i x w K ->
  Sv (if Region.wanted o (yielded ops (nL a slots x).tmps)=true then Oper.wp P o (nL a slots x) w K Q else K ((nL a slots x).put o.dst undef) w)
def qu (P:Program) (ops:Array Oper) (Q:Exit->Act->World->Prop) (a:Act) (slots:List Tmp) (F:Nat->(Tmp->Value)->World->Prop) (B:(Tmp->Value)->World->Prop):List Oper->Nat->Prop
 | [],_=>True
 |o::os,i=>R4 P ops Q a slots F B o i/\qu P ops Q a slots F B os (i+1)
theorem qu.at {ops:Array Oper} {slots:List Tmp} {F:Nat->(Tmp->Value)->World->Prop} {B:(Tmp->Value)->World->Prop}:
 ∀(os:List Oper) (n i:Nat) (o:Oper),qu P ops Q a slots F B os n->os[i]? =some o->R4 P ops Q a slots F B o (n+i)
 | [],_,_,_,_,h=>by simp at h
 |o'::os,n,0,o,hs,h=>by simp at h;subst h;exact hs.1
 |o'::os,n,i+1,o,hs,h=>by
  have:=qu.at os (n+1) i o hs.2 (by simpa using h)
  rwa[show n+(i+1)=n+1+i by omega]
def I8 (ops:Array Oper):Bool:=(List.range ops.size).all fun i=>match ops[i]? with|some o=>o.after.all fun e=>!Region.binds .any e || decide (e.on<i)|none=>true
theorem vM {ops:Array Oper} {listed:Array Bool} (ht:I8 ops=true) (hl:listed.size=ops.size) (hr:Region.ready .any ops listed=[]):∀k,k<ops.size->listed.getD k false=true:=by
 intro k
 induction k using Nat.strongRecOn with
 |_ k ih=>
  intro hk;cases h:listed.getD k false with
  |true=>rfl
  |false=>
   exfalso
   have hm:k∈Region.ready .any ops listed:=by
    refine mem_ready.2 ⟨?_,ops[k],by simp[hk],fun e he hb=>?_⟩
    ·have hk':k<listed.size:=by omega
     simp[hk']at h ⊢
     exact h
    ·unfold I8 at ht
     rw[List.all_eq_true]at ht;have h1:=ht k (List.mem_range.2 hk);rw[show ops[k]? =some ops[k] by simp[hk]]at h1
     simp only[Array.all_eq_true_iff_forall_mem]at h1
     have h2:=h1 e he;rw[hb]at h2
     simp only[Bool.not_true,Bool.false_or,decide_eq_true_eq]at h2
     exact ih e.on h2 (by omega)
   rw[hr]at hm;cases hm
theorem x9 {ops:Array Oper} {slots:List Tmp} {F:Nat->(Tmp->Value)->World->Prop} {B:(Tmp->Value)->World->Prop} (ht:I8 ops=true)
 (hs:qu P ops Q a slots F B ops.toList 0)
 (hE:∀x w',B x w'->(∀k,k<ops.size->F k x w')->Q .normal (nL a slots x) w'):
 ∀(fuel:Nat) (listed:Array Bool) (a':Act) (w':World),listed.size=ops.size->listed.toList.count false<=fuel->Rr ops a slots F B listed a' w'->wpAny P .any ops Q fuel listed a' w':=by
 intro fuel
 have fin:∀(listed:Array Bool) (a':Act) (w':World),listed.size=ops.size->Rr ops a slots F B listed a' w'->Region.ready .any ops listed=[]->Q .normal a' w':=by
  intro listed a' w' hl hJ hr;obtain⟨_,x,rfl,hB,hF⟩:=hJ;exact hE x w' hB (fun k hk=>hF k (vM ht hl hr k hk))
 induction fuel with
 |zero=>
  intro listed a' w' hl hc hJ
  have hr:Region.ready .any ops listed=[]:=by
   exact PV
  exact⟨hr,fin listed a' w' hl hJ hr⟩
 |succ fuel ih=>
  intro listed a' w' hl hc hJ;refine⟨fin listed a' w' hl hJ,fun i hi=>?_⟩;obtain⟨h1,o,ho,hall⟩:=mem_ready.1 hi;have hio:i<ops.size:=(Array.getElem?_eq_some_iff.1 ho).1
  have hil:i<listed.size:=by omega
  obtain⟨hdc,x,rfl,hB,hF⟩:=hJ;have hst:=qu.at ops.toList 0 i o hs (by simpa using ho);rw[Nat.zero_add]at hst;refine wpOp_step ho (fun K' hK=>?_);refine(hst x w' hB ?_ K' ?_).out
  ·intro j hj
   simp only[List.mem_map,List.mem_filter,Array.mem_toList_iff]at hj
   obtain⟨e,⟨he,hb⟩,rfl⟩:=hj;exact hF _ (hall e he hb)
  ·intro a2 w2 x2 ha hB2 hFi hk
   have hfi:listed.getD i false=false:=by simpa[hil]using h1
   refine hK a2 w2 (ih _ a2 w2 (by simp[hl]) ?_ ⟨fun k ok hk2 hok e he hb=>?_,x2,ha,hB2,fun k hk2=>?_⟩)
   ·have hf:listed[i]=false:=by simpa[hil]using h1
    exact S6
   ·by_cases hei:e.on=i
    ·rw[hei];exact sI hil
    ·rw[gk _ (fun e=>hei e.symm)]
     by_cases hki:k=i
     ·subst hki
      rw[ho]at hok;cases hok;exact hall e he hb
     ·rw[gk _ (fun e=>hki e.symm)]at hk2
      exact hdc k ok hk2 hok e he hb
   ·by_cases hki:k=i
    ·subst hki;exact hFi
    ·rw[gk _ (fun e=>hki e.symm)]at hk2
     have hks:k<ops.size:=by
      rcases Nat.lt_or_ge k listed.size with h|h
      ·omega
      ·simp[Nat.not_lt.2 h]at hk2
     refine hk k hki hks ?_ (hF k hk2);cases hw:FQ ops k i with
     |false=>rfl
     |true=>
      exfalso
      unfold FQ at hw;rw[show ops.toList[k]? =some ops[k] by simp[hks]]at hw
      simp only[List.any_eq_true,Bool.and_eq_true,beq_iff_eq]at hw
      obtain⟨e,he,hb,heq⟩:=hw;have:=hdc k ops[k] hk2 (by simp[hks]) e (by simpa using he) hb;rw[heq,hfi]at this;cases this
theorem GY (a:Act) (s:Tmp):a.put (some s) (a.tmps.getD s undef)=a:=by
 unfold Act.put
 have:a.tmps.setIfInBounds s (a.tmps.getD s undef)=a.tmps:=by
  apply Array.ext'
  rw[Array.toList_setIfInBounds]
  apply List.ext_getElem?
  intro k;rw[List.getElem?_set]
  split
  ·rename_i e
   subst e
   split
   ·rename_i h
    have h':s<a.tmps.size:=by simpa using h
    simp[h']
   ·rename_i h
    have h':¬s<a.tmps.size:=by simpa using h
    simp[h']
  ·rfl
 show { a with tmps:=a.tmps.setIfInBounds s (a.tmps.getD s undef) }=a;rw[this]
def held (a:Act):Tmp->Value:=fun k=>a.tmps.getD k undef
theorem tP (a:Act):∀(slots:List Tmp),a=nL a slots (held a)
 | []=>rfl
 |s::ss=>by
  unfold nL;rw[show a.put (some s) (held a s)=a from GY a s];exact tP a ss
theorem ut {ops:Array Oper} (hm:P.follows .mixedOrders=true) (ht:I8 ops=true) (slots:List Tmp) (F:Nat->(Tmp->Value)->World->Prop) (B:(Tmp->Value)->World->Prop)
 (x0:Tmp->Value) (h0:a=nL a slots x0) (hB:B x0 w.drew)
 (hs:qu P ops Q a slots F B ops.toList 0)
 (hE:∀x w',B x w'->(∀k,k<ops.size->F k x w')->Q .normal (nL a slots x) w'):(Code.region id ops true).wp P Q a w:=by
 have no:∀k,(Array.replicate ops.size false).getD k false=true->False:=by
  intro k hk;rcases Nat.lt_or_ge k ops.size with h|h
  ·simp[h]at hk
  ·simp[Nat.not_lt.2 h]at hk
 refine wp_region_any hm (x9 ht hs hE _ _ _ _ (by simp) ?_ ⟨fun k o hk _=>(no k hk).elim,x0,h0,hB,fun k hk=>(no k hk).elim⟩);rw[Array.toList_replicate,List.count_replicate];simp
end
section
attribute [local go_sem ↓] Go.wp_at_zero Go.wp_at_succ
def tj (w:World) (v:Value):Prop:=∀g o,v= .pointer (some ⟨g,o,none⟩)->g<w.heap.size
theorem tj.undef (w:World):tj w undef:=by intro g o h;cases h
theorem tj.below {w w':World} {v:Value} (h:tj w v) (hb:Below w.heap.size w w'):tj w' v:=fun g o e=>Nat.lt_of_lt_of_le (h g o e) hb.size
theorem tj.set2 {w:World} {v:Value} (h:tj w v) (g:Nat) (u0 u1:Value):tj ((w.setCell ⟨g,0,none⟩ u0).setCell ⟨g,1,none⟩ u1) v:=fun g' o e=>by
 have:=h g' o e
 simpa using this
def jW (N:Nat) (w:World) (v y:Value):Prop:=∃g,v= .pointer (some ⟨g,0,none⟩)/\N<=g/\bB w g/\v≠y
def dV (N:Nat) (w:World) (v y:Value) (z:Int):Prop:=∃g,v= .pointer (some ⟨g,0,none⟩)/\N<=g/\bB w g/\fb w g z/\v≠y
theorem bB.new (w:World) (t:TypeId):bB (w.alloc (.cells #[.bool false, .slice none 0 0] t)) w.heap.size:=by
 have h:(w.alloc (.cells #[.bool false, .slice none 0 0] t)).cell? ⟨w.heap.size,0,none⟩=some (.bool false)/\(w.alloc (.cells #[.bool false, .slice none 0 0] t)).cell? ⟨w.heap.size,1,none⟩=some (.slice none 0 0)/\(w.alloc (.cells #[.bool false, .slice none 0 0] t)).frozen? ⟨w.heap.size,0,none⟩=false/\(w.alloc (.cells #[.bool false, .slice none 0 0] t)).frozen? ⟨w.heap.size,1,none⟩=false:=by simp[go_sem]
 exact bB.mk h.1 h.2.1 h.2.2.1 h.2.2.2
theorem bB.lt {w:World} {g:Nat} (h:bB w g):g<w.heap.size:=by
 obtain⟨_,_,h0,_⟩:=h;exact World.block_lt_of_cell? w _ h0
theorem jW.below {N:Nat} {w w':World} {v y:Value} (h:jW N w v y) (hb:Below w.heap.size w w'):jW N w' v y:=by
 obtain⟨g,h0,h1,h2,h3⟩:=h;exact⟨g,h0,h1,h2.below hb,h3⟩
theorem dV.below {N:Nat} {w w':World} {v y:Value} {z:Int} (h:dV N w v y z) (hb:Below w.heap.size w w'):dV N w' v y z:=by
 obtain⟨g,h0,h1,h2,h3,h4⟩:=h;exact⟨g,h0,h1,h2.below hb,h3.below hb,h4⟩
theorem bH (w:World) (o:Obj):Below w.heap.size w (w.alloc o):=(Below.refl _ _).alloc (Nat.le_refl _) _
theorem bB.any {w:World} {r:Nat} (h:bB w r) (r':Nat) (b:Bool) (A:Option Addr) (n c:Nat):bB ((w.setCell ⟨r',0,none⟩ (.bool b)).setCell ⟨r',1,none⟩ (.slice A n c)) r:=by
 by_cases e:r=r'
 ·subst e;exact h.same _ _ _ _
 ·exact h.far e _ _
def iP (N:Nat) (s t p q l:Tmp) (va:Value) (z1 z2:Int) (k:Nat) (x:Tmp->Value) (w:World):Prop:=
 match k with
 |0=>dr w (x p) z1
 |1=>x l=va
 |2=>dr w (x q) z2
 |3=>jW N w (x s) (x t)
 |4=>jW N w (x t) (x s)
 |5=>dV N w (x s) (x t) z1
 |6=>dV N w (x t) (x s) z2
 |_=>True
section
variable {N:Nat} {s t p q l:Tmp} {va:Value} {z1 z2:Int} {x:Tmp->Value} {w w':World}
theorem iP.fill {d:Tmp} {v:Value} (hb:Below w.heap.size w w') (hs:d≠s) (ht:d≠t) {k:Nat} (hk:iP N s t p q l va z1 z2 k x w) (hp:d=p->k≠0) (hl:d=l->k≠1) (hq:d=q->k≠2):iP N s t p q l va z1 z2 k (s8 x d v) w':=by
 have es:s8 x d v s=x s:=dK x v (fun e=>hs e.symm);have et:s8 x d v t=x t:=dK x v (fun e=>ht e.symm);unfold iP at *;rw[es,et]
 split <;>simp only at hk
 ·rw[dK x v (fun e=>hp e.symm rfl)];exact dr.below hk hb
 ·rw[dK x v (fun e=>hl e.symm rfl)];exact hk
 ·rw[dK x v (fun e=>hq e.symm rfl)];exact dr.below hk hb
 ·exact hk.below hb
 ·exact hk.below hb
 ·exact hk.below hb
 ·exact hk.below hb
 ·trivial
theorem iP.makeS {o:Obj} (h0:s≠t) (hp:p≠s) (hq:q≠s) (hl:l≠s) {k:Nat} (hk:iP N s t p q l va z1 z2 k x w) (h3:k≠3) (h5:k≠5):
 iP N s t p q l va z1 z2 k (s8 x s (.pointer (some ⟨w.heap.size,0,none⟩))) (w.alloc o):=by
 have et:s8 x s (.pointer (some ⟨w.heap.size,0,none⟩)) t=x t:=dK x _ (fun e=>h0 e.symm);have es:s8 x s (.pointer (some ⟨w.heap.size,0,none⟩)) s= .pointer (some ⟨w.heap.size,0,none⟩):=gi _ _ _;unfold iP at *;rw[es,et]
 split <;>simp only at hk
 ·rw[dK x _ hp];exact dr.below hk (bH _ _)
 ·rw[dK x _ hl];exact hk
 ·rw[dK x _ hq];exact dr.below hk (bH _ _)
 ·exact absurd rfl h3
 ·exact Qg
 ·exact absurd rfl h5
 ·exact Qh
 ·trivial
theorem iP.makeT {o:Obj} (h0:s≠t) (hp:p≠t) (hq:q≠t) (hl:l≠t) {k:Nat} (hk:iP N s t p q l va z1 z2 k x w) (h3:k≠4) (h5:k≠6):
 iP N s t p q l va z1 z2 k (s8 x t (.pointer (some ⟨w.heap.size,0,none⟩))) (w.alloc o):=by
 have et:s8 x t (.pointer (some ⟨w.heap.size,0,none⟩)) s=x s:=dK x _ h0;have es:s8 x t (.pointer (some ⟨w.heap.size,0,none⟩)) t= .pointer (some ⟨w.heap.size,0,none⟩):=gi _ _ _;unfold iP at *;rw[es,et]
 split <;>simp only at hk
 ·rw[dK x _ hp];exact dr.below hk (bH _ _)
 ·rw[dK x _ hl];exact hk
 ·rw[dK x _ hq];exact dr.below hk (bH _ _)
 ·exact Qg
 ·exact absurd rfl h3
 ·exact Qh
 ·exact absurd rfl h5
 ·trivial
theorem dr.set2 {w:World} {v:Value} {z:Int} {g:Nat} (h:dr w v z) (hs:bB w g) (u0 u1:Value):dr ((w.setCell ⟨g,0,none⟩ u0).setCell ⟨g,1,none⟩ u1) v z:=by
 obtain⟨A,n,c,h0,h1⟩:=h;exact⟨A,n,c,h0,h1.set2 hs _ _⟩
theorem jW.set2 {v y:Value} (h:jW N w v y) (g':Nat) (b:Bool) (A:Option Addr) (n c:Nat):jW N ((w.setCell ⟨g',0,none⟩ (.bool b)).setCell ⟨g',1,none⟩ (.slice A n c)) v y:=by
 obtain⟨g,e0,e1,e2,e3⟩:=h;exact⟨g,e0,e1,e2.any _ _ _ _ _,e3⟩
theorem dV.far2 {v y:Value} {z:Int} {g':Nat} (h:dV N w v y z) (hs:bB w g') (hv:v≠ .pointer (some ⟨g',0,none⟩)) (b:Bool) (A:Option Addr) (n c:Nat):dV N ((w.setCell ⟨g',0,none⟩ (.bool b)).setCell ⟨g',1,none⟩ (.slice A n c)) v y z:=by
 obtain⟨g,e0,e1,e2,e3,e4⟩:=h;exact⟨g,e0,e1,e2.any _ _ _ _ _,e3.far hs (fun e=>hv (by rw[e0,e])) _ _,e4⟩
theorem iP.store {g:Nat} {b:Bool} {A:Option Addr} {n c:Nat} (hs:bB w g) {k:Nat} (hk:iP N s t p q l va z1 z2 k x w) (h5:k=5->x s≠ .pointer (some ⟨g,0,none⟩)) (h6:k=6->x t≠ .pointer (some ⟨g,0,none⟩)):
 iP N s t p q l va z1 z2 k x ((w.setCell ⟨g,0,none⟩ (.bool b)).setCell ⟨g,1,none⟩ (.slice A n c)):=by
 unfold iP at *
 split <;>simp only at hk
 ·exact hk.set2 hs _ _
 ·exact hk
 ·exact hk.set2 hs _ _
 ·exact hk.set2 _ _ _ _ _
 ·exact hk.set2 _ _ _ _ _
 ·exact hk.far2 hs (h5 rfl) _ _ _ _
 ·exact hk.far2 hs (h6 rfl) _ _ _ _
 ·trivial
theorem dV.mk {v y:Value} {z:Int} {g n c:Nat} {A:Option Addr} (e0:v= .pointer (some ⟨g,0,none⟩)) (hN:N<=g) (hs:bB w g) (hz:bc w A n c (digs z.natAbs)) (hne:v≠y):
 dV N ((w.setCell ⟨g,0,none⟩ (.bool (decide (z<0)))).setCell ⟨g,1,none⟩ (.slice A n c)) v y z:=
 ⟨g,e0,hN,hs.same _ _ _ _,fb.intro hz hs,hne⟩
end
def pS (w:World) (va0 va1:Value) (x:Tmp->Value) (w':World):Prop:=
 (w'.cell? ⟨w.heap.size,0,none⟩=some va0/\w'.cell? ⟨w.heap.size,1,none⟩=some va1/\bB w' (w.heap.size+1)/\bw w w'/\w.heap.size+2<=w'.heap.size)/\tj w' (x 6)/\tj w' (x 7)
section
variable {w w1 w2:World} {va0 va1:Value} {x y:Tmp->Value}
theorem pS.below (h:pS w va0 va1 x w1) (hb:Below w1.heap.size w1 w2) (h6:tj w2 (y 6)) (h7:tj w2 (y 7)):pS w va0 va1 y w2:=
 ⟨⟨kc h.1.1 hb,kc h.1.2.1 hb,h.1.2.2.1.below hb,h.1.2.2.2.1.more hb,Nat.le_trans h.1.2.2.2.2 hb.size⟩,h6,h7⟩
theorem pS.more (h:pS w va0 va1 x w1) (hb:Below w1.heap.size w1 w2) (e6:y 6=x 6) (e7:y 7=x 7):pS w va0 va1 y w2:=
 h.below hb (by rw[e6];exact h.2.1.below hb) (by rw[e7];exact h.2.2.below hb)
theorem tj.new (w:World) (o:Obj):tj (w.alloc o) (.pointer (some ⟨w.heap.size,0,none⟩)):=by
 intro g k e
 simp only[Value.pointer.injEq,Option.some.injEq,Addr.mk.injEq]at e
 simp
 omega
theorem tj.ne {v:Value} (h:tj w v): .pointer (some ⟨w.heap.size,0,none⟩)≠v:=fun e=>absurd (h _ _ e.symm) (Nat.lt_irrefl _)
theorem pS.set2 {g:Nat} (h:pS w va0 va1 x w1) (hg:w.heap.size+2<=g) (b:Bool) (A:Option Addr) (n c:Nat):pS w va0 va1 x ((w1.setCell ⟨g,0,none⟩ (.bool b)).setCell ⟨g,1,none⟩ (.slice A n c)):=
 ⟨⟨bD h.1.1 (by dsimp only;omega),bD h.1.2.1 (by dsimp only;omega),h.1.2.2.1.any _ _ _ _ _,h.1.2.2.2.1.set2 (by omega) _ _,by simpa using h.1.2.2.2.2⟩,h.2.1.set2 _ _ _,h.2.2.set2 _ _ _⟩
end
theorem bA (a:Int):aN (decide (a<0)) (digs a.natAbs)=a:=by
 unfold aN;rw[az]
 by_cases h:a<0<;>simp[h]<;>omega
theorem gG {w:World} {z:Int} {A:Option Addr} {n c:Nat} (h:bc w A n c (digs z.natAbs)):dr w (.agg #[.bool (decide (z<0)), .slice A n c]) z:=⟨A,n,c,rfl,h⟩
theorem u4 {va vb:Value} {a b:Int} {w:World} (ha:dr w va a) (hb:dr w vb b) (h1:(digs a.natAbs).length<=2147483648) (h2:(digs b.natAbs).length<=2147483648):
 Calls Tryz.prog 192 #[va,vb] w (dH (a*b) w):=by
 have:=MT va vb _ _ _ _ w ha hb h1 h2
 rwa[bA,bA]at this
theorem tz (z:Int) (i k K:Nat) (h:(max 1 z.natAbs)^k<4294967296^K) (hi:i<=k) (hK:K<=2147483648):(digs (z^i).natAbs).length<=2147483648:=by
 rw[Int.natAbs_pow];refine Nat.le_trans (a8 (k:=K) (Nat.lt_of_le_of_lt ?_ h)) hK
 calc z.natAbs^i<=(max 1 z.natAbs)^i:=Nat.pow_le_pow_left (by omega) i
  _<=(max 1 z.natAbs)^k:=Nat.pow_le_pow_right (by omega) hi
def sH (w:World) (g6 g7:Nat) (a b:Int) (wr:World):Prop:=fb wr g6 a/\fb wr g7 b/\bB wr g6/\bB wr g7/\bB wr (w.heap.size+1)/\bw w wr
theorem sH.below {w:World} {g6 g7:Nat} {a b:Int} {w1 w2:World} (h:sH w g6 g7 a b w1) (hb:Below w1.heap.size w1 w2):sH w g6 g7 a b w2:=
 ⟨h.1.below hb,h.2.1.below hb,h.2.2.1.below hb,h.2.2.2.1.below hb,h.2.2.2.2.1.below hb,h.2.2.2.2.2.more hb⟩
theorem sH.set6 {w:World} {g6 g7:Nat} {a b d:Int} {w1:World} {A:Option Addr} {n c:Nat} (h:sH w g6 g7 a b w1) (hne:g6≠g7) (hg:w.heap.size+2<=g6) (hd:bc w1 A n c (digs d.natAbs)):
 sH w g6 g7 d b ((w1.setCell ⟨g6,0,none⟩ (.bool (decide (d<0)))).setCell ⟨g6,1,none⟩ (.slice A n c)):=
 ⟨fb.intro hd h.2.2.1,h.2.1.far h.2.2.1 (fun e=>hne e.symm) _ _,h.2.2.1.any _ _ _ _ _,h.2.2.2.1.any _ _ _ _ _,h.2.2.2.2.1.any _ _ _ _ _,h.2.2.2.2.2.set2 (by omega) _ _⟩
theorem sH.set7 {w:World} {g6 g7:Nat} {a b d:Int} {w1:World} {A:Option Addr} {n c:Nat} (h:sH w g6 g7 a b w1) (hne:g6≠g7) (hg:w.heap.size+2<=g7) (hd:bc w1 A n c (digs d.natAbs)):
 sH w g6 g7 a d ((w1.setCell ⟨g7,0,none⟩ (.bool (decide (d<0)))).setCell ⟨g7,1,none⟩ (.slice A n c)):=
 ⟨h.1.far h.2.2.2.1 hne _ _,fb.intro hd h.2.2.2.1,h.2.2.1.any _ _ _ _ _,h.2.2.2.1.any _ _ _ _ _,h.2.2.2.2.1.any _ _ _ _ _,h.2.2.2.2.2.set2 (by omega) _ _⟩
def QF (w:World) (z:Int) (k g6 g7:Nat) (v:Value) (wr:World):Prop:=∃i j m:Nat,v= .int .i64 m/\i+j*m=k/\m<=4096/\sH w g6 g7 (z^i) (z^j) wr
def GQ (w:World) (z1 z2:Int) (v6 v7:Value) (wx:World):Prop:=dV (w.heap.size+2) wx v6 v7 z1/\dV (w.heap.size+2) wx v7 v6 z2/\bB wx (w.heap.size+1)/\bw w wx
theorem PX (va:Value) (na:Bool) (xs:List Nat) (k K:Nat) (w:World) (ha:dh w va na xs) (hk:k<=4096) (hK:K<=2147483648) (hb:(max 1 (val xs))^k<4294967296^K) (hs:xs.length<=2147483648):
 Calls Tryz.prog 357 #[va, .int .i64 k] w (Ry (aN na xs^k) 0 w):=by
 obtain⟨A,n,c,rfl,hx⟩:=ha;obtain⟨W,hW⟩:∃W,W=(w.alloc (.cells #[.bool na, .slice A n c] 36)).alloc (.cells #[.bool false, .slice none 0 0] 36):=⟨_,rfl⟩;obtain⟨⟨ca0,ca1⟩,⟨cr0,cr1,fr0,fr1⟩,hbW⟩:=uB w _ _ _ _ _ W hW;have hB0:pS w (.bool na) (.slice A n c) (fun _=>undef) W:=⟨⟨ca0,ca1,bB.mk cr0 cr1 fr0 fr1,hbW,by rw[hW];simp⟩,tj.undef _,tj.undef _⟩;have Hx:=Lib.hid hx;have Hb:=Lib.hid hb;have HB:=Lib.hid hB0;have hk0:¬((k:Int)<0):=by omega
 have hk1:¬((k:Int) > 4096):=by omega
 clear hx hb hB0 ca0 ca1 cr0 cr1 fr0 fr1 hbW
 go_enter func357,ntmps357
 go_wp2_with fail
 rw[<- hW];clear hW;obtain⟨z,hz⟩:∃z,z=aN na xs:=⟨_,rfl⟩;rw[<- hz];have Hz:=Lib.hid hz;clear hz
 go_cut [6,7] (fun v6 v7 wx=>GQ w 1 z v6 v7 wx)
 case first=>
  refine ut (by kernel_rfl) (by kernel_rfl) [15,16,17,6,7] (iP (w.heap.size+2) 6 7 15 17 16 (.agg #[.bool na, .slice A n c]) 1 z) (pS w (.bool na) (.slice A n c)) (held _) (tP _ _) (HB.out.more (Below.drew (Below.refl _ _)) rfl rfl) ⟨?s0,?s1,?s2,?s3,?s4,?s5,?s6,trivial⟩ ?fin
  case s0=>
   intro x w1 hB hd κ hκ;refine⟨?_⟩;refine ML ?_
   go_simp
   refine(tH 1 (by decide) (by decide) _).mono ?_;rintro e w2 ⟨v,rfl,hv,hb⟩
   go_simp
   exact hκ _ _ (s8 x 15 v) rfl (hB.more hb rfl rfl) (show dr w2 (s8 x 15 v 15) 1 by rw[gi];exact hv) (fun k hk _ _ h=>h.fill hb (by decide) (by decide) (fun _=>hk) (fun e=>absurd e (by decide)) (fun e=>absurd e (by decide)))
  case s1=>
   intro x w1 hB hd κ hκ;have b0:=hB.1.1;have b1:=hB.1.2.1;refine⟨?_⟩;refine ML ?_
   go_simp
   exact hκ _ _ (s8 x 16 (.agg #[.bool na, .slice A n c])) rfl (hB.more (Below.refl _ _) rfl rfl) (gi _ _ _) (fun k hk _ _ h=>h.fill (Below.refl _ _) (by decide) (by decide) (fun e=>absurd e (by decide)) (fun _=>hk) (fun e=>absurd e (by decide)))
  case s2=>
   intro x w1 hB hd κ hκ;have h1:x 16=_:=hd 1 (by decide);refine⟨?_⟩;refine ML ?_
   go_simp
   refine(IC _ na xs _ (jQ Hx.out hB.1.2.2.2.1) hs).mono ?_;rw[<- Hz.out];rintro e w2 ⟨v,rfl,hv,hb⟩
   go_simp
   exact hκ _ _ (s8 x 17 v) (by rw[<- h1];rfl) (hB.more hb rfl rfl) (show dr w2 (s8 x 17 v 17) z by rw[gi];exact hv) (fun k hk _ _ h=>h.fill hb (by decide) (by decide) (fun e=>absurd e (by decide)) (fun e=>absurd e (by decide)) (fun _=>hk))
  case s3=>
   intro x w1 hB hd κ hκ;refine⟨?_⟩;refine ML ?_
   go_simp
   exact hκ _ _ (s8 x 6 (.pointer (some ⟨w1.heap.size,0,none⟩))) rfl (hB.below (bH _ _) (tj.new _ _) (hB.2.2.below (bH _ _))) ⟨_,gi _ _ _,hB.1.2.2.2.2,bB.new _ _,hB.2.2.ne⟩ (fun k hk _ hw h=>h.makeS (by decide) (by decide) (by decide) (by decide) hk (by rintro rfl;exact absurd hw (by decide)))
  case s4=>
   intro x w1 hB hd κ hκ;refine⟨?_⟩;refine ML ?_
   go_simp
   exact hκ _ _ (s8 x 7 (.pointer (some ⟨w1.heap.size,0,none⟩))) rfl (hB.below (bH _ _) (hB.2.1.below (bH _ _)) (tj.new _ _)) ⟨_,gi _ _ _,hB.1.2.2.2.2,bB.new _ _,hB.2.1.ne⟩ (fun k hk _ hw h=>h.makeT (by decide) (by decide) (by decide) (by decide) hk (by rintro rfl;exact absurd hw (by decide)))
  case s5=>
   intro x w1 hB hd κ hκ;obtain⟨A1,n1,d1,v0,hw1⟩:dr w1 (x 15) 1:=hd 0 (by decide);obtain⟨g,e0,e1,e2,e3⟩:jW _ w1 (x 6) (x 7):=hd 3 (by decide);have h7:jW _ w1 (x 7) (x 6):=hd 4 (by decide);have e2':=e2;obtain⟨u0,u1,c0,c1,f0,f1,i0,i1⟩:=e2';clear i0 i1;have hr:=fun k hk=>iP.store (N:=w.heap.size+2) (s:=6) (t:=7) (p:=15) (q:=17) (l:=16) (va:= .agg #[.bool na, .slice A n c]) (z1:=1) (z2:=z) (x:=x) (b:=decide ((1:Int)<0)) (A:=A1) (n:=n1) (c:=d1) e2 (k:=k) hk
   have hR:=Lib.hid hr;have hF:=Lib.hid (dV.mk e0 e1 e2 hw1 e3);have hB2:=Lib.hid (hB.set2 e1 (decide ((1:Int)<0)) A1 n1 d1);clear hr hd hB hw1;refine⟨?_⟩;refine ML ?_
   go_simp
   refine hκ _ _ x ?_ hB2.out hF.out (fun k hk _ hw h=>hR.out k h (fun e=>absurd e hk) (fun e=>?_))
   ·exact QG
   ·subst e
    exact absurd hw (by decide)
  case s6=>
   intro x w1 hB hd κ hκ;obtain⟨A1,n1,d1,v0,hw1⟩:dr w1 (x 17) z:=hd 2 (by decide);obtain⟨g,e0,e1,e2,e3⟩:jW _ w1 (x 7) (x 6):=hd 4 (by decide);have e2':=e2;obtain⟨u0,u1,c0,c1,f0,f1,i0,i1⟩:=e2';clear i0 i1;have hr:=fun k hk=>iP.store (N:=w.heap.size+2) (s:=6) (t:=7) (p:=15) (q:=17) (l:=16) (va:= .agg #[.bool na, .slice A n c]) (z1:=1) (z2:=z) (x:=x) (b:=decide (z<0)) (A:=A1) (n:=n1) (c:=d1) e2 (k:=k) hk
   have hR:=Lib.hid hr;have hF:=Lib.hid (dV.mk e0 e1 e2 hw1 e3);have hB2:=Lib.hid (hB.set2 e1 (decide (z<0)) A1 n1 d1);have h67:x 6≠ .pointer (some ⟨g,0,none⟩):=by rw[<- e0];exact fun e=>e3 e.symm
   have H67:=Lib.hid h67;clear hr hd hB hw1 e3 h67;refine⟨?_⟩;refine ML ?_
   go_simp
   refine hκ _ _ x ?_ hB2.out hF.out (fun k hk _ hw h=>hR.out k h (fun _=>H67.out) (fun e=>absurd e hk));exact QG
  case fin=>
   intro x w1 hB hF;have h5:dV (w.heap.size+2) w1 (x 6) (x 7) 1:=hF 5 (by decide);have h6:dV (w.heap.size+2) w1 (x 7) (x 6) z:=hF 6 (by decide);refine ML ?_;have hT:GQ w 1 z (x 6) (x 7) w1:=⟨h5,h6,hB.1.2.2.1,hB.1.2.2.2.1⟩;clear h5 h6 hB hF
   go_wp2_with fail
   go_meet
   exact hT
 case rest=>
  obtain⟨⟨g6,rfl,hg6,s6,d6,hne⟩,⟨g7,rfl,hg7,s7,d7,hne'⟩,sr,hE⟩:=hcut;have hne:g6≠g7:=fun e=>hne (by rw[e])
  clear hne' Hx HB;have hl:QF w z k g6 g7 (.int .i64 k) wc:=⟨0,1,k,rfl,by omega,hk,by simpa using d6,by rw[Int.pow_succ,Int.pow_zero,Int.one_mul];exact d7,s6,s7,sr,hE⟩;clear s6 d6 s7 d7 sr hE
  go_wp2_with fail
  go_loopw [1] (fun v wr=>QF w z k g6 g7 v wr) (fun v _=>(intOf v).toNat)
  case atStart=>exact hl
  case round=>
   obtain⟨i,j,m,rfl,hij,hm,hS⟩:=hrel;have Hij:=Lib.hid hij;clear hij
   by_cases hm0:m=0
   ·subst hm0
    obtain⟨d6,d7,s6,s7,sr,hE⟩:=hS;obtain⟨A1,n1,c1,p0,p1,hw1⟩:=d6
    have hfin:dr ((wr.setCell ⟨w.heap.size+1,0,none⟩ (.bool (decide (z^i<0)))).setCell ⟨w.heap.size+1,1,none⟩ (.slice A1 n1 c1)) (.agg #[.bool (decide (z^i<0)), .slice A1 n1 c1]) (z^k):=by
     have hik:i=k:=by have:=Hij.out;omega
     rw[<- hik];exact⟨_,_,_,rfl,hw1.set2 sr _ _⟩
    have Hfin:=Lib.hid hfin;have hE2:=Lib.hid (hE.set2 (r:=w.heap.size+1) (by omega) (.bool (decide (z^i<0))) (.slice A1 n1 c1));obtain⟨u0,u1,q0,q1,f0,f1,i0,i1⟩:=sr;clear i0 i1 hfin hw1 d7 s6 s7;generalize decide (z^i<0)=bz at *
    go_wp2_with fail
    exact bodyPost_ret (v:= .tuple #[.agg #[.bool bz, .slice A1 n1 c1], .int .i64 0]) (by simp[results,results357,go_sem,q0,q1]) rfl ⟨_,rfl,by rw[<- Hz.out];exact Hfin.out,hE2.out⟩
   ·have hi:i<=k:=by have:=Hij.out;omega
    have hj:j<=k:=by
     have:=Hij.out;have:=Nat.le_mul_of_pos_right j (Nat.pos_of_ne_zero hm0);omega
    have bi:=tz z i k K (by rw[Hz.out,da];exact Hb.out) hi hK;have bj:=tz z j k K (by rw[Hz.out,da];exact Hb.out) hj hK;have t0:(0:Int)<m:=by omega
    have Bi:=Lib.hid bi;have Bj:=Lib.hid bj;have HS:=Lib.hid hS;obtain⟨⟨A6,n6,c6,p60,p61,hw6⟩,⟨A7,n7,c7,p70,p71,hw7⟩,_⟩:=hS;have H6:=Lib.hid hw6;have H7:=Lib.hid hw7;clear bi bj hw6 hw7;have sq:z^j*z^j=z^(2*j):=by rw[<- Int.pow_add];congr 1;omega
    have Sq:=Lib.hid sq;have pr:z^i*z^j=z^(i+j):=by rw[<- Int.pow_add]
    have Pr:=Lib.hid pr;clear sq pr;obtain⟨m',hm'⟩:∃m',m'=m/2:=⟨_,rfl⟩;have hmm:m/2=m':=hm'.symm;have hcast:(Value.int .i64 ((m:Int)/2))= .int .i64 (m':Int):=by rw[hm'];go_num
    have Hcast:=Lib.hid hcast;have Hm':=Lib.hid hm';clear hm' hmm hcast
    by_cases ho:m%2=1
    ·have t1:((m:Int)%2 == 1)=true:=by simp;omega
     have Hijo:Hid ((i+j)+2*j*m'=k/\(i+j)+j*m'<=k):=by
      have h1:=Hij.out;have h2:=Hm'.out;have h3:m=2*m'+1:=by omega
      rw[h3,Nat.mul_add,Nat.mul_one,<- Nat.mul_assoc,Nat.mul_comm j 2]at h1;refine⟨by omega,?_⟩;have:j*m'<=2*j*m':=Nat.mul_le_mul_right _ (by omega);omega
     have Ho:=Lib.hid ho;clear ho
     by_cases hh:0<(m:Int)/2
     ·go_wp2_with fail
      ((with_reducible refine(u4 (a:=z^i) (b:=z^j) (gG H6.out) (gG H7.out) Bi.out Bj.out).mono ?_);rw[Pr.out];rintro e w1 ⟨v1,rfl,⟨A1,n1,c1,rfl,hw1⟩,hb1⟩;have hS1:=HS.out.below hb1;have hS2:=hS1.set6 hne hg6 hw1;obtain⟨-,-,⟨_,_,a0,a1,a2,a3,-,-⟩,-⟩:=hS1;have HS2:=Lib.hid hS2;obtain⟨-,⟨A8,n8,c8,p80,p81,hw8⟩,⟨_,_,b0,b1,b2,b3,-,-⟩,⟨_,_,d0,d1,d2,d3,-,-⟩,-⟩:=hS2)
      go_wp2_with fail
      ((with_reducible refine(u4 (a:=z^j) (b:=z^j) (gG hw8) (gG hw8) Bj.out Bj.out).mono ?_);rw[Sq.out];rintro e w3 ⟨v3,rfl,⟨A3,n3,c3,rfl,hw3⟩,hb3⟩;have hS3:=HS2.out.below hb3;have hS4:=hS3.set7 hne hg7 hw3;obtain⟨-,-,-,⟨_,_,e0,e1,e2,e3,-,-⟩,-⟩:=hS3)
      go_wp2_with fail
      go_roundw
      case rel=>exact⟨i+j,2*j,m',Hcast.out,Hijo.out.1,by have:=Hm'.out;omega,hS4⟩
      case measure=>simp[intOf];omega
     ·go_wp2_with fail
      ((with_reducible refine(u4 (a:=z^i) (b:=z^j) (gG H6.out) (gG H7.out) Bi.out Bj.out).mono ?_);rw[Pr.out];rintro e w1 ⟨v1,rfl,⟨A1,n1,c1,rfl,hw1⟩,hb1⟩;have hS1:=HS.out.below hb1;have hS2:=hS1.set6 hne hg6 hw1;obtain⟨-,-,⟨_,_,a0,a1,a2,a3,-,-⟩,-⟩:=hS1;have HS2:=Lib.hid hS2;obtain⟨-,⟨A8,n8,c8,p80,p81,hw8⟩,⟨_,_,b0,b1,b2,b3,-,-⟩,⟨_,_,d0,d1,d2,d3,-,-⟩,-⟩:=hS2)
      go_wp2_with fail
      go_roundw
      case rel=>
       have h0:m'=0:=by have:=Hm'.out;omega
       exact⟨i+j,j,m',Hcast.out,by have:=Hijo.out.1;rw[h0]at *;simpa using this,by omega,HS2.out⟩
      case measure=>simp[intOf];omega
    ·have t1:((m:Int)%2 == 1)=false:=by simp;omega
     have Hije:Hid (i+2*j*m'=k):=by
      have h1:=Hij.out;have h2:=Hm'.out;have h3:m=2*m':=by omega
      rw[h3,<- Nat.mul_assoc,Nat.mul_comm j 2]at h1;exact h1
     have Ho:=Lib.hid ho;clear ho;have hh:0<(m:Int)/2:=by have:=Ho.out;omega
     obtain⟨-,-,⟨_,_,a0,a1,a2,a3,-,-⟩,⟨_,_,b0,b1,b2,b3,-,-⟩,-⟩:=HS.out
     go_wp2_with fail
     ((with_reducible refine(u4 (a:=z^j) (b:=z^j) (gG H7.out) (gG H7.out) Bj.out Bj.out).mono ?_);rw[Sq.out];rintro e w3 ⟨v3,rfl,⟨A3,n3,c3,rfl,hw3⟩,hb3⟩;have hS3:=HS.out.below hb3;have hS4:=hS3.set7 hne hg7 hw3;obtain⟨-,-,-,⟨_,_,e0,e1,e2,e3,-,-⟩,-⟩:=hS3)
     go_wp2_with fail
     go_roundw
     case rel=>exact⟨i,2*j,m',Hcast.out,Hije.out,by have:=Hm'.out;omega,hS4⟩
     case measure=>simp[intOf];omega
end
inductive RL where
 |is (l:Tmp) (v:Value)
 |int (p:Tmp) (z:Int)
 |box (s:Tmp)
 |done (s:Tmp) (z:Int)
 |any
section
variable {N:Nat} {fs:List RL} {x:Tmp->Value} {w w':World} {k:Nat}
end
section
variable {N:Nat} {fs:List RL} {x:Tmp->Value} {w w':World} {k:Nat}
end
end Go.Proofs.YtnchbpoopnjghaaGreatDoor
