/- What the machine of HmA reckons is what the model does: regions whose operations come in any order. -/
import Derived.Test.YtnchbpoopnjghaaGreatDoorRHmE
set_option maxHeartbeats 100000000
set_option linter.all false
namespace Go.Proofs.YtnchbpoopnjghaaGreatDoor
open Go.RowKit
structure En where
 i:Nat
 o:Oper
 f:Tr HV
 h:Tr HB
 k:Nat
 m:HM
 b:HB
 c:Nat
def En.hd(e:En):HD:=⟨e.i,e.o,e.f,e.m.x,e.k,e.c⟩
section
variable {P:Program}{ops:Array Oper}{n:Nat}
def oI(P:Program)(ops:Array Oper)(n:Nat)(e:En):Prop:=ops[e.i]? =some e.o/\aO n e.o.dst=true /\
 ((e.c=0/\hgd ops e.f e.o=some false/\e.m=⟨.t [],e.h,e.k⟩) ∨
  (e.c=1/\hgd ops e.f e.o=some true/\hop P e.f e.h e.o=some e.m.x/\e.m=⟨e.m.x,e.h,e.k⟩) ∨
  (e.c=2/\hgd ops e.f e.o=some true/\ ∃d,hmk P e.f e.o=some (e.b,d)/\e.m=⟨d e.k,e.h.put e.k e.b,e.k+1⟩) ∨
  (e.c=3/\hgd ops e.f e.o=some true/\SW P e.o e.f e.h e.k e.m))
def gA:HS->List En->HS->Prop
 |s,[],b=>b=s
 |s,e::r,b=>e.f=s.f/\e.h=s.h/\e.k=s.k/\gA (HS.put ⟨s.f,e.m.h,e.m.k⟩ e.o.dst e.m.x) r b
def UO(ops:Array Oper)(o:Oper):List Nat:=Qo ops o++wL o
def PC(P:Program)(ops:Array Oper)(e b:En):Prop:=(fe ops b.i).testBit e.i=true ∨
 (ge (re ops e.o) (re ops b.o)=false/\e.c≠3/\(b.c=3->(e.c=1->hop P e.f b.m.h e.o=some e.m.x)/\(e.c=2->b.m.h.get e.k=b.h.get e.k)))
mutual
def Bn:∀{x y:HV},SF x y=true->x=y
 |x,y,h=>by
  unfold SF at h;split at h;all_goals first
   |rfl
   |(simp only[B_,beq_iff_eq,decide_eq_true_eq,Nat.beq_eq]at h)
   |skip
  all_goals first
   |(subst h;rfl)
   |(obtain⟨b,c⟩:=h;subst b;subst c;rfl)
   |(obtain⟨⟨⟨⟨b,c⟩,d⟩,e⟩,f⟩:=h;subst b;subst c;subst d;subst e;subst f;rfl)
   |(obtain⟨b,c⟩:=h;subst b;rw[rJ c])
   |(obtain⟨b,c⟩:=h;subst b;rw[Bn c])
   |(rw[rJ h])
   |(cases h)
def rJ:∀{x y:List HV},Cj x y=true->x=y
 | [],[],_=>rfl
 | [],_::_,h=>by unfold Cj at h;cases h
 |_::_,[],h=>by unfold Cj at h;cases h
 |x::r,y::s,h=>by unfold Cj at h;rw[B_]at h;rw[Bn h.1,rJ h.2]
end
def Fl{o:Oper}(b:zN o=true)(f:Tr HV)(h e:Tr HB):hop P f h o=hop P f e o:=by
 unfold zN at b;unfold hop;cases ho:o.op with
 |load=>rw[ho]at b;cases b
 |convert=>rw[ho]at b;cases b
 |lookup=>rw[ho]at b;cases b
 |call c=>obtain⟨d,i,j⟩:=c;cases d<;>rfl
 |slice t x l u m=>cases m<;>rfl
 |_=>rfl
def HL{x y:Option HB}(h:Rz x y=true):x=y:=by
 unfold Rz at h;split at h
 ·simp only[B_,Nat.beq_eq,beq_iff_eq]at h;obtain⟨⟨b,c⟩,d⟩:=h;subst c d;rw[rJ b]
 ·cases h
def kf{f:Nat}{o:Oper}:∀{j:List HD},yB ops f o j=true-> ∀d∈j,f.testBit d.i=true∨(ge (re ops d.o) (re ops o)=false/\d.c≠3)
 | [],_,d,b=>by cases b
 |d'::j,h,d,b=>by
  unfold yB at h;split at h
  ·rename_i p;rcases f_.1 b with rfl|b
   ·exact .inl p
   ·exact kf h d b
  ·split at h
   ·rename_i m l;rcases f_.1 b with rfl|b
    ·exact .inr ⟨m,fun e=>by rw[e]at l;simp at l⟩
    ·exact kf h d b
   ·cases h
def iZ{l:Nat}{h p:Tr HB}:∀{m:List HD},mT P l h p m=true-> ∀d∈m,l.testBit d.i=true∨((d.c=1->zN d.o=true∨hop P d.f p d.o=some d.x)/\(d.c=2->p.get d.k=h.get d.k))
 | [],_,d,b=>by cases b
 |d'::m,j,d,b=>by
  unfold mT at j;split at j
  ·rename_i r;rcases f_.1 b with rfl|b
   ·exact .inl r
   ·exact iZ j d b
  ·split at j
   ·rename_i q;rcases f_.1 b with rfl|b
    ·exact .inr ⟨fun e=>by omega,fun e=>by omega⟩
    ·exact iZ j d b
   ·rename_i q;rw[B_]at j;rcases f_.1 b with rfl|b
    ·refine .inr ⟨fun _=>?_,fun e=>by omega⟩;have h1:=j.1;rw[Bool.or_eq_true]at h1;refine h1.imp id fun h1=>?_;unfold DA at h1;split at h1
     ·rename_i y s;rw[s,Bn h1]
     ·cases h1
    ·exact iZ j.2 d b
   ·rename_i q;rw[B_]at j;rcases f_.1 b with rfl|b
    ·exact .inr ⟨fun e=>by omega,fun _=>(HL j.1).symm⟩
    ·exact iZ j.2 d b
   ·cases j
def po{done:Nat}:∀{l:List Edge},mH done l=true-> ∀e∈l,Region.binds .any e=true->done.testBit e.on=true
 | [],_,e,b,_=>by cases b
 |e'::l,h,e,b,c=>by
  unfold mH at h;split at h
  ·rw[B_]at h;rcases f_.1 b with rfl|b
   ·exact h.1
   ·exact po h.2 e b c
  ·rename_i d;rcases f_.1 b with rfl|b
   ·rw[c]at d;cases d
   ·exact po h e b c
def qn{v:HS->FuncId->List HV->Option HM}(hc:∀s f E m,v s f E=some m->bY P f E s.h s.k m):∀(l:List Nat)(s J:HS)(p:List En)(done:Nat),(∀j,done.testBit j=true↔ ∃x∈p,x.i=j)->(∀x∈p,x.c=1->hop P x.f x.h x.o=some x.m.x)->mv P ops n v l s (p.map En.hd).reverse done =some J ->
 ∃B,gA s B J/\(∀i,i<ops.size-> ∃x∈p++B,x.i=i)/\ ∀p1 e p2,B=p1++e::p2->oI P ops n e/\(∀x∈p++p1,PC P ops x e/\x.i≠e.i)/\ ∀A∈e.o.after.toList,Region.binds .any A=true-> ∃x∈p++p1,x.i=A.on
 | [],s,J,p,done,L,_,h=>by
  unfold mv at h;split at h
  ·rename_i he;cases h;have he:=Nat.eq_of_beq_eq_true he;refine⟨[],rfl,fun i hi=>?_,fun p1 e p2 he=>by cases p1<;>cases he⟩;have:done.testBit i=true:=by rw[he,bI,Nat.testBit_two_pow_sub_one];simpa using hi
   obtain⟨x,d,rfl⟩:=(L i).1 this;exact⟨x,by simp[d],rfl⟩
  ·cases h
 |i::l,s,J,p,done,L,S,h=>by
  unfold mv at h;split at h
  ·cases h
  ·rename_i o V;have U:∀(e:En),e.i=i->e.o=o->e.f=s.f->e.h=s.h->e.k=s.k->oI P ops n e->(!Nat.testBit done i)=true->mH done o.after.toList=true->(∀x∈p,PC P ops x e) ->
    mv P ops n v l (HS.put ⟨s.f,e.m.h,e.m.k⟩ o.dst e.m.x) ((p++[e]).map En.hd).reverse (Nat.lor done (2^i))=some J ->
    ∃B,gA s B J/\(∀i,i<ops.size-> ∃x∈p++B,x.i=i)/\ ∀p1 e p2,B=p1++e::p2->oI P ops n e/\(∀x∈p++p1,PC P ops x e/\x.i≠e.i)/\ ∀A∈e.o.after.toList,Region.binds .any A=true-> ∃x∈p++p1,x.i=A.on:=by
    intro e K T W e4 e5 Q r hrd ag hh;have R:e.c=1->hop P e.f e.h e.o=some e.m.x:=fun hc1=>by
     rcases Q.2.2 with⟨u,_⟩| ⟨_,_,G,_⟩| ⟨u,_⟩| ⟨u,_⟩
     ·omega
     ·exact G
     ·omega
     ·omega
    obtain⟨B,t1,t2,t3⟩:=qn hc l _ J (p++[e]) (Nat.lor done (2^i)) (fun j=>by
     show(done |||2^i).testBit j=true↔_;rw[Nat.testBit_or,Bool.or_eq_true,Nat.testBit_two_pow,L j];constructor
     ·rintro(⟨x,d,rfl⟩|ad)
      ·exact⟨x,by simp[d],rfl⟩
      ·exact⟨e,by simp,by rw[K];simpa using ad⟩
     ·rintro⟨x,d,rfl⟩;rcases List.mem_append.1 d with d|d
      ·exact .inl ⟨x,d,rfl⟩
      ·simp at d;subst d;exact .inr (by rw[K];simp)) (fun x d=>by
     rcases List.mem_append.1 d with d|d
     ·exact S x d
     ·simp at d;subst d;exact R) hh
    refine⟨e::B,⟨W,e4,e5,by rw[T];exact t1⟩,fun j hj=>by obtain⟨x,d,z⟩:=t2 j hj;exact⟨x,by simpa using d,z⟩,fun p1 e' p2 he=>?_⟩;cases p1 with
    |nil=>
     simp only[List.nil_append,List.cons.injEq]at he;obtain⟨rfl,rfl⟩:=he;refine⟨Q,fun x d=>?_,fun A D I=>?_⟩
     ·have d:x∈p:=by simpa using d
      refine⟨ag x d,fun z=>?_⟩;have:=(L x.i).2 ⟨x,d,rfl⟩;rw[z,K]at this;rw[this]at r;cases r
     ·rw[T]at D;have:=(L A.on).1 (po hrd A D I);simpa using this
    |cons y p1=>simp only[List.cons_append,List.cons.injEq]at he;obtain⟨rfl,rfl⟩:=he;obtain⟨q1,q2,q3⟩:=t3 p1 e' p2 rfl;refine⟨q1,fun x d=>q2 x (by simpa using d),fun A D I=>?_⟩;obtain⟨x,d,z⟩:=q3 A D I;exact⟨x,by simpa using d,z⟩
   have C:∀e:En,((p++[e]).map En.hd).reverse=e.hd::(p.map En.hd).reverse:=fun e=>by simp
   have hmem:∀x∈p,x.hd∈(p.map En.hd).reverse:=fun x d=>by simp only[List.mem_reverse];exact List.mem_map_of_mem d
   split at h
   ·rename_i q O;simp only[B_]at q;obtain⟨⟨⟨N,r⟩,hrd⟩,re⟩:=q;have F:∀(e:En),e.i=i->e.o=o->e.c≠3-> ∀x∈p,PC P ops x e:=fun e K T W x d=>by
     rcases kf re x.hd (hmem x d)with u| ⟨u,G⟩
     ·exact .inl (by rw[K];exact u)
     ·exact .inr ⟨by rw[T];exact u,G,fun H=>absurd H W⟩
    split at h
    ·rename_i x d;refine U ⟨i,o,s.f,s.h,s.k,⟨x,s.h,s.k⟩, .x,1⟩ rfl rfl rfl rfl rfl ⟨V,N, .inr (.inl ⟨rfl,O,d,rfl⟩)⟩ r hrd (F _ rfl rfl (show(1:Nat)≠3 by decide)) ?_;rw[C];exact h
    ·split at h
     ·rename_i b xf hk;refine U ⟨i,o,s.f,s.h,s.k,⟨xf s.k,s.h.put s.k b,s.k+1⟩,b,2⟩ rfl rfl rfl rfl rfl ⟨V,N, .inr (.inr (.inl ⟨rfl,O,xf,hk,rfl⟩))⟩ r hrd (F _ rfl rfl (show(2:Nat)≠3 by decide)) ?_;rw[C];exact h
     ·split at h
      ·rename_i m hm;split at h
       ·rename_i Z;refine U ⟨i,o,s.f,s.h,s.k,m, .x,3⟩ rfl rfl rfl rfl rfl ⟨V,N, .inr (.inr (.inr ⟨rfl,O,vN hc hm⟩))⟩ r hrd (fun x d=>?_) ?_
        ·rcases kf re x.hd (hmem x d)with u| ⟨u,G⟩
         ·exact .inl u
         ·rcases iZ Z x.hd (hmem x d)with H| ⟨H,h4⟩
          ·exact .inl H
          ·refine .inr ⟨u,G,fun _=>⟨fun hc1=>?_,fun Y=>h4 Y⟩⟩;rcases H hc1 with X|X
           ·have:=S x d hc1;rw[Fl (show zN x.o=true from X) x.f x.h m.h]at this;exact this
           ·exact X
        ·rw[C];exact h
       ·cases h
      ·cases h
   ·rename_i q O;simp only[B_]at q;obtain⟨⟨⟨N,r⟩,hrd⟩,re⟩:=q;refine U ⟨i,o,s.f,s.h,s.k,⟨.t [],s.h,s.k⟩, .x,0⟩ rfl rfl rfl rfl rfl ⟨V,N, .inl ⟨rfl,O,rfl⟩⟩ r hrd (fun x d=>?_) ?_
    ·rcases kf re x.hd (hmem x d)with u| ⟨u,G⟩
     ·exact .inl u
     ·exact .inr ⟨u,G,fun H=>by cases H⟩
    ·rw[C];exact h
   ·cases h
def j7(L:Nat->Bool):List En->(Nat->HV)->Nat->HV
 | [],F=>F
 |e::r,F=>j7 L r (match L e.i with
  |true=>fun t=>if e.o.dst=some t then e.m.x else F t
  |false=>F)
def ki{L1 L2:Nat->Bool}{t:Nat}:∀(r:List En)(F c:Nat->HV),F t=c t->(∀x∈r,x.o.dst=some t->L1 x.i=L2 x.i)->j7 L1 r F t=j7 L2 r c t
 | [],_,_,h,_=>h
 |e::r,F,c,h,d=>by
  refine ki r _ _ ?_ (fun x f b=>d x (by simp[f]) b);by_cases b:e.o.dst=some t
  ·rw[d e S_ b];cases L2 e.i
   ·exact h
   ·simp[b]
  ·cases L1 e.i<;>cases L2 e.i<;>simp[b,h]
def oF(L:Nat->Bool):∀(p q:List En)(F:Nat->HV),j7 L (p++q) F=j7 L q (j7 L p F)
 | [],_,_=>rfl
 |e::p,q,F=>by simp only[List.cons_append,j7];exact oF L p q _
def ko{L:Nat->Bool}:∀(r:List En)(F:Nat->HV),(∀x∈r,L x.i=false)->j7 L r F=F
 | [],_,_=>rfl
 |e::r,F,h=>by simp only[j7,h e S_];exact ko r F fun x b=>h x (by simp[b])
def pC:∀(r:List En)(s b:HS),gA s r b->j7 (fun _=>true) r (fv s.f)=fv b.f
 | [],s,b,h=>by have h:b=s:=h;rw[h];rfl
 |e::r,s,b,⟨d,i,j,c⟩=>by simp only[j7];have:=pC r _ b c;rw[Bv]at this;exact this
def gP:∀(p q:List En)(s d:HS),gA s (p++q) d↔ ∃b,gA s p b/\gA b q d
 | [],q,s,d=>⟨fun h=>⟨s,rfl,h⟩,fun⟨b,c,f⟩=>by have c:b=s:=c;subst c;exact f⟩
 |e::p,q,s,d=>by
  constructor
  ·rintro⟨c,f,i,j⟩;obtain⟨b,l,m⟩:=(gP p q _ d).1 j;exact⟨b,⟨c,f,i,l⟩,m⟩
  ·rintro⟨b,⟨c,f,i,j⟩,l⟩;exact⟨c,f,i,(gP p q _ d).2 ⟨b,j,l⟩⟩
def oI.kk{e:En}(h:oI P ops n e):KK e.h e.k e.m.h e.m.k:=by
 rcases h.2.2 with⟨_,_,b⟩| ⟨_,_,_,b⟩| ⟨_,_,c,_,b⟩| ⟨_,_,b⟩
 ·rw[b];exact KK.refl _ _
 ·rw[b];exact KK.refl _ _
 ·rw[b];exact KK.new _ _ _
 ·exact b.1
def f8:∀(r:List En)(s c:HS),gA s r c->(∀x∈r,oI P ops n x)->KK s.h s.k c.h c.k/\ ∀x∈r,s.k<=x.k/\x.m.k<=c.k
 | [],s,c,h,_=>by have h:c=s:=h;subst h;exact⟨KK.refl _ _,fun x b=>by cases b⟩
 |e::r,s,c,⟨v,t,q,u⟩,d=>by
  obtain⟨j,l⟩:=f8 r _ c u (fun x b=>d x (by simp[b]));have i:=oK ⟨s.f,e.m.h,e.m.k⟩ e.o.dst e.m.x;rw[i.1,i.2]at j;rw[i.2]at l;have p:=(d e S_).kk;rw[t,q]at p;refine⟨p.trans j,fun x b=>?_⟩;rcases f_.1 b with rfl|b
  ·exact⟨Nat.le_of_eq q.symm,j.1⟩
  ·exact⟨V_ p.1 (l x b).1,(l x b).2⟩
def D2{f:Tr HV}{o:Oper}{v:HV}:∀(r:List En)(s q:HS)(d:Tr HB),gA s r q->(∀x∈r,oI P ops n x)->NH s.h s.k->(∀i b,d.get i=some b->s.h.get i=some b)->hop P f d o=some v->(∀x∈r,x.c=3->hop P f x.m.h o=some v) ->
 ∃d:Tr HB,(∀i b,d.get i=some b->q.h.get i=some b)/\hop P f d o=some v
 | [],s,q,d,h,_,_,t,u,_=>by have h:q=s:=h;subst h;exact⟨d,t,u⟩
 |e::r,s,q,d,⟨K,A,E,H⟩,p,y,t,u,F=>by
  have C:=oK ⟨s.f,e.m.h,e.m.k⟩ e.o.dst e.m.x;have G:=(p e S_).kk;rw[A,E]at G;have z:NH (HS.put ⟨s.f,e.m.h,e.m.k⟩ e.o.dst e.m.x).h (HS.put ⟨s.f,e.m.h,e.m.k⟩ e.o.dst e.m.x).k:=by rw[C.1,C.2];exact G.2 y
  have j:∀d:Tr HB,(∀i b,d.get i=some b->e.m.h.get i=some b)->hop P f d o=some v-> ∃d:Tr HB,(∀i b,d.get i=some b->q.h.get i=some b)/\hop P f d o=some v:=fun d l J=>
   D2 r _ q d H (fun x D=>p x (by simp[D])) z (by rw[C.1];exact l) J (fun x D=>F x (by simp[D]))
  rcases(p e S_).2.2 with⟨_,_,l⟩| ⟨_,_,_,l⟩| ⟨_,_,L,_,l⟩| ⟨I,_,l⟩
  ·exact j d (by rw[l];simp only;rw[A];exact t) u
  ·exact j d (by rw[l];simp only;rw[A];exact t) u
  ·refine j d (fun i b B=>?_) u;rw[l];simp only;rw[Tr.get_put,A,E,if_neg (fun e'=>by have:=t i b B;rw[e',y _ (l_ _)]at this;cases this)];exact t i b B
  ·exact j e.m.h (fun i b B=>B) (F e S_ I)
def KG{j:Nat}{b:HB}:∀(r:List En)(s p:HS),gA s r p->(∀x∈r,oI P ops n x)->j<s.k->s.h.get j=some b->(∀x∈r,x.c=3->x.m.h.get j=x.h.get j)->p.h.get j=some b
 | [],s,p,h,_,_,i,_=>by have h:p=s:=h;subst h;exact i
 |e::r,s,p,⟨D,q,v,A⟩,d,B,i,y=>by
  have u:=oK ⟨s.f,e.m.h,e.m.k⟩ e.o.dst e.m.x;have z:=(d e S_).kk;rw[q,v]at z;refine KG r _ p A (fun x t=>d x (by simp[t])) (by rw[u.2];exact k_ B z.1) ?_ (fun x t=>y x (by simp[t]));rw[u.1];rcases(d e S_).2.2 with⟨_,_,l⟩| ⟨_,_,_,l⟩| ⟨_,_,E,_,l⟩| ⟨C,_,l⟩
  ·rw[l];simp only;rw[q];exact i
  ·rw[l];simp only;rw[q];exact i
  ·rw[l];simp only;rw[Tr.get_put,q,v,if_neg O_];exact i
  ·rw[y e S_ C,q];exact i
end
section
variable {P:Program}{g g':Nat->Option HG}{w0 w w':World}{h:Nat->Option HB}{k n:Nat}{a:Act}{ops:Array Oper}
def HR.sub(e:HR g w0 h k w){l:Nat->Option HB}(f:∀i b,l i=some b->h i=some b):HR g w0 l k w where
 tb:=e.tb
 bel:=e.bel
 nx:=e.nx
 nh i hi:=by
  cases hq:l i with
  |none=>rfl
  |some b=>have:=f i b hq;rw[e.nh i hi]at this;cases this
 gl:=e.gl
 blk i b u h1 h3:=e.blk i b u (f i b h1) h3
 inj i j c d u u' h1 h3 h4 h5 h6 h7 h8:=e.inj i j c d u u' (f i c h1) (f j d h3) h4 h5 h6 h7 h8
def HR.pend(f:HR g w0 h k w)(b:HB):HR g w0 (fG h k b) (k+1) w where
 tb:=f.tb
 bel:=f.bel
 nx i hi:=f.nx i O_
 nh i hi:=by unfold fG;rw[if_neg O_];exact f.nh i O_
 gl:=f.gl
 blk i c u h1 h2:=by
  unfold fG at h1;split at h1
  ·rename_i e;subst e;rw[f.nx _ (l_ _)]at h2;cases h2
  ·exact f.blk i c u h1 h2
 inj i j c d u u' h1 h3 h4 h5 h6 h7 h8:=by
  unfold fG at h1 h3;split at h1
  ·rename_i e;subst e;rw[f.nx _ (l_ _)]at h6;cases h6
  ·split at h3
   ·rename_i e;subst e;rw[f.nx _ (l_ _)]at h7;cases h7
   ·exact f.inj i j c d u u' h1 h3 h4 h5 h6 h7 h8
def rF{j:Nat}{u:HG}(c:g j=none):yx g (dH g j u):=fun i v b=>by
 unfold dH;split
 ·rename_i e;subst e;rw[c]at b;cases b
 ·exact b
def HR.real(f:HR g w0 h k w){j N d:Nat}{b:HB}{l:Obj}(x:j<k)(s:h j=some b)(p:g j=none)(v:v8 g l N b):HR (dH g j ⟨w.heap.size,0,N⟩) w0 h k { w with heap:=w.heap.push l,drawn:=d } where
 tb:=f.tb
 bel:=f.bel.trans (sG f.bel.size)
 nx i hi:=by unfold dH;rw[if_neg O_];exact f.nx i hi
 nh:=f.nh
 gl i hi:=by obtain⟨m,t⟩:=f.gl i hi;exact⟨m,rF p i _ t⟩
 blk i c u h1 h2:=by
  unfold dH at h2;split at h2
  ·rename_i e;subst e;cases h2;rw[s]at h1;cases h1;exact v.blk (rF p) f.bel.size
  ·refine(f.blk i c u h1 h2).keep (rF p) fun o=>?_;have:=((f.blk i c u h1 h2).lt o).1;simp only;rw[Array.getElem?_push,if_neg O_]
 inj i i' c e u u' h1 o h4 h5 h6 h7 h8:=by
  unfold dH at h6 h7;split at h6
  ·rename_i q;cases h6;split at h7
   ·rename_i r;rw[q,r]
   ·have:=((f.blk i' e u' o h7).lt h5).1;simp only at h8;omega
  ·split at h7
   ·cases h7;have:=((f.blk i c u h1 h6).lt h4).1;simp only at h8;omega
   ·exact f.inj i i' c e u u' h1 o h4 h5 h6 h7 h8
def Va{s':HS}:∀(post:List En)(i:HS),gA i post s'->(∀x∈post,oI P ops n x)->HR g w0 i.h.get i.k w-> ∃s p b,post=s++p/\gA i s b/\gA b p s'/\(∀x∈s,x.c≠3)/\(p=[]∨ ∃e r,p=e::r/\e.c=3)/\HR g w0 b.h.get b.k w
 | [],i,h,_,j=>⟨[],[],i,rfl,rfl,h,fun x d=>(by cases d), .inl rfl,j⟩
 |e::r,i,h,q,j=>by
  by_cases v:e.c=3
  ·exact⟨[],e::r,i,rfl,rfl,h,fun x d=>(by cases d), .inr ⟨e,r,rfl,v⟩,j⟩
  ·obtain⟨z,t,u,A⟩:=h;have y:=oK ⟨i.f,e.m.h,e.m.k⟩ e.o.dst e.m.x;obtain⟨s,p,b,B,C,D,E,F,G⟩:=Va r _ A (fun x d=>q x (by simp[d])) (by
    rw[y.1,y.2];rcases(q e S_).2.2 with⟨_,_,l⟩| ⟨_,_,_,l⟩| ⟨_,_,I,_,l⟩| ⟨H,_,l⟩
    ·rw[l];simp only;rw[t,u];exact j
    ·rw[l];simp only;rw[t,u];exact j
    ·rw[l];simp only;rw[t,u,cY];exact j.pend _
    ·exact absurd H v)
   refine⟨e::s,p,b,by rw[B];rfl,⟨z,t,u,C⟩,D,fun x d=>?_,F,G⟩;rcases f_.1 d with rfl|d
   ·exact v
   ·exact E x d
structure DI (P:Program) (ops:Array Oper) (n:Nat) (s0 s':HS) (g0:Nat->Option HG) (w0:World) (es:List En) (L:Nat->Bool) (a:Act) (w:World) (g:Nat->Option HG) (pre post:List En) (sp:HS):Prop where
 es:es=pre++post
 c1:gA s0 pre sp
 c2:gA sp post s'
 w1:∀x∈pre,x.c=3->L x.i=true
 w2:∀x∈post,L x.i=false
 hd:post=[]∨ ∃e r,post=e::r/\e.c=3
 hr:HR g w0 sp.h.get sp.k w
 sm:gM s0.k g0 g
 pd:∀x∈pre,x.c=2->L x.i=false->g x.k=none
 tm:∀t,VR g (j7 L pre (fv s0.f) t) (a.tmps.getD t undef)
 df:a.defers=[]
 sz:n<=a.tmps.size
def RD{x y:Oper}{t:Nat}(b:x.dst=some t)(c:t∈UO ops y):ge (re ops x) (re ops y)=true:=qq (x:=re ops x) (y:=re ops y) b c
def R5{x y:Oper}{t:Nat}(b:y.dst=some t)(c:t∈UO ops x):ge (re ops x) (re ops y)=true:=qV (x:=re ops x) (y:=re ops y) b c
def RL{x y:Oper}{t:Nat}(b:x.dst=some t)(c:y.dst=some t):ge (re ops x) (re ops y)=true:=Ac (x:=re ops x) (y:=re ops y) b c
def RA{o:Oper}{y:Operand}(c:y∈o.op.operands.toList){t:Nat}(b:t∈OZ y):t∈UO ops o:=List.mem_append_right _ (List.mem_flatMap.2 ⟨y,c,b⟩)
def Fv{F s':HS}{g0:Nat->Option HG}{es:List En}{L L':Nat->Bool}{pre post:List En}{T:HS}{i:Nat}{o:Oper}{Q:Exit->Act->World->Prop}{K:Act->World->Prop}(hT:∀C e p2,es=C++e::p2->oI P ops n e/\(∀x∈C,PC P ops x e/\x.i≠e.i)/\ ∀ed∈e.o.after.toList,Region.binds .any ed=true-> ∃x∈C,x.i=ed.on)(b3:NH F.h F.k)(hD:DI P ops n F s' g0 w0 es L a w g pre post T)(ho:ops[i]? =some o)(hi:L i=false)(H:∀j,L' j=if j=i then true else L j)(a4:∀j,(fe ops i).testBit j=true->L j=true)(b2:∀e∈es,L e.i=true->(fe ops e.i).testBit i=false)(b1:∃e∈es,e.i=i)(hK:∀a' w' g' br be cd,DI P ops n F s' g0 w0 es L' a' w' g' br be cd->K a' w'):wpOp P ops Q i K a w:=by
 obtain⟨e,bk,B⟩:=b1;obtain⟨C,p2,l⟩:=List.append_of_mem bk;obtain⟨a2,a3,_⟩:=hT C e p2 l;have b0:e.o=o:=by have:=a2.1;rw[B,ho]at this;exact(Option.some.inj this).symm
 have G:∀x∈p2,PC P ops e x/\e.i≠x.i:=fun x hx=>by obtain⟨q1,E,hq⟩:=List.append_of_mem hx;have:=(hT (C++e::q1) x E (by rw[l,hq];simp)).2.1 e S_;exact this
 have D:∀x∈es,oI P ops n x:=fun x hx=>by obtain⟨q1,E,hq⟩:=List.append_of_mem hx;exact(hT q1 x E hq).1
 have X:∀x∈p2,L x.i=true->PC P ops e x->ge (re ops e.o) (re ops x.o)=false/\e.c≠3/\(x.c=3->(e.c=1->hop P e.f x.m.h e.o=some e.m.x)/\(e.c=2->x.m.h.get e.k=x.h.get e.k)):=fun x hx W s=>by
  rcases s with h1|h1
  ·rw[B]at h1;have:=b2 x (by rw[l];simp[hx]) W;rw[this]at h1;cases h1
  ·exact h1
 have A:(∃E,pre=C++e::E/\p2=E++post)∨(pre=C/\post=e::p2):=by
  have h1:pre++post=C++e::p2:=by rw[<- hD.es,l]
  rcases List.append_eq_append_iff.1 h1 with⟨c,hc1,u⟩| ⟨c,hc1,u⟩
  ·cases c with
   |nil=>exact .inr ⟨by simpa using hc1.symm,by simpa using u⟩
   |cons y c=>
    exfalso;rcases hD.hd with s| ⟨z,r,s,hz⟩
    ·rw[s]at u;cases u
    ·rw[s]at u;simp only[List.cons_append,List.cons.injEq]at u;have hy:z=y:=u.1;have cc:y∈C:=by rw[hc1];simp
     rcases(a3 y cc).1 with U| ⟨_,U,_⟩
     ·rw[B]at U;have h3:=a4 _ U;rw[hD.w2 y (by rw[s,hy];simp)]at h3;cases h3
     ·exact U (by rw[<- hy];exact hz)
  ·cases c with
   |nil=>exact .inr ⟨by simpa using hc1,by simpa using u.symm⟩
   |cons y c=>simp only[List.cons_append,List.cons.injEq]at u;exact .inl ⟨c,by rw[hc1,u.1],u.2⟩
 have Y:∀t∈UO ops e.o,VR g (fv e.f t) (a.tmps.getD t undef):=by
  intro t ht;have h1:=hD.tm t;have a0:j7 L pre (fv F.f) t=fv e.f t:=by
   obtain⟨Z,bq⟩:∃Z,gA F C Z/\e.f=Z.f:=by
    rcases A with⟨E,s,_⟩| ⟨s,hp2⟩
    ·have:=hD.c1;rw[s,gP]at this;obtain⟨Z,U,h3,_⟩:=this;exact⟨Z,U,h3⟩
    ·have:=hD.c2;rw[hp2]at this;obtain⟨h3,_⟩:=this;exact⟨T,by rw[<- s];exact hD.c1,h3⟩
   rw[bq.2,<- pC C F Z bq.1];have a5:j7 L C (fv F.f) t=j7 (fun _=>true) C (fv F.f) t:=ki C _ _ rfl fun x hx hd=>by
    rcases(a3 x hx).1 with U| ⟨U,_⟩
    ·rw[B]at U;exact a4 _ U
    ·rw[RD hd ht]at U;cases U
   rcases A with⟨E,s,hp2⟩| ⟨s,_⟩
   ·rw[s,oF,<- a5];have bb:j7 L (e::E) (j7 L C (fv F.f)) t=j7 (fun _=>false) (e::E) (j7 L C (fv F.f)) t:=ki _ _ _ rfl fun x hx hd=>by
     rcases f_.1 hx with rfl|hx
     ·rw[B];exact hi
     ·cases hq:L x.i with
      |false=>rfl
      |true=>have:=(X x (by rw[hp2];simp[hx]) hq (G x (by rw[hp2];simp[hx])).1).1;rw[R5 hd ht]at this;cases this
    rw[bb,ko _ _ fun _ _=>rfl]
   ·rw[s];exact a5
  rw[<- a0];exact h1
 have hE:Se g e.f a e.o.op.operands.toList:=fun y hy=>Ia hD.hr fun t ht=>Y t (RA hy ht);have hgd:∀{b:Bool},hgd ops e.f e.o=some b->Region.wanted e.o (yielded ops a.tmps)=b:=fun h=>Cf h fun t ht=>Y t (List.mem_append_left _ ht);unfold wpOp;rw[ho];dsimp only;rw[<- b0];have a1:∀E,pre=C++e::E->p2=E++post-> ∀(g':Nat->Option HG)(v:Value)(w':World),yx g g'->HR g' w0 T.h.get T.k w'->gM F.k g0 g'->(∀x∈pre,x.c=2->L' x.i=false->g' x.k=none)->e.c≠3->VR g' e.m.x v->K (a.put e.o.dst v) w':=by
  intro E s hp2 g' v w' he b9 ca b4 cf hv;refine hK _ _ g' pre post T ⟨hD.es,hD.c1,hD.c2,fun x hx S=>?_,fun x hx=>?_,hD.hd,b9,ca,b4,fun t=>?_,?_,?_⟩
  ·rw[H];split
   ·rfl
   ·exact hD.w1 x hx S
  ·rw[H,if_neg (fun e'=>(G x (by rw[hp2];simp[hx])).2 (by rw[B];exact e'.symm))];exact hD.w2 x hx
  ·have ao:=FR.put (n:=n) (g:=g') (f:=j7 L pre (fv F.f)) (a:=a) (x:=e.m.x) (v:=v) (d:=e.o.dst) ⟨fun t=>(hD.tm t).mono he,hD.df,hD.sz⟩ hv a2.2.1;have:=ao.tm t;have a0:j7 L' pre (fv F.f) t=if e.o.dst=some t then e.m.x else j7 L pre (fv F.f) t:=by
    have ad:L' e.i=true:=by rw[H,if_pos B]
    have al:∀x∈C,L' x.i=L x.i:=fun x hx=>by rw[H,if_neg (fun e'=>(a3 x hx).2 (by rw[B];exact e'))]
    have O:∀x∈E,L' x.i=L x.i:=fun x hx=>by rw[H,if_neg (fun e'=>(G x (by rw[hp2];simp[hx])).2 (by rw[B];exact e'.symm))]
    rw[s,oF,oF];have h1:j7 L' C (fv F.f)=j7 L C (fv F.f):=funext fun t=>ki C _ _ rfl fun x hx _=>al x hx;rw[h1];simp only[j7,ad,show L e.i=false by rw[B];exact hi];by_cases hd:e.o.dst=some t
    ·rw[if_pos hd];have U:j7 L' E (fun t=>if e.o.dst=some t then e.m.x else j7 L C (fv F.f) t) t=j7 (fun _=>false) E (fun t=>if e.o.dst=some t then e.m.x else j7 L C (fv F.f) t) t:=ki E _ _ rfl fun x hx bx=>by
      rw[O x hx];cases hq:L x.i with
      |false=>rfl
      |true=>have:=(X x (by rw[hp2];simp[hx]) hq (G x (by rw[hp2];simp[hx])).1).1;rw[RL hd bx]at this;cases this
     rw[U,ko _ _ fun _ _=>rfl,if_pos hd]
    ·rw[if_neg hd];exact ki E _ _ (by rw[if_neg hd]) fun x hx _=>O x hx
   rw[a0];exact this
  ·cases hd:e.o.dst<;>exact hD.df
  ·cases hd:e.o.dst
   ·exact hD.sz
   ·simpa[Act.put]using hD.sz
 have ag:∀x∈pre,x.c=2->L' x.i=false->g x.k=none:=fun x hx S W=>hD.pd x hx S (by rw[H]at W;split at W;cases W;exact W);rcases a2.2.2 with⟨h0,hg,hm⟩| ⟨h0,hg,hx,hm⟩| ⟨h0,hg,xf,hx,hm⟩| ⟨h0,hg,cb⟩
 ·rw[if_neg (by rw[hgd hg];simp)];rcases A with⟨E,s,hp2⟩| ⟨s,hp2⟩
  ·exact a1 E s hp2 g undef w (yx.refl g) hD.hr hD.sm ag O_ (by rw[hm];exact nQ)
  ·exact RO
 ·rw[if_pos (hgd hg)];rcases A with⟨E,s,hp2⟩| ⟨s,hp2⟩
  ·have I:=hD.c1;rw[s,gP]at I;obtain⟨Z,hc1,hf,hh,hk,u⟩:=I;have bp:NH Z.h Z.k:=(f8 C F Z hc1 (fun x hx=>D x (by rw[l];simp[hx]))).1.2 b3;have e1:=oK ⟨Z.f,e.m.h,e.m.k⟩ e.o.dst e.m.x;obtain⟨hs,u1,u2⟩:=D2 (P:=P) (ops:=ops) (n:=n) E _ T e.h u (fun x hx=>D x (by rw[l,hp2];simp[hx])) (by rw[e1.1,e1.2,hm];simp only;rw[hh,hk];exact bp) (by rw[e1.1,hm];exact fun i b h=>h) hx (fun x hx S=>by
    have R:x∈p2:=by rw[hp2];simp[hx]
    exact((X x R (hD.w1 x (by rw[s];simp[hx]) S) (G x R).1).2.2 S).1 h0)
   obtain⟨v,r1,r2⟩:=IL (h:=hs) (hD.hr.sub u1) u2 hE;refine .inl ?_;unfold Oper.wp;rw[r1];exact a1 E s hp2 g v w (yx.refl g) hD.hr hD.sm ag O_ r2
  ·exact RO
 ·rw[if_pos (hgd hg)];rcases A with⟨E,s,hp2⟩| ⟨s,hp2⟩
  ·have I:=hD.c1;rw[s,gP]at I;obtain⟨Z,hc1,hf,hh,hk,u⟩:=I;have J:=f8 C F Z hc1 (fun x hx=>D x (by rw[l];simp[hx]));have e1:=oK ⟨Z.f,e.m.h,e.m.k⟩ e.o.dst e.m.x;have V:=f8 E _ T u (fun x hx=>D x (by rw[l,hp2];simp[hx]));rw[e1.1,e1.2,hm]at V;simp only at V;have bN:e.k<T.k:=k_ (m_ _) V.1.1;have bm:T.h.get e.k=some e.b:=KG (P:=P) (ops:=ops) (n:=n) E _ T u (fun x hx=>D x (by rw[l,hp2];simp[hx])) (by rw[e1.2,hm];simp) (by rw[e1.1,hm];simp[Tr.get_put]) (fun x hx S=>by
    have R:x∈p2:=by rw[hp2];simp[hx]
    exact((X x R (hD.w1 x (by rw[s];simp[hx]) S) (G x R).1).2.2 S).2 h0)
   have bo:g e.k=none:=hD.pd e (by rw[s];simp) h0 (by rw[B];exact hi);obtain⟨cj,N,v,d,r1,r2,r3⟩:=It hx hE w;refine .inl ?_;unfold Oper.wp;rw[r1];refine a1 E s hp2 (dH g e.k ⟨w.heap.size,0,N⟩) v _ (rF bo) (hD.hr.real bN bm bo r2) (fun j hj=>?_) (fun x hx S W=>?_) O_ (by rw[hm];exact r3 _ _ (by unfold dH;simp))
   ·unfold dH;rw[if_neg (by have:=J.1.1;omega)];exact hD.sm j hj
   ·have h9:=ag x hx S W;unfold dH;rw[if_neg]
    ·exact h9
    ·intro ci;rw[s]at hx;rcases List.mem_append.1 hx with hx|hx
     ·have h8:=(J.2 x hx).2;obtain⟨_,_,hx3⟩:=D x (by rw[l];simp[hx]);exact UL
     ·rcases f_.1 hx with rfl|hx
      ·rw[H,if_pos B]at W;cases W
      ·have:=(V.2 x hx).1;omega
  ·exact RO
 ·rw[if_pos (hgd hg)];rcases A with⟨E,s,hp2⟩| ⟨s,hp2⟩
  ·have:=hD.w1 e (by rw[s];simp) h0;rw[B,hi]at this;cases this
  ·have I:=hD.c2;rw[hp2]at I;obtain⟨hf,hh,hk,u⟩:=I;refine .inl (cb.2 g w0 a w K Q (by rw[hh,hk];exact hD.hr) hE fun g' v w' s1 s2 s3=>?_);have e1:=oK ⟨T.f,e.m.h,e.m.k⟩ e.o.dst e.m.x;obtain⟨r2,r3,bs,d1,d2,d3,d4,d5,d6⟩:=Va (P:=P) (ops:=ops) (n:=n) p2 _ u (fun x hx=>D x (by rw[l];simp[hx])) (by rw[e1.1,e1.2];exact s2);have J:=f8 C F T (by rw[<- s];exact hD.c1) (fun x hx=>D x (by rw[l];simp[hx]));have a9:=f8 r2 _ bs d2 (fun x hx=>D x (by rw[l,d1];simp[hx]));rw[e1.2]at a9;have ad:L' e.i=true:=by rw[H,if_pos B]
   have al:∀x∈C,L' x.i=L x.i:=fun x hx=>by rw[H,if_neg (fun e'=>(a3 x hx).2 (by rw[B];exact e'))]
   have O:∀x∈p2,L' x.i=false:=fun x hx=>by rw[H,if_neg (fun e'=>(G x hx).2 (by rw[B];exact e'.symm))];exact hD.w2 x (by rw[hp2];simp[hx])
   have bj:=hD.hr.ext (k:=T.k) (g':=g') (by rw[<- hk];exact s1);refine hK _ _ g' (C++e::r2) r3 bs ⟨by rw[l,d1];simp,?_,d3,fun x hx S=>?_,fun x hx=>O x (by rw[d1];simp[hx]),d5,d6,fun j hj=>?_,fun x hx S W=>?_,fun t=>?_,?_,?_⟩
   ·rw[gP];exact⟨T,by rw[<- s];exact hD.c1,hf,hh,hk,d2⟩
   ·rcases List.mem_append.1 hx with hx|hx
    ·rw[al x hx];exact hD.w1 x (by rw[s];exact hx) S
    ·rcases f_.1 hx with rfl|hx
     ·exact ad
     ·exact absurd S (d4 x hx)
   ·have:=J.1.1;rw[s1 j (by rw[hk];omega)];exact hD.sm j hj
   ·rcases List.mem_append.1 hx with hx|hx
    ·have h8:=(J.2 x hx).2;obtain⟨_,_,hx3⟩:=D x (by rw[l];simp[hx]);have h9:x.k<T.k:=by exact UL
     rw[s1 x.k (by rw[hk];exact h9)];exact hD.pd x (by rw[s];exact hx) S (by rw[<- al x hx];exact W)
    ·rcases f_.1 hx with rfl|hx
     ·rw[ad]at W;cases W
     ·exact s2.nx _ (a9.2 x hx).1
   ·have ao:=FR.put (n:=n) (g:=g') (f:=j7 L pre (fv F.f)) (a:=a) (x:=e.m.x) (v:=v) (d:=e.o.dst) ⟨fun t=>(hD.tm t).mono bj,hD.df,hD.sz⟩ s3 a2.2.1;have:=ao.tm t;have a0:j7 L' (C++e::r2) (fv F.f) t=if e.o.dst=some t then e.m.x else j7 L pre (fv F.f) t:=by rw[oF,s];have h1:j7 L' C (fv F.f)=j7 L C (fv F.f):=funext fun t=>ki C _ _ rfl fun x hx _=>al x hx;rw[h1];simp only[j7,ad];rw[ko r2 _ fun x hx=>O x (by rw[d1];simp[hx])]
    rw[a0];exact this
   ·cases hd:e.o.dst<;>exact hD.df
   ·cases hd:e.o.dst
    ·exact hD.sz
    ·simpa[Act.put]using hD.sz
def Gx{u s':HS}{g0:Nat->Option HG}{C:List En}{Q:Exit->Act->World->Prop}(hT:∀p1 e p2,C=p1++e::p2->oI P ops n e/\(∀x∈p1,PC P ops x e/\x.i≠e.i)/\ ∀ed∈e.o.after.toList,Region.binds .any ed=true-> ∃x∈p1,x.i=ed.on)(y:∀i,i<ops.size-> ∃x∈C,x.i=i)(X:NH u.h u.k)(ad:mr ops=true)(hK:∀a w g,HR g w0 s'.h.get s'.k w->gM u.k g0 g->FR n g (fv s'.f) a->Q .normal a w):
 ∀(b:Nat)(listed:Array Bool),listed.size=ops.size->listed.toList.count false<=b->Co ops listed ->
  ∀(g:Nat->Option HG)(a:Act)(w:World)(pre post:List En)(m:HS),DI P ops n u s' g0 w0 C (fun i=>listed.getD i false) a w g pre post m->wpAny P .any ops Q b listed a w:=by
 have q:∀x∈C,oI P ops n x:=fun x J=>by obtain⟨q1,q2,Y⟩:=List.append_of_mem J;exact(hT q1 x q2 Y).1
 have F:∀(listed:Array Bool),listed.size=ops.size->Region.ready .any ops listed=[]-> ∀(g:Nat->Option HG)(a:Act)(w:World)(pre post:List En)(m:HS),DI P ops n u s' g0 w0 C (fun i=>listed.getD i false) a w g pre post m->Q .normal a w:=by
  intro listed D E g a w pre post m c;have d:=sx ad D E;have I:∀x∈C,listed.getD x.i false=true:=fun x J=>d _ (A_.1 (q x J).1).1;have A:post=[]:=by
   rcases c.hd with O| ⟨e,r,O,_⟩
   ·exact O
   ·have h1:=c.w2 e (by rw[O];simp);have h2:=I e (by rw[c.es,O];simp);rw[h2]at h1;cases h1
  have Z:s'=m:=by have:=c.c2;rw[A]at this;exact this
  subst Z;refine hK a w g c.hr c.sm ⟨fun t=>?_,c.df,c.sz⟩;rw[<- pC pre u s' c.c1];have h1:=c.tm t;have:j7 (fun i=>listed.getD i false) pre (fv u.f) t=j7 (fun _=>true) pre (fv u.f) t:=ki pre _ _ rfl fun x J _=>I x (by rw[c.es];simp[J]);rw[<- this];exact h1
 intro b;induction b with
 |zero=>
  intro listed D hc l g a w pre post m c;have E:Region.ready .any ops listed=[]:=by exact T6
  exact⟨E,F listed D E g a w pre post m c⟩
 |succ b ih=>
  intro listed D hc l g a w pre post m c;refine⟨fun E=>F listed D E g a w pre post m c,fun i hi=>?_⟩;obtain⟨h1,o,ho,d⟩:=mem_ready.1 hi;have U:i<ops.size:=(A_.1 ho).1;have hil:i<listed.size:=O_;have v:listed.getD i false=false:=by simpa[hil]using h1
  have s:∀j,(listed.setIfInBounds i true).getD j false=if j=i then true else listed.getD j false:=fun j=>by
   by_cases e:j=i
   ·subst e;simp[hil]
   ·simp only[Array.getD_eq_getD_getElem?];rw[Array.getElem?_setIfInBounds_ne (Ne.symm e),if_neg e]
  have G:=jD l i _ ho d;refine Fv (L':=fun j=>(listed.setIfInBounds i true).getD j false) hT X c ho v s G (fun e N W=>?_) (y i U) fun a' w' g' K B ag R=>?_
  ·cases Y:(fe ops e.i).testBit i with
   |false=>rfl
   |true=>have H:=(q e N).1;have:=jD l e.i _ H (fun e' T S=>l e.i _ W H e' T S) i Y;rw[v]at this;cases this
  ·refine ih _ (by simp[D]) ?_ ?_ g' a' w' K B ag R
   ·have hf:listed[i]=false:=by simpa[hil]using v
    have L:(listed.setIfInBounds i true).toList.count false+1=listed.toList.count false:=by exact TZ
    omega
   ·intro k o' V z e N hb;rw[s]at V ⊢;split
    ·rfl
    ·split at V
     ·rename_i e1;subst e1;rw[ho]at z;cases z;exact d e (by simpa using N) hb
     ·exact l k o' V z e N hb
def H1{V:Nat}{p:HS->FuncId->List HV->Option HM}(q:P.follows .mixedOrders=true)(v:∀s f e m,p s f e=some m->bY P f e s.h s.k m)(A:mr ops=true){l:List Nat}{s s':HS}(O:mv P ops n p l s [] 0=some s'):SC P n (.region V ops true) s .normal s':=by
 obtain⟨u,H,I,C⟩:=qn (n:=n) v l s s' [] 0 (fun j=>by simp) (fun x d=>by cases d) O;simp only[List.nil_append]at I C;have b:∀x∈u,oI P ops n x:=fun x d=>by obtain⟨W,B,U⟩:=List.append_of_mem d;exact(C W x B U).1
 refine⟨(f8 u s s' H b).1,fun g w0 a w hr hf=>wp_region_any q ?_⟩;have z:HR g w0 s.h.get s.k { w with drawn:=w.drawn+1 }:=hr.world (Below.drew (Below.refl _ _)) (fun _ _ _ _ _ _=>rfl);obtain⟨G,B,r,D,E,J,K,L,N⟩:=Va u s H b z;have c:∀i,(Array.replicate ops.size false).getD i false=false:=fun i=>by
  rcases Nat.lt_or_ge i ops.size with h|h
  ·simp[h]
  ·simp[Nat.not_lt.2 h]
 have y:=f8 G s r E (fun x d=>b x (by rw[D];simp[d]));refine Gx (g0:=g) C I (fun i T=>hr.nh i T) A (fun X w' g' Q R S=>⟨trivial,g',R,Q,S⟩) ops.size _ S_ (by rw[Array.toList_replicate,List.count_replicate];simp) (fun k o F _=>by rw[c]at F;cases F) g a _ G B r ⟨D,E,J,fun x d v=>absurd v (K x d),fun x _=>c _,L,N,fun _ _=>rfl,fun x d _ _=>?_,fun t=>?_,hf.df,hf.sz⟩
 ·exact hr.nx _ (y.2 x d).1
 ·rw[ko _ _ fun x _=>c x.i];exact hf.tm t
end
end Go.Proofs.YtnchbpoopnjghaaGreatDoor
