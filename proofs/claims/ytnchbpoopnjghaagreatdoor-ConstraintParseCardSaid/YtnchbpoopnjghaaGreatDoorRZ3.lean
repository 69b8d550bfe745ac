/- Parts of a proof: contracts of the functions that the laws reach. -/
import Derived.Test.YtnchbpoopnjghaaGreatDoorRZ2
set_option maxHeartbeats 100000000
set_option linter.all false
open Go.Proofs.Tryz
namespace Go.Proofs.YtnchbpoopnjghaaGreatDoor
open Go.RowKit
inductive RT where
 |v (r:RV)
 |own (j n k e:Nat)
def RT.tv:RT->TV
 | .v r=>r.tv
 | .own j n k e=> .own j n k e
abbrev BL:=List (Nat × List AV)
def aB:BL->List (Nat × Option (List AV))
 | []=>[]
 |(j,b)::r=>(j,some b)::aB r
def sB(b:BL):AS:=⟨[],aB b⟩
def uj:Nat->List TV->List (Nat × TV)
 |_,[]=>[]
 |k,d::r=>(k,d)::uj (k+1) r
def qK(S:Nat->Prop)(g:Nat->Nat)(s:AS)(w:World):List TV->List Value->Prop
 | [],[]=>True
 |x::c,v::b=>TV.M S g s w x v/\qK S g s w c b
 |_,_=>False
def BX(g:Nat->Nat)(b:BL)(q:Nat):Prop:=∃j c,(sB b).bx j=some c/\g j=q
structure NV (S:Nat->Prop) (g:Nat->Nat) (w:World) (b:BL):Prop where
 tab:∀w',cu (BX g b) w w'->H3 w'
 blk:∀q,S q->q<w.heap.size/\ ¬BX g b q/\ ∀off v,w.cell? ⟨q,off,none⟩=some v->iV v=true
 gl:∀k cs,ak GT k=some cs->TV.M (Own S g (sB b)) g (sB b) w (.rp cs) (.pointer (some ⟨k,0,none⟩))
 bm:∀j cs,(sB b).bx j=some cs->nV (Own S g (sB b)) g (sB b) w j cs (g j)
 inj:∀i j ci cj,(sB b).bx i=some ci->(sB b).bx j=some cj->g i=g j->i=j
def wE(S:Nat->Prop)(g:Nat->Nat)(b:BL)(r:RT)(b':BL)(w:World)(e:Ending)(w':World):Prop:=
 ∃v d,e= .returned v/\(∀j f c,(sB b).bx j=some f->(sB b').bx j=some c->d j=g j/\f.length<=c.length) /\
  (∀j c,(sB b').bx j=some c->(w.heap.size<=d j∨BX g b (d j))/\nV (Own S d (sB b')) d (sB b') w' j c (d j)) /\
  (∀i j h l,(sB b').bx i=some h->(sB b').bx j=some l->d i=d j->i=j)/\TV.M (Own S d (sB b')) d (sB b') w' r.tv v/\cu (BX g b) w w'
structure ay (P:Program) (f:FuncId) (ts:List TV) (b:BL) (r:RT) (b':BL):Prop where
 enter:∀args w,(callFunc f args).run P w= .ok (.enter f args) w
 calls:∀S g w vs,NV S g w b->qK (Own S g (sB b)) g (sB b) w ts vs->Calls P f vs.toArray w (wE S g b r b' w)
section
variable {n:Nat}{S0:Nat->Prop}{w0:fw}{g:Nat->Nat}{s:AS}{a:Act}{w w':World}
def fM:∀(b:BL)(j:Nat),ak (aB b) j=none∨ ∃c,ak (aB b) j=some (some c)
 | [],_=> .inl rfl
 |(i,c)::r,j=>by
  by_cases e:i=j
  ·subst e;exact .inr ⟨c,ap _ _ _⟩
  ·simp only[aB,az _ _ e];exact fM r j
def dj{b:BL}{j:Nat}{cs:List AV}:(sB b).bx j=some cs↔ak (aB b) j=some (some cs):=by
 unfold sB AS.bx;constructor
 ·intro h;split at h
  ·rename_i x c;cases h;exact c
  ·cases h
 ·intro h;simp only[h]
def yP{α:Type}(x y:List (Nat × α))(j:Nat):ak (x++y) j=match ak x j with|some v=>some v|none=>ak y j:=tl x y j
def MC:Option Nat->TV->List (Nat × TV)->List (Nat × TV)
 |some d,x,t=>(d,x)::t
 |none,_,t=>t
def dY(b':BL):BL->List (Nat × Option (List AV))
 | []=>[]
 |(j,_)::r=>match ak (aB b') j with
  |some _=>dY b' r
  |none=>(j,none)::dY b' r
def m5{b':BL}:∀{b:BL}{j:Nat}{f:List AV},ak (aB b) j=some (some f)->ak (aB b') j=none->ak (dY b' b) j=some none
 | [],_,_,h,_=>by cases h
 |(i,c)::r,j,f,h,d=>by
  simp only[dY];by_cases e:i=j
  ·subst e;rw[d];exact ap _ _ _
  ·simp only[aB,az _ _ e]at h;split
   ·exact m5 h d
   ·rw[az _ _ e];exact m5 h d
def jq{b':BL}:∀{b:BL}{j:Nat},ak (aB b) j=none->ak (dY b' b) j=none
 | [],_,_=>rfl
 |(i,c)::r,j,h=>by
  by_cases e:i=j
  ·subst e;simp only[aB,ap]at h;cases h
  ·simp only[aB,az _ _ e]at h;simp only[dY];split
   ·exact jq h
   ·rw[az _ _ e];exact jq h
def TV.M.sub{S:Nat->Prop}{s s':AS}{x:TV}{v:Value}(h:TV.M S g s w x v)(l:∀j∈eu x,s'.kn j)(i:∀j b,s'.bx j=some b->s.bx j=some b):TV.M S g s' w x v:=by
 cases x with
 |d x=>exact h
 |tup z=>exact h
 |box j o=>exact⟨l j (by simp[eu]),fun b f=>h.2 b (i j b f)⟩
 |rp b=>exact h
 |own j n k e0=>exact⟨l j (by simp[eu]),fun b f=>h.2 b (i j b f)⟩
 |clo u y b=>obtain⟨r,vs,e,p,q⟩:=h;exact⟨r,vs,e,p.weak i (fun j m=>l j (by simp[eu,m])),q.weak i (fun j m=>l j (by simp[eu,m]))⟩
 |mp t=>exact h
 |nil=>exact h
 |und=>exact h
 |junk=>trivial
 |dfr=>trivial
 |vw j o n k=>exact⟨l j (by simp[eu]),fun b f=>h.2 b (i j b f)⟩
 |vs j o n c k e0=>exact⟨l j (by simp[eu]),fun b f=>h.2 b (i j b f)⟩
def MG.callT(h:MG n S0 w0 g s a w){b b':BL}(hb:ug s (aB b))(br:vB (aB b) (aB b)=true)(b2:∀j f,s.bx j=some f->j ∉ b.map (·.1)->cL j=false)(hnew:∀j f,(sB b').bx j=some f->ak (aB b) j=none->ak s.b j=none/\iO j=false):
 ∃S,NV S g w b/\Own S g (sB b)=Own S0 g s/\ ∀(r:RT)(v:Value)(R:Nat->Nat)(w':World),
  (∀j f Y,(sB b).bx j=some f->(sB b').bx j=some Y->R j=g j/\f.length<=Y.length) ->
  (∀j Y,(sB b').bx j=some Y->(w.heap.size<=R j∨BX g b (R j))/\nV (Own S R (sB b')) R (sB b') w' j Y (R j)) ->
  (∀i j l O,(sB b').bx i=some l->(sB b').bx j=some O->R i=R j->i=j)->TV.M (Own S R (sB b')) R (sB b') w' r.tv v->cu (BX g b) w w' ->
  ∀(Q:Option Nat),(∀d,Q=some d->d<n) ->
  ∃Z,MG n S0 w0 Z ⟨MC Q r.tv s.t,aB b'++dY b' b++s.b⟩ (a.put Q v) w':=by
 have D:∀j f,(sB b).bx j=some f->s.bx j=some f:=fun j f B=>hb.at (dj.1 B);have bxown:∀q,BX g b q->Own S0 g s q:=fun q⟨j,f,B,e⟩=> .inr ⟨j,f,D j f B,e⟩;have bs:∀q,S0 q-> ¬BX g b q:=fun q L⟨j,f,B,e⟩=>by
  have h1:=h.cl q L;rcases(h.bm j f (D j f B)).1 with h2|h2
  ·rw[e]at h2;exact absurd h1.1 (Nat.not_lt.2 h2)
  ·rw[e]at h2;exact h1.2.1 h2
 have I:∀i l,s.bx i=some l->ak (aB b) i=none-> ¬BX g b (g i):=fun i l z hn⟨j,f,B,e⟩=>by have:=h.inj j i f l (D j f B) z e;subst this;rw[dj.1 B]at hn;cases hn
 refine⟨fun q=>Own S0 g s q/\ ¬BX g b q,?_,?_,?_⟩
 ·refine⟨fun w' hw=>h.tg w' (h.grow.go hw (fun q⟨j,f,B,e⟩=>by rw[<- e];exact(h.bm j f (D j f B)).1)),fun q L=>⟨h.own_lt L.1,L.2,?_⟩,fun k f hk=>?_,fun j f B=>?_,fun i j l O z B e=>h.inj i j l O (D i l z) (D j O B) e⟩
  ·intro be v hv;rcases L.1 with hs| ⟨j,f,B,e⟩
   ·obtain⟨h1,G,h2⟩:=h.cl q hs;exact h2 be v (by rw[show w.cell? ⟨q,be,none⟩=w0.w.cell? ⟨q,be,none⟩ from World.cell?_of_block (h.grow.block q h1 G)]at hv;exact hv)
   ·subst e;have b3:j ∉ b.map (·.1):=fun hm=>by
     have:∀(b:BL),j∈b.map (·.1)-> ∃f,ak (aB b) j=some (some f):=by
      intro b;induction b with
      |nil=>intro hm;cases hm
      |cons p r ih=>
       obtain⟨i,c⟩:=p;intro hm;by_cases e:i=j
       ·subst e;exact⟨c,ap _ _ _⟩
       ·obtain⟨c',b1⟩:=ih (by simpa[show ¬j=i from fun e'=>e e'.symm]using hm);exact⟨c',by simp only[aB,az _ _ e];exact b1⟩
     obtain⟨c,F⟩:=this b hm;exact L.2 ⟨j,c,dj.2 F,rfl⟩
    have b4:cL j=false:=b2 j f B b3;obtain⟨_,N,e1,h1,_,E,_⟩:=h.bm j f B;simp only[World.cell?,h1,Option.isSome_none,Bool.false_eq_true,if_false]at hv;exact E b4 v (Array.mem_toList_iff.2 (Array.mem_of_getElem? hv))
  ·have e:Own (fun q=>Own S0 g s q/\ ¬BX g b q) g (sB b)=Own S0 g s:=by exact Sd
   rw[e];exact h.gl k f hk
  ·have e:Own (fun q=>Own S0 g s q/\ ¬BX g b q) g (sB b)=Own S0 g s:=by exact Sd
   rw[e];obtain⟨_,N,e1,p1,p2,p3,p4,p5⟩:=h.bm j f (D j f B);exact⟨N,e1,p1,p2,p3,fun hl i a v ha hv=>(p4 hl i a v ha hv).sub (fun q L=>vB.at br (dj.1 B) hl q (nf ha q L)) D,p5⟩
 ·exact Sd
 ·intro r v R w' ag a0 bq y W Q a4;generalize ao:(AS.mk (MC Q r.tv s.t) (aB b'++dY b' b++s.b))=s2;have b0:s2.b=aB b'++(dY b' b++s.b):=by rw[<- ao,e_]
  have lk:∀i,ak s2.b i=match ak (aB b') i with|some v=>some v|none=>(match ak (dY b' b) i with|some v=>some v|none=>ak s.b i):=fun i=>by rw[b0,yP,yP];cases ak (aB b') i<;>cases ak (dY b' b) i<;>rfl
  have al:∀i l,s2.bx i=some l->(sB b').bx i=some l∨((sB b').bx i=none/\ak (aB b') i=none/\ak (aB b) i=none/\s.bx i=some l):=by
   intro i l z;unfold AS.bx at z;rw[lk i]at z;rcases fM b' i with h1| ⟨f,h1⟩
   ·right;simp only[h1]at z;rcases fM b i with h2| ⟨f,h2⟩
    ·rw[jq h2]at z;refine⟨?_,h1,h2,?_⟩
     ·unfold sB AS.bx;simp only[h1]
     ·unfold AS.bx;exact z
    ·rw[m5 h2 h1]at z;cases z
   ·left;simp only[h1]at z;cases z;exact dj.2 h1
  have la:∀i l,(sB b').bx i=some l->s2.bx i=some l:=by intro i l z;unfold AS.bx;rw[lk i,dj.1 z]
  have lo:∀i l,s.bx i=some l->ak (aB b') i=none->ak (aB b) i=none->s2.bx i=some l:=by intro i l z h1 h2;unfold AS.bx;rw[lk i,h1,jq h2];exact z
  generalize bo:(fun i=>match ak (aB b') i with|some _=>R i|none=>g i)=Z;have A:∀i l,(sB b').bx i=some l->Z i=R i:=fun i l z=>by rw[<- bo];simp only[dj.1 z]
  have H:∀i,ak (aB b') i=none->Z i=g i:=fun i z=>by rw[<- bo];simp only[z]
  have b9:∀i l,(sB b').bx i=some l->s.kn i-> ∃f,(sB b).bx i=some f:=by
   intro i l z hk;rcases fM b i with h1| ⟨f,h1⟩
   ·obtain⟨x,G⟩:=hk;rw[(hnew i l z h1).1]at G;cases G
   ·exact⟨f,dj.2 h1⟩
  have eO:Own S0 Z s2=Own (fun q=>Own S0 g s q/\ ¬BX g b q) R (sB b'):=by
   funext q;apply propext;constructor
   ·rintro(h1| ⟨i,l,z,e⟩)
    ·exact .inl ⟨.inl h1,bs q h1⟩
    ·rcases al i l z with h1| ⟨h1,h2,E,J⟩
     ·exact .inr ⟨i,l,h1,by rw[<- A i l h1];exact e⟩
     ·rw[H i h2]at e;subst e;exact .inl ⟨.inr ⟨i,l,J,rfl⟩,I i l J E⟩
   ·rintro(⟨h1| ⟨i,l,z,e⟩,h2⟩| ⟨i,l,z,e⟩)
    ·exact .inl h1
    ·have bk:ak (aB b) i=none:=by
      rcases fM b i with E| ⟨f,E⟩
      ·exact E
      ·exact absurd ⟨i,f,dj.2 E,e⟩ h2
     have a1:ak (aB b') i=none:=by
      rcases fM b' i with E| ⟨f,E⟩
      ·exact E
      ·obtain⟨x,G⟩:=AS.kn_of z;rw[(hnew i f (dj.2 E) bk).1]at G;cases G
     exact .inr ⟨i,l,lo i l z a1 bk,by rw[H i a1];exact e⟩
    ·exact .inr ⟨i,l,la i l z,by rw[A i l z];exact e⟩
  have hA:b7 (Own S0 g s) w w':=⟨W.size,fun q L hn=>W.block q L (fun G=>hn (bxown q G))⟩;have hS:∀q,q<w.heap.size->Own S0 Z s2 q->Own S0 g s q:=by
   intro q L h1;rw[eO]at h1;rcases h1 with h1| ⟨i,l,z,e⟩
   ·exact h1.1
   ·rcases(a0 i l z).1 with h2|h2
    ·omega
    ·rw[e]at h2;exact bxown q h2
  have hF:jP s s2 g Z w w':=by
   refine⟨fun j B=>?_,fun j U hk B=>?_⟩
   ·obtain⟨x,G⟩:=B;unfold AS.kn;rw[lk j];split
    ·exact⟨_,rfl⟩
    ·split
     ·exact⟨_,rfl⟩
     ·exact⟨x,G⟩
   ·rcases al j U B with h1| ⟨h1,h2,E,J⟩
    ·obtain⟨f,bb⟩:=b9 j U h1 hk;obtain⟨h5,h6⟩:=ag j f U bb h1;refine⟨f,D j f bb,h6,by rw[A j U h1,h5],fun N e he=>?_⟩;obtain⟨a2,f2,k1,k2⟩:=W.shp (g j) (A_.1 he).1 ⟨j,f,bb,rfl⟩ N e (0,0) he;obtain⟨_,a3,e3,k3,_⟩:=a0 j U h1;rw[h5,k1]at k3;cases k3;exact⟨_,k1,k2⟩
    ·refine⟨U,J,l_ _,H j h2,fun N e he=>⟨N,?_,rfl⟩⟩;exact(W.block (g j) (A_.1 he).1 (I j U J E)).trans he
  have V:∀j,(sB b').kn j->s2.kn j:=fun j⟨x,G⟩=>by have G:ak (aB b') j=some x:=G;unfold AS.kn;rw[lk j,G];exact⟨x,rfl⟩
  have C:∀j f,(sB b').kn j->s2.bx j=some f->(sB b').bx j=some f:=fun j f⟨x,G⟩B=>by
   rcases al j f B with h1| ⟨_,h2,_⟩
   ·exact h1
   ·have G:ak (aB b') j=some x:=G;rw[h2]at G;cases G
  refine⟨Z,fun k=>?_,fun i l z=>?_,fun i j l O z B e=>?_,h.grow.go W (fun q⟨j,f,B,e⟩=>by rw[<- e];exact(h.bm j f (D j f B)).1),by
   rw[xO,show s2.tv DK=s.tv DK by
    rw[<- ao];cases Q with
    |none=>rfl
    |some d=>exact rK (a4 d rfl) h.nk]
   exact h.df.agree hF,by cases Q<;>simpa[Act.put]using h.sz,h.cl,h.tg,fun k f hk=>(h.gl k f hk).agree hA hS hF,fun i q l h1 h2 z=>?_,h.nk⟩
  ·have a5:∀q,TV.M (Own S0 Z s2) Z s2 w' (s.tv q) (a.tmps.getD q Go.undef):=fun q=>(h.tm q).agree hA hS hF;cases Q with
   |none=>
    have:s2.tv k=s.tv k:=by rw[<- ao];rfl
    rw[this];exact a5 k
   |some d=>
    by_cases hk:d=k
    ·subst hk;have e1:s2.tv d=r.tv:=by rw[<- ao];simp[AS.tv,MC,ap]
     rw[e1];have e2:(a.put (some d) v).tmps.getD d Go.undef=v:=by simp[Act.put,h.sz,a4 d rfl]
     rw[e2,eO];generalize r.tv=x at y;cases x with
     |d x=>exact y
     |tup ts=>exact y
     |box j o=>exact⟨V j y.1,fun f F=>by have:=C j f y.1 F;rw[A j f this];exact y.2 f this⟩
     |rp f=>exact y
     |own j m q e0=>exact⟨V j y.1,fun f F=>by have:=C j f y.1 F;rw[A j f this];exact y.2 f this⟩
     |clo fn fs f=>
      have F:∀{xs:List CV}{vs:List Value},rd R (sB b') xs vs->rd Z s2 xs vs:=by
       intro xs;induction xs with
       |nil=>intro vs h;cases vs with
        |nil=>trivial
        |cons=>exact h.elim
       |cons c xs ih=>intro vs h;cases vs with
        |nil=>exact h.elim
        |cons v vs=>
         refine⟨?_,ih h.2⟩;cases c with
         |val u=>exact h.1
         |box j o=>exact⟨V j h.1.1,fun f F=>by have:=C j f h.1.1 F;rw[A j f this];exact h.1.2 f this⟩
      obtain⟨us,vs,e,h1,h2⟩:=y;exact⟨us,vs,e,F h1,F h2⟩
     |mp es=>exact y
     |nil=>exact y
     |und=>exact y
     |junk=>trivial
     |dfr=>trivial
     |vw j o m q=>exact⟨V j y.1,fun f F=>by have:=C j f y.1 F;rw[A j f this];exact y.2 f this⟩
     |vs j o m c q e0=>exact⟨V j y.1,fun f F=>by have:=C j f y.1 F;rw[A j f this];exact y.2 f this⟩
    ·have e1:s2.tv k=s.tv k:=by rw[<- ao];simp[AS.tv,MC,az _ _ hk]
     rw[e1];have e2:(a.put (some d) v).tmps.getD k Go.undef=a.tmps.getD k Go.undef:=by simp[Act.put,Array.getElem?_setIfInBounds_ne hk]
     rw[e2];exact a5 k
  ·rcases al i l z with h1| ⟨h1,h2,E,J⟩
   ·rw[A i l h1];obtain⟨h5,h6⟩:=a0 i l h1;refine⟨?_,by
     rw[eO];obtain⟨N,e1,p1,p2,p3,p4,p5⟩:=h6;refine⟨N,e1,p1,p2,p3,fun hl q c v F hv=>?_,p5⟩;have L:=p4 hl q c v F hv;cases c with
     |ow j m k e=>exact⟨V j L.1,fun f F=>by have:=C j f L.1 F;rw[A j f this];exact L.2 f this⟩
     |bp j o=>exact⟨V j L.1,fun f F=>by have:=C j f L.1 F;rw[A j f this];exact L.2 f this⟩
     |val=>trivial
     |sl=>trivial
     |nl=>trivial⟩
    rcases h5 with h5| ⟨j,f,B,e⟩
    ·exact .inl (V_ h.grow.size h5)
    ·rw[<- e];exact(h.bm j f (D j f B)).1
   ·rw[H i h2];obtain⟨h5,h6⟩:=h.bm i l J;exact⟨h5,h6.agree (W.block _ h6.lt (I i l J E)) hA hS hF⟩
  ·have X:∀i j l O,(sB b').bx i=some l->ak (aB b) j=none->s.bx j=some O->ak (aB b') j=none->R i=g j->False:=by
    intro i j l O z hn B ca e;rcases(a0 i l z).1 with h1|h1
    ·have:=(h.bm j O B).2.lt;omega
    ·rw[e]at h1;exact I j O B hn h1
   rcases al i l z with h1| ⟨h1,h2,E,J⟩<;>rcases al j O B with ad| ⟨ad,a9,bN,bj⟩
   ·rw[A i l h1,A j O ad]at e;exact bq i j l O h1 ad e
   ·rw[A i l h1,H j a9]at e;exact(X i j l O h1 bN bj a9 e).elim
   ·rw[H i h2,A j O ad]at e;exact(X j i O l ad E J h2 e.symm).elim
   ·rw[H i h2,H j a9]at e;exact h.inj i j l O J bj e
  ·rcases al i l z with E| ⟨E,J,h5,h6⟩
   ·rw[A i l E];rcases fM b i with J| ⟨f,J⟩
    ·rw[(hnew i l E J).2]at h1;cases h1
    ·rw[(ag i f l (dj.2 J) E).1];exact h.gp i q f h1 h2 (D i f (dj.2 J))
   ·rw[H i J];exact h.gp i q l h1 h2 h6
end
section
variable {P:Program}{T:TypeId->Option Ty}{n:Nat}{S0:Nat->Prop}{w0:fw}
def qK.length{S:Nat->Prop}{g:Nat->Nat}{s:AS}{w:World}:∀{b:List TV}{c:List Value},qK S g s w b c->b.length=c.length
 | [],[],_=>rfl
 |_::b,_::c,h=>by simp[qK.length h.2]
 | [],_::_,h=>h.elim
 |_::_,[],h=>h.elim
def qK.at{S:Nat->Prop}{g:Nat->Nat}{s:AS}{w:World}:∀{f:List TV}{b:List Value},qK S g s w f b-> ∀(k i:Nat),TV.M S g s w (match ak (uj k f) i with|some v=>v|none=> .junk) (if i<k then undef else b.getD (i-k) undef)
 | [],[],_,k,i=>trivial
 |d::l,v::b,h,k,i=>by
  simp only[uj];by_cases e:k=i
  ·subst e;rw[ap];simp only[Nat.lt_irrefl,if_false,Nat.sub_self];exact h.1
  ·rw[az _ _ e];have:=qK.at h.2 (k+1) i;by_cases c:i<k
   ·rw[if_pos O_]at this;rw[if_pos c];exact this
   ·rw[if_neg O_]at this;rw[if_neg c];have j:i-k=(i-(k+1))+1:=O_;rw[j];simpa using this
 | [],_::_,h,_,_=>h.elim
 |_::_,[],h,_,_=>h.elim
def Nk(T:TypeId->Option Ty)(s:AS)(b:List ResultVar)(r:RT)(b':BL):Prop:=
 (match r with
  | .v r=>∃l,jW T s b=some l/\x3 l=r
  | .own j n k e=>∃t,b=[.tmp t]/\s.tv t= .own j n k e/\zx (s.tv DK)=true)/\ug s (aB b')
def eL(b b':BL):Prop:=∀j d c,(sB b).bx j=some d->(sB b').bx j=some c->d.length<=c.length
def eL.refl(b:BL):eL b b:=fun j e d h c=>by rw[h]at c;cases c;exact l_ _
def eL.one{j:Nat}{cs cs':List AV}(h:cs.length<=cs'.length):eL [(j,cs)] [(j,cs')]:=fun i c f b d=>by
 have b:=dj.1 b;have d:=dj.1 d;simp only[aB]at b d;by_cases e:j=i
 ·subst e;rw[ap]at b d;cases b;cases d;exact h
 ·rw[az _ _ e]at b;cases b
def tV(b':BL):BL->Bool
 | []=>true
 |(j,_)::r=>(iO j || !(ak (aB b') j).isSome) && tV b' r
def ya{b':BL}:∀{b:BL}{j:Nat}{l d:List AV},tV b' b=true->ak (aB b) j=some (some l)->ak (aB b') j=some (some d)->iO j=true
 | [],_,_,_,_,h,_=>by cases h
 |(i,c)::r,j,l,d,f,h,m=>by
  simp only[tV,B_]at f;by_cases e:i=j
  ·subst e;have:=f.1;rw[m]at this;simpa using this
  ·simp only[aB,az _ _ e]at h;exact ya f.2 h m
def yk(r:RT)(b':BL):Bool:=vB (aB b') (aB b') && match r with
 | .own j _ _ _=>match ak (aB b') j with
  |some _=>true
  |none=>false
 | .v _=>true
def Fy{ts:List TV}:∀{k i:Nat},k+ts.length<=i->ak (uj k ts) i=none:=by
 induction ts with
 |nil=>intro k i _;rfl
 |cons d c b=>intro k i h;simp only[List.length_cons]at h;rw[uj,az _ _ O_];exact b O_
def qO(g:Nat->Nat)(w:World)(b:BL):fw:=⟨w,BX g b,[],fun j=>if iO j then some (g j)else none⟩
def Cr{S:Nat->Prop}{g p:Nat->Nat}{w x:World}{b b':BL}{s:AS}{a:Act}{r:RT}{v:Value}(A:tV b' b=true)(t:vB (aB b') (aB b')=true)(hlen:eL b b')(C:ug s (aB b'))(u:MG n S (qO g w b) p s a x)(B:TV.M (Own S p (sB b')) p (sB b') x r.tv v):wE S g b r b' w (.returned v) x:=by
 have f:∀j l,(sB b').bx j=some l->s.bx j=some l:=fun j l h=>C.at (dj.1 h);have z:∀q,q<x.heap.size->Own S p (sB b') q->Own S p s q:=by
  rintro q _ (h0| ⟨j,l,h,e⟩)
  ·exact .inl h0
  ·exact .inr ⟨j,l,f j l h,e⟩
 refine⟨v,p,rfl,fun j l d h m=>⟨?_,hlen j l d h m⟩,fun j d h=>?_,fun i j D E L h e=>u.inj i j D E (f i D L) (f j E h) e,B,u.grow⟩
 ·have H:=ya A (dj.1 h) (dj.1 m);exact u.gp j (g j) d H (by simp only[qO,H,if_true]) (f j d m)
 ·obtain⟨J,y,I,O,Q,R,U,V⟩:=u.bm j d (f j d h);exact⟨J,y,I,O,Q.agree (b7.refl _ _) z,R,fun G i c v F B=>(U G i c v F B).sub (fun q N=>vB.at t (dj.1 h) G q (nf F q N)) f,V⟩
def y8{S:Nat->Prop}{g:Nat->Nat}{w:World}{vs:List Value}{ts:List TV}{b:BL}{N:Nat}(e:NV S g w b)(p:qK (Own S g (sB b)) g (sB b) w ts vs)(hsz:ts.length<=N)(h:N<=DK):
 M N S (qO g w b) ⟨uj 0 ts,aB b⟩ ⟨vs.toArray++Array.replicate (N-vs.toArray.size) undef,[]⟩ w:=by
 have x:=qK.length p;refine⟨g,fun k=>?_,fun j f m=>⟨.inr ⟨j,f,m,rfl⟩,(e.bm j f m).sameB rfl⟩,e.inj,cu.refl _ _,?_,by simp;omega,fun q u=>?_,fun w' l=>e.tab w' l,e.gl,fun j q f d c _=>?_,h⟩
 ·have:=qK.at p 0 k;simp only[Nat.not_lt_zero,if_false,Nat.sub_zero]at this;have r:(vs.toArray++Array.replicate (N-vs.toArray.size) undef).getD k undef=vs.getD k undef:=by
   simp only[Array.getD_eq_getD_getElem?,Array.getElem?_append,H_];by_cases d:k<vs.length
   ·simp[d]
   ·simp[d];cases c:(Array.replicate (N-vs.length) undef)[k-vs.length]? with
    |none=>rfl
    |some v=>rw[Array.getElem?_replicate]at c;split at c<;>simp_all
  dsimp only;rw[r];exact this.sameB rfl
 ·have e0:(AS.mk (uj 0 ts) (aB b)).tv DK= .junk:=by simp only[AS.tv,Fy (k:=0) (ts:=ts) (i:=DK) O_]
  rw[e0];rfl
 ·obtain⟨d,c,t⟩:=e.blk q u;exact⟨d,c,t⟩
 ·simp only[qO,d,if_true,X_]at c;exact c
structure g7 (P:Program) (f:FuncId) (ts:List TV) (b:BL) (r:RT) (b':BL):Prop where
 enter:∀args w,(callFunc f args).run P w= .ok (.enter f args) w
 body:∃fn c,P.funcs[f]? =some fn/\fn.body=some c/\ ∀(S:Nat->Prop)(g:Nat->Nat)(w:World)(vs:List Value),NV S g w b->qK (Own S g (sB b)) g (sB b) w ts vs->c.wp P (bodyPost P fn (wE S g b r b' w)) { tmps:=vs.toArray++Array.replicate (fn.ntmps-vs.toArray.size) undef,defers:=[] } w
def g7.toT{f:FuncId}{ts:List TV}{b:BL}{r:RT}{b':BL}(h:g7 P f ts b r b'):ay P f ts b r b':=by obtain⟨p,c,i,e,l⟩:=h.body;exact⟨h.enter,fun S g w m d j=>calls_of_wp i e (l S g w m d j)⟩
def tU(Y:∀t d,T t=some d->bl P t d)(L:P.follows .mixedOrders=true){f:FuncId}{fn:Func}{c:Code}{ts:List TV}{b:BL}{r:RT}{b':BL}(hf:P.funcs[f]? =some fn)(hb:fn.body=some c)(hn:(fn.name == "runtime.NumGoroutine")=false)(hsz:(Nat.ble ts.length fn.ntmps && Nat.ble fn.ntmps DK)=true)(U:tV b' b=true)(y:yk r b'=true)(hlen:eL b b')(h:fT P T fn.ntmps c (fun e s=>match e with| .exit _=>False|_=>Nk T s fn.results.toList r b') ⟨uj 0 ts,aB b⟩):g7 P f ts b r b':=by
 unfold yk at y;rw[B_]at y hsz;obtain⟨N,y⟩:=y;obtain⟨hsz,E⟩:=hsz;have hsz:=N_ hsz;have E:=N_ E;refine⟨fun X w=>?_,fn,c,hf,hb,fun S g w vs hS V=>?_⟩
 ·exact OU
 ·refine wp_mono (oX (S0:=S) (w0:=qO g w b) Y L c _ _ _ w h (y8 hS V hsz E)) fun e a w1 hq=>?_;have fin:∀s,Nk T s fn.results.toList r b'->M fn.ntmps S (qO g w b) s a w1->a.defers=[]/\ ∃v,(results fn a.tmps).run P w1= .ok v w1/\wE S g b r b' w (.returned v) w1:=by
   rintro s ⟨C,O⟩ ⟨G,I⟩;have H:∀j B,(sB b').bx j=some B->s.bx j=some B:=fun j B R=>O.at (dj.1 R);have Q:∀q,q<w1.heap.size->Own S G (sB b') q->Own S G s q:=by
    rintro q _ (h0| ⟨j,B,R,e⟩)
    ·exact .inl h0
    ·exact .inr ⟨j,B,H j B R,e⟩
   have D:∀v,TV.M (Own S G (sB b')) G (sB b') w1 r.tv v->wE S g b r b' w (.returned v) w1:=fun v V=>Cr U N hlen O I V;cases r with
   |v r=>
    obtain⟨l,h1,rfl⟩:=C;refine⟨(AP.no (je h1)).1 I.df,?_⟩;obtain⟨z,hr,A,W⟩:=iC Y I fn.results.toList l h1;refine⟨if h:z.toArray.size=1 then z.toArray[0]else .tuple z.toArray,?_,D _ ?_⟩
    ·unfold results;rw[Y_,Array.mapM_eq_mapM_toList,Sem.run_map];erw[hr];simp only[R_];rfl
    ·have F:∀(i:Nat)(x:DV)(u:Value),l[i]? =some x->z[i]? =some u->DV.M (Own S G (sB b')) w1 x u:=fun i x u h1 h2=>(W i x u h1 h2).agree (b7.refl _ _) Q;cases l with
     |nil=>rw[dif_neg (by simp at A ⊢;omega)];exact⟨z,rfl,A,F⟩
     |cons d l=>
      cases l with
      |nil=>
       have:z.toArray.size=1:=by simpa using A.symm
       rw[dif_pos this];exact F 0 d _ rfl S_
      |cons d' l=>rw[dif_neg (by simp at A ⊢;omega)];exact⟨z,rfl,A,F⟩
   |own j m k e=>
    obtain⟨t,h1,h2,Z⟩:=C;refine⟨(AP.no Z).1 I.df,a.tmps.getD t undef,?_,D _ ?_⟩
    ·unfold results;rw[Y_,Array.mapM_eq_mapM_toList,Sem.run_map,h1];rfl
    ·have J:=I.tm t;rw[h2]at J;refine⟨?_,fun B hc=>J.2 B (H j B hc)⟩;dsimp only at y;split at y
     ·rename_i x hx;exact⟨x,hx⟩
     ·cases y
  exact OP
def aX(p:∀t d,T t=some d->bl P t d)(j:P.follows .mixedOrders=true){f:FuncId}{i:Func}{c:Code}{ts:List TV}{b:BL}{r:RT}{b':BL}(u:P.funcs[f]? =some i)(q:i.body=some c)(v:(i.name == "runtime.NumGoroutine")=false)(hsz:(Nat.ble ts.length i.ntmps && Nat.ble i.ntmps DK)=true)(m:tV b' b=true)(l:yk r b'=true)(hlen:eL b b')(h:fT P T i.ntmps c (fun e s=>match e with| .exit _=>False|_=>Nk T s i.results.toList r b') ⟨uj 0 ts,aB b⟩):ay P f ts b r b':=(tU p j u q v hsz m l hlen h).toT
def TC:CV->TV
 | .val v=> .d (.leaf (.val v))
 | .box j o=> .box j o
def Sf:TV->TV
 | .nil=> .d (.leaf (.sl 0 []))
 |x=>x
def xc(s:AS)(f:Operand)(args:List Operand):Option (FuncId × List TV):=
 match s.ev f with
 | .d (.leaf (.val (.func (.func b) ⟨[]⟩ ⟨[]⟩)))=>some (b,args.map fun x=>Sf (s.ev x))
 | .clo (.func b) e c=>some (b,e.map TC++(args.map fun x=>Sf (s.ev x))++c.map TC)
 |_=>none
def rW:List CV->Bool
 | []=>true
 | .val v::r=>v.oneCell' && rW r
 | .box _ _::r=>rW r
def uF(s:AS)(f:Operand):Bool:=match s.ev f with
 | .clo _ c b=>rW c && rW b
 |_=>true
def SS{S:Nat->Prop}{g:Nat->Nat}{s:AS}{w:World}{x:TV}{v:Value}(h:TV.M S g s w x v):TV.M S g s w (Sf x) v:=by
 cases x<;>first|exact h|skip
 have:v= .slice none 0 0:=h;rw[this];exact AV.M.emp (l_ _) O_ (fun _=>rfl)
def mY{S:Nat->Prop}{g:Nat->Nat}{s:AS}{w:World}:∀{d e:List TV}{b c:List Value},qK S g s w d b->qK S g s w e c->qK S g s w (d++e) (b++c)
 | [],_,[],_,_,k=>k
 |_::_,_,_::_,_,h,k=>⟨h.1,mY h.2 k⟩
 | [],_,_::_,_,h,_=>h.elim
 |_::_,_,[],_,h,_=>h.elim
def Ds{g:Nat->Nat}{s:AS}{a:Act}{w:World}(b:MG n S0 w0 g s a w):∀(l:List Operand),qK (Own S0 g s) g s w (l.map fun x=>Sf (s.ev x)) (l.map a.eval)
 | []=>trivial
 |x::l=>⟨SS (b.ev x),Ds b l⟩
def tE{S:Nat->Prop}{g:Nat->Nat}{s:AS}{w:World}:∀{c:List CV}{d:List Value},rW c=true->rd g s c d->qK S g s w (c.map TC) d
 | [],[],_,_=>trivial
 | .val u::c,v::d,b,h=>by simp only[rW,B_]at b;have e:v=u:=h.1;subst e;exact⟨AV.M.val b.1,tE b.2 h.2⟩
 | .box j o::c,v::d,b,h=>⟨h.1,tE b h.2⟩
 | [],_::_,_,h=>h.elim
 |_::_,[],_,h=>h.elim
def wj{S:Nat->Prop}{g:Nat->Nat}{s s':AS}{w:World}(f:∀j e,s'.bx j=some e->s.bx j=some e):∀{b:List TV}{d:List Value},(∀j∈b.flatMap eu,s'.kn j)->qK S g s w b d->qK S g s' w b d
 | [],[],_,_=>trivial
 |x::b,v::d,i,h=>⟨h.1.sub (fun j c=>i j (List.mem_flatMap.2 ⟨x,by simp,c⟩)) f,wj f (fun j c=>i j (by rw[List.flatMap_cons];exact List.mem_append_right _ c)) h.2⟩
 | [],_::_,_,h=>h.elim
 |_::_,[],_,h=>h.elim
def pq(s:AS)(b:BL):BL->Bool
 | []=>true
 |(j,_)::r=>(match ak (aB b) j with|some _=>true|none=>jh s j) && pq s b r
def xJ{s:AS}{b:BL}:∀{f:BL}{j:Nat}{l:List AV},pq s b f=true->ak (aB f) j=some (some l)->ak (aB b) j=none->ak s.b j=none/\iO j=false
 | [],_,_,_,h,_=>by cases h
 |(i,c)::r,j,l,d,h,m=>by
  simp only[pq,B_]at d;by_cases e:i=j
  ·subst e;have:=d.1;rw[m]at this;exact dt this
  ·simp only[aB,az _ _ e]at h;exact xJ d.2 h m
def Gy{b:BL}{l:List Nat}(h:Gm (aB b) l=true):∀j∈l,(sB b).kn j:=fun j c=>wh h j c
def B7{s:AS}{l:List Nat}(h:dV l s.b=true):∀j e,s.bx j=some e->j ∉ l->cL j=false:=fun j e c d=>by
 unfold AS.bx at c;split at c
 ·rename_i x f;cases c;exact lz h j _ d f
 ·cases c
def qC{o:Oper}{f:Operand}{fid:FuncId}{args:Array Operand}{tys:Array TypeId}{ts:List TV}{b:BL}{r:RT}{b':BL}{s:AS}(D:ay P fid ts b r b')(N:o.op= .call ⟨.value f,args,tys⟩)(c:xc s f args.toList=some (fid,ts))(q:uF s f=true)(y:(Gm (aB b) (ts.flatMap eu) && vB (aB b) (aB b))=true)(J:ug s (aB b))(E:∀j l,s.bx j=some l->j ∉ b.map (·.1)->cL j=false)(hnew:pq s b b'=true):
 bO P o s ⟨r.tv,some (aB b'++dY b' b)⟩:=by
 intro n S0 w0 g a w K Q C F Z;rw[B_]at y;obtain⟨y,u⟩:=y;obtain⟨S,t,hO,m⟩:=C.callT (b:=b) (b':=b') J u E (fun j l G hn=>xJ hnew (dj.1 G) hn);have I:∀j l,(sB b).bx j=some l->s.bx j=some l:=fun j l G=>J.at (dj.1 G);obtain⟨i,H,hrun⟩:∃i,qK (Own S0 g s) g s w ts i/\(execOp a.eval o).run P w= .ok (.enter fid i.toArray) w:=by
  have d:=Ds C args.toList;have x:=C.ev f;unfold xc at c;split at c
  ·rename_i p h;simp only[X_,Prod.mk.injEq]at c;obtain⟨rfl,rfl⟩:=c;refine⟨_,d,?_⟩;unfold execOp;rw[N];rw[h]at x;simp only[resolve,bc (show AV.M _ _ _ _ from x),Deferred.ofValue,Y_,a_,R_,invoke];have:=D.enter (args.map a.eval) w;have e:(List.map a.eval args.toList).toArray=args.map a.eval:=Array.ext' S_;rw[e];simpa using this
  ·rename_i p fs l h;simp only[X_,Prod.mk.injEq]at c;obtain⟨rfl,rfl⟩:=c;rw[h]at x;obtain⟨z,i,e,A,B⟩:=x;unfold uF at q;rw[h]at q;simp only[B_]at q;refine⟨z++List.map a.eval args.toList++i,mY (mY (tE q.1 A) d) (tE q.2 B),?_⟩;unfold execOp;rw[N];simp only[resolve,e,Deferred.ofValue,Y_,a_,R_,invoke];have R:(z++List.map a.eval args.toList++i).toArray=z.toArray++args.map a.eval++i.toArray:=Array.ext' S_;have:=D.enter (z.toArray++args.map a.eval++i.toArray) w;rw[R];simpa using this
  ·cases c
 have hcall:=D.calls S g w i t (by rw[hO];exact wj I (Gy y) H);unfold Oper.wp;rw[hrun];show Calls P fid _ w _;refine hcall.mono ?_;rintro en O ⟨v,U,rfl,A,B,W,X,Y⟩;show K (a.put o.dst v) O;obtain⟨V,L⟩:=m r v U O A B W X Y o.dst F;refine Z V _ _ ?_;cases ho2:o.dst<;>(rw[ho2]at L;exact L)
variable {ops:Array Oper}{id:Nat}{draw:Bool}{K:AS->Prop}{s:AS}{k:Nat}{o:Oper}{os:List Oper}{fps:List FP}
def GU{α:Type}{x y:Code}{Q:AX->AS->Prop}(σ:α->AS)(φ:α->Prop)(d:∀a,φ a-> ∀b,au b (σ a)->fT P T n y Q b)(c:∀R:AX->AS->Prop,(∀a,φ a-> ∀b,au b (σ a)->R .normal b)->R .ret=Q .ret->fT P T n x R s):fT P T n (.seq x y) Q s:=bH (c _ d rfl)
def s6{s s':AS}{f:Operand}{args:List Operand}(c:s'.ev f=s.ev f)(b:∀x∈args,s'.ev x=s.ev x):xc s' f args=xc s f args:=by
 have e:(args.map fun x=>Sf (s'.ev x))=args.map fun x=>Sf (s.ev x):=List.map_congr_left fun x d=>by rw[b x d]
 unfold xc;rw[c,e]
def oW{s s':AS}:∀{b:BL},(∀j∈b.map (·.1),ak s'.b j=ak s.b j)->ug s (aB b)->ug s' (aB b)
 | [],_,_=>trivial
 |(j,e)::r,d,h=>⟨by rw[f6 (d j S_)];exact h.1,oW (b:=r) (fun i c=>d i (by simp at c ⊢;exact .inr c)) h.2⟩
def m7{s s':AS}{b:BL}:∀{b':BL},(∀j∈b'.map (·.1),ak s'.b j=ak s.b j)->pq s' b b'=pq s b b'
 | [],_=>rfl
 |(j,e)::r,d=>by rw[pq,pq,m7 (b':=r) (fun i c=>d i (by simp at c ⊢;exact .inr c)),jC (d j S_)]
def bw{f:Operand}{fid:FuncId}{args:Array Operand}{tys:Array TypeId}{ts:List TV}{b:BL}{r:RT}{b':BL}(E:ay P fid ts b r b')(A:gd ops s o=some true)(t:o.op= .call ⟨.value f,args,tys⟩)(p:xc s f args.toList=some (fid,ts))(c:uF s f=true)(F:(Gm (aB b) (ts.flatMap eu) && vB (aB b) (aB b))=true)(D:ug s (aB b))(q:dV [] s.b=true)(hnew:pq s b b'=true)(B:aO n o.dst=true)(C:gO draw ops (aH ops o ⟨r.tv,some (aB b'++dY b' b)⟩ (b.map (·.1)++b'.map (·.1))) k fps=true)(h:aw P T n ops id draw K (k+1) os (s.eff o.dst ⟨r.tv,some (aB b'++dY b' b)⟩) (aH ops o ⟨r.tv,some (aB b'++dY b' b)⟩ (b.map (·.1)++b'.map (·.1))::fps)):aw P T n ops id draw K k (o::os) s fps:=by
 refine .run A (.genC (lC q) fun u m y l=>?_) B C h;have v:u.ev f=s.ev f:=aP y (by rw[t];simp[Op.operands,Call.operands]);have e:=s6 (s':=u) (s:=s) (f:=f) (args:=args.toList) v (fun x G=>aP y (by rw[t];simp[Op.operands,Call.operands];exact .inr (by simpa using G)));have d:uF u f=true:=by unfold uF at c ⊢;rw[v];exact c
 exact qC E t (e.trans p) d F (oW (fun j i=>l j (List.mem_append_left _ i)) D) (fun j z i _=>m j z i) ((m7 fun j i=>l j (List.mem_append_right _ i)).trans hnew)
end
section
variable {P:Program}{T:TypeId->Option Ty}{n:Nat}{ops:Array Oper}{id:Nat}{draw:Bool}{K:AS->Prop}{s:AS}{k:Nat}{o:Oper}{os:List Oper}{fps:List FP}
def kD{f:Operand}{fid:FuncId}{args:Array Operand}{tys:Array TypeId}{ts:List TV}{b:BL}{r:RT}{b':BL}(p:ay P fid ts b r b')(h:aw P T n ops id draw K (k+1) os (s.eff o.dst ⟨r.tv,some (aB b'++dY b' b)⟩) (aH ops o ⟨r.tv,some (aB b'++dY b' b)⟩ (b.map (·.1)++b'.map (·.1))::fps))(i:gd ops s o=some true:=by rfl)(t:o.op= .call ⟨.value f,args,tys⟩:=by rfl)(d:xc s f args.toList=some (fid,ts):=by rfl)(c:uF s f=true:=by rfl)(q:(Gm (aB b) (ts.flatMap eu) && vB (aB b) (aB b))=true:=by rfl)(m:ug s (aB b):=by first|exact⟨rfl,trivial⟩|exact⟨rfl,rfl,trivial⟩|exact trivial)(e:dV [] s.b=true:=by rfl)(hnew:pq s b b'=true:=by rfl)(j:aO n o.dst=true:=by rfl)(l:gO draw ops (aH ops o ⟨r.tv,some (aB b'++dY b' b)⟩ (b.map (·.1)++b'.map (·.1))) k fps=true:=by rfl):aw P T n ops id draw K k (o::os) s fps:=bw p i t d c q m e hnew j l h
def kZ{q:Prop}{f:Operand}{fid:FuncId}{args:Array Operand}{tys:Array TypeId}{ts:List TV}{b:BL}{r:RT}{b':BL}(t:ay P fid ts b r b')(h:q)(j:gd ops s o=some true:=by rfl)(v:o.op= .call ⟨.value f,args,tys⟩:=by rfl)(d:xc s f args.toList=some (fid,ts):=by rfl)(c:uF s f=true:=by rfl)(u:(Gm (aB b) (ts.flatMap eu) && vB (aB b) (aB b))=true:=by rfl)(p:ug s (aB b):=by first|exact⟨rfl,trivial⟩|exact⟨rfl,rfl,trivial⟩|exact trivial)(i:dV [] s.b=true:=by rfl)(hnew:pq s b b'=true:=by rfl)(l:aO n o.dst=true:=by rfl)(m:gO draw ops (aH ops o ⟨r.tv,some (aB b'++dY b' b)⟩ (b.map (·.1)++b'.map (·.1))) k fps=true:=by rfl)(e:q->aw P T n ops id draw K (k+1) os (s.eff o.dst ⟨r.tv,some (aB b'++dY b' b)⟩) (aH ops o ⟨r.tv,some (aB b'++dY b' b)⟩ (b.map (·.1)++b'.map (·.1))::fps):=by intro h;(repeat(first|refine iw rfl rfl rfl rfl ?_|refine ba rfl rfl rfl ?_|refine .done ?_|refine bH (T:=TT) ?_|refine bz (T:=TT) rfl ?_|refine bR (T:=TT) ?_|refine eG (T:=TT) rfl ?_|refine dX (T:=TT) rfl ?_));exact h):aw P T n ops id draw K k (o::os) s fps:=bw t j v d c u p i hnew l m (e h)
end
section
variable {P:Program}{T:TypeId->Option Ty}{n:Nat}
variable {ops:Array Oper}{id:Nat}{draw:Bool}{K:AS->Prop}{s:AS}{k:Nat}{o:Oper}{os:List Oper}{fps:List FP}
def m4(j':Nat){d:Nat}{x y:Operand}{t i q m1 m2:Nat}{ty f:Ty}{dead:Option Nat}{cs xs:List AV}(u:∀t d,T t=some d->bl P t d)(E:0<m2)(D:(m1+m2)*f.bytes<=140737488355328)(r:xs.length=m2*q)(h0:draw=false)(z:gd ops s o=some true)(F:o.op= .call ⟨.builtin .append,#[x,y],#[t,t]⟩)(v:o.dst=some d)(A:aO n o.dst=true)(H:T t=some ty)(m:ty.elem=some (i,q))(p:T i=some f)(G:f.size=q)(e:(Nat.ble 1 q && Nat.ble 1 f.bytes)=true)(c:gm s x m1 q i dead cs)(I:s.ev y= .d (.leaf (.sl m2 xs)))(hnew:jh s j'=true)(l:(ir f.zero && ir xs && my dead)=true)(h:aw P T n ops id draw K (k+1) os ⟨(d, .own j' (m1+m2) q i)::s.t,(j',some (cs.take (m1*q)++xs))::jl dead s.b⟩ (aH ops o ⟨.junk,none⟩ []::fps)):aw P T n ops id draw K k (o::os) s fps:=by
 refine .snd h0 z (fun S0 w0 g a w J Q C B=>?_) h;rw[B_]at e;have j:m1+m2<=9223372036854775807:=by have:=Nat.le_mul_of_pos_right (m1+m2) (N_ e.2);omega
 exact jM (u _ _ H) (u _ _ p) F v m G (N_ e.1) c I r E D j (dt hnew) (oH hnew) (.inr l) C (eI A d v) B
def JR:Option Nat->List Nat
 |some j=>[j]
 |none=>[]
def fR(j':Nat){d:Nat}{x y:Operand}{t f q m1 m2:Nat}{ty r:Ty}{dead:Option Nat}{cs xs:List AV}(I:∀t d,T t=some d->bl P t d)(W:0<m2)(V:(m1+m2)*r.bytes<=140737488355328)(G:xs.length=m2*q)(N:gd ops s o=some true)(E:o.op= .call ⟨.builtin .append,#[x,y],#[t,t]⟩)(B:o.dst=some d)(O:aO n o.dst=true)(Y:T t=some ty)(D:ty.elem=some (f,q))(F:T f=some r)(X:r.size=q)(j:(Nat.ble 1 q && Nat.ble 1 r.bytes)=true)(i:gm s x m1 q f dead cs)(Z:s.ev y= .d (.leaf (.sl m2 xs)))(hnew:jh s j'=true)(A:(ir r.zero && ir xs && my dead)=true)(R:gO draw ops (aH ops o ⟨.own j' (m1+m2) q f,some ((j',some (cs.take (m1*q)++xs))::jl dead [])⟩ (j'::JR dead)) k fps=true)(h:aw P T n ops id draw K (k+1) os (s.eff o.dst ⟨.own j' (m1+m2) q f,some ((j',some (cs.take (m1*q)++xs))::jl dead [])⟩) (aH ops o ⟨.own j' (m1+m2) q f,some ((j',some (cs.take (m1*q)++xs))::jl dead [])⟩ (j'::JR dead)::fps)):aw P T n ops id draw K k (o::os) s fps:=by
 rw[B_]at j;have v:m1+m2<=9223372036854775807:=by have:=Nat.le_mul_of_pos_right (m1+m2) (N_ j.2);omega
 refine .run N (.gen fun u m l=>?_) O R h;have p:u.ev x=s.ev x:=aP m (by rw[E];simp[Op.operands,Call.operands]);have H:u.ev y=s.ev y:=aP m (by rw[E];simp[Op.operands,Call.operands]);have e:gm u x m1 q f dead cs:=by
  cases i with
  |nil a b=>exact .nil (p.trans a) b
  |own a b=>exact .own (p.trans a) ((f6 (l _ (by simp[JR]))).trans b)
 have c:jh u j'=true:=(jC (l j' S_)).trans hnew;intro n S0 w0 g a w K Q U C S;refine jM (I _ _ Y) (I _ _ F) E B D X (N_ j.1) e (H.trans Z) G W V v (dt c) (oH c) (.inr A) U (C d B) fun L J w' z=>S L J w' ?_;rw[B];cases dead<;>exact z
def M3(j':Nat){t:TypeId}{ty:Ty}{d:Nat}(p:∀t d,T t=some d->bl P t d)(i:gd ops s o=some true)(u:o.op= .alloc t)(q:o.dst=some d)(v:T t=some ty)(r:ak s.b j'=none)(e:iO j'=false)(f:im j'=false)(m:ir ty.zero=true)(j:aO n o.dst=true)(l:gO draw ops (aH ops o ⟨.box j' 0,some [(j',some ty.zero)]⟩ [j']) k fps=true)(h:aw P T n ops id draw K (k+1) os (s.eff o.dst ⟨.box j' 0,some [(j',some ty.zero)]⟩) (aH ops o ⟨.box j' 0,some [(j',some ty.zero)]⟩ [j']::fps)):aw P T n ops id draw K k (o::os) s fps:=
 .run i (.gen fun _ _ c=>kx (p _ _ v) u q ⟨(c j' S_).trans r,e⟩ m (fun h=>by rw[f]at h;cases h)) j l h
end
section
variable {P:Program}{T:TypeId->Option Ty}{n:Nat}{ops:Array Oper}{id:Nat}{draw:Bool}{K:AS->Prop}{s:AS}{k:Nat}{o:Oper}{os:List Oper}{fps:List FP}
def ve(G:∀t d,T t=some d->bl P t d){t:TypeId}{ty:Ty}{x y z:Operand}{l:List UInt8}{i j:Nat}{ik b:IntKind}(L:i<=j)(N:j<=l.length)(u:gd ops s o=some true)(c:o.op= .slice t x (some y) (some z) none)(B:T t=some ty)(C:ty.isStr=true)(D:s.ev x= .d (.leaf (.val (vL l))))(E:s.ev y= .d (.leaf (.val (.int ik (i:Nat)))))(F:s.ev z= .d (.leaf (.val (.int b (j:Nat)))))(v:aO n o.dst=true)(A:gO draw ops (aH ops o ⟨.d (dL ((l.take j).drop i)),none⟩ []) k fps=true)(h:aw P T n ops id draw K (k+1) os (s.eff o.dst ⟨.d (dL ((l.take j).drop i)),none⟩) (aH ops o ⟨.d (dL ((l.take j).drop i)),none⟩ []::fps)):aw P T n ops id draw K k (o::os) s fps:=by
 refine .run u (.gen fun O m _=>?_) v A h;have H:=(aP m (x:=x) (by simp[c,Op.operands])).trans D;have I:=(aP m (x:=y) (by simp[c,Op.operands])).trans E;have J:=(aP m (x:=z) (by simp[c,Op.operands])).trans F;have hu:=jv (G _ _ B) C;refine ar fun n S0 w0 g a w f=>⟨vL ((l.take j).drop i),w,?_,Below.refl _ _,AV.M.val rfl⟩;unfold execOp;rw[c];have r:(Instr.sliceAt t (.string (Bs l)) (some (.int ik i)) (some (.int b j)) none).run P w= .ok (vL ((l.take j).drop i)) w:=by refine H6 ?_;rw[run_slice_string w t (Bs l) ik b i j hu O_ O_ (by rw[an];omega)];simp only[Int.toNat_natCast];rw[jy];rfl
 simp only[bn f H,bn f I,bn f J,vL,Option.map_some,Option.map_none,Y_,r,R_];rfl
def Of{e:ui}{y:List Nat}{f:AS}(v:∀t d,T t=some d->bl P t d)(h0:draw=false)(m:gd ops s o=some true)(p:fA T (id*1000+k) s o=some (e,y))(q:aO n o.dst=true)(x:au (s.eff o.dst e) f)(h:aw P T n ops id draw K (k+1) os f (aH ops o ⟨.junk,none⟩ []::fps)):aw P T n ops id draw K k (o::os) s fps:=
 .snd h0 m (fun S0 w0 g a w z Q u r=>mG v (.op p) n S0 w0 g a w _ Q u (eI q) fun j i w' b=>by obtain⟨l,c⟩:=x _ _ _ _ _ ⟨j,b⟩;exact r l i w' c) h
end
abbrev Tk:=Nat × List UInt8 × Nat
def jU(t:Tk):List AV:=[.val (.int .i64 t.1), .val (vL t.2.1), .val (.int .i64 t.2.2)]
def ce:List Tk->List AV
 | []=>[]
 |t::r=>jU t++ce r
def zE(a b:List Tk):ce (a++b)=ce a++ce b:=by
 induction a with
 |nil=>rfl
 |cons t r c=>simp[ce,c]
def ky(a:List Tk):(ce a).length=a.length*3:=by
 induction a with
 |nil=>rfl
 |cons t r b=>simp[ce,jU,b];omega
def dw:Nat->List UInt8->Nat->List Tk->Except (Nat × Int) (List Tk)
 |0,_,_,_=> .error (0,0)
 |_+1,[],b,d=> .ok (d++[(0,[],b)])
 |f+1,c::r,b,d=>if c=32∨c=9 then dw f r (b+1) d
  else if(gx (c::r)).2=0 then .error (b,2)
  else if(gx (c::r)).1=1/\24<(gx (c::r)).2 then .error (b,3)
  else dw f ((c::r).drop (gx (c::r)).2) (b+(gx (c::r)).2) (d++[((gx (c::r)).1,(c::r).take (gx (c::r)).2,b)])
def ma:Except (Nat × Int) (List Tk)->RV
 | .ok l=> .tup [.leaf (.sl l.length (ce l)),dN .i64 0,dN .i64 0]
 | .error (a,e)=> .tup [.leaf (.sl 0 []),dN .i64 a,dN .i64 e]
def NG(s:List UInt8):jZ s<=s.length:=by
 unfold jZ;split
 ·rename_i h;have c:=(G_.1 h.1).1;have b:=gb bC (s.drop (aT bC s+1));rw[n_]at b;omega
 ·exact gb _ _
def MV:∀(n:Nat)(s:List UInt8)(i:Nat),s.length<=n->ez s i<=i+s.length:=by
 intro n;induction n using Nat.strongRecOn with
 |_ n b=>
  intro s i h
  match s,h with
  | [],_=>simp[ez]
  | [c],_=>simp only[ez];split <;>simp
  |c::d::r,h=>
   simp at h;simp only[ez];split
   ·simp
   ·split
    ·omega
    ·split
     ·split
      ·omega
      ·have:=b (n-2) O_ r (i+2) O_;simp;omega
     ·have:=b (n-1) O_ (d::r) (i+1) (by simp;omega);simp at this ⊢;omega
def wM:∀s:List UInt8,(gx s).2<=s.length
 | []=>l_ _
 |c::r=>by
  rw[gx];split
  ·exact gb _ _
  ·split
   ·exact NG _
   ·split
    ·have:=MV r.length r 1 (l_ _);show ez r 1<=r.length+1;omega
    ·split
     ·simp
     ·split <;>simp
def UY(J:Nat):List Tk->TV
 | []=> .nil
 |a::r=> .own J (a::r).length 3 118
def Sr:List Tk->Option (List AV)
 | []=>none
 |a::r=>some (ce (a::r))
def Jn(J:Nat)(l:List Tk)(t:Tk):UY J (l++[t])= .own J (l.length+1) 3 118:=by
 cases l with
 |nil=>rfl
 |cons a r=>simp[UY]
def At(l:List Tk)(t:Tk):Sr (l++[t])=some (ce l++jU t):=by
 have h:∀m:List Tk,m≠[]->Sr m=some (ce m):=fun m b=>by
  cases m with
  |nil=>exact absurd rfl b
  |cons a r=>rfl
 rw[h _ S_,zE];simp[ce]
def pv(l:List Tk):(ce l).take (l.length*3)=ce l:=K_ (by rw[ky];exact l_ _)
def Di(s:List UInt8)(b:List Tk)(t:Tk)(m:Nat):(⟨[(0, .d (dL s)),(2, .nil),(3, .d (dN .i64 0)),(4, .d (dN .i64 0)),(5,UY 13001 (b++[t])),(6, .d (dN .i64 m))],[(13001,Sr (b++[t]))]⟩:AS)=⟨[(0, .d (dL s)),(2, .nil),(3, .d (dN .i64 0)),(4, .d (dN .i64 0)),(5, .own 13001 (b.length+1) 3 118),(6, .d (dN .i64 m))],[(13001,some ((ce b).take (b.length*3)++jU t))]⟩:=by rw[Jn,At,pv]
def lp(s:List UInt8)(H:s.length<=65536):aa prog 77 [dL s] (ma (dw (s.length+1) s 0 [])):=by
 have hB:=an s;generalize E:dw (s.length+1) s 0 []=R;refine kU func77 ?_;refine FU ?_;refine kY ?_;refine av (Nat × List Tk) (fun x=>x.1<=s.length/\x.2.length<=x.1/\ ∃f,s.length-x.1<f/\dw f (s.drop x.1) x.1 x.2=R) (fun x=>⟨[(0, .d (dL s)),(2, .nil),(3, .d (dN .i64 0)),(4, .d (dN .i64 0)),(5,UY 13001 x.2),(6, .d (dN .i64 x.1))],[(13001,Sr x.2)]⟩) (fun x=>s.length-x.1) (0,[]) ⟨Nat.zero_le _,l_ _,s.length+1,by dsimp only;omega,E⟩
  kw ?_
 rintro⟨i,acc⟩ ⟨C,h2,f,A,h3⟩;dsimp only at C h2 A h3 ⊢;cases f with
 |zero=>exact absurd A (Nat.not_lt_zero _)
 |succ f=>
 refine kI ?_;refine kO3 ?_;by_cases hlt:i<s.length
 ·have hx:s[i]? =some s[i]:=by simp[hlt]
  have hdrop:=List.drop_eq_getElem_cons hlt;generalize G:s[i]=c at *;refine yg ?_;refine Pf ?_;by_cases hsp:c=32∨c=9
  ·exact OW
  ·have e32:¬c.toNat=32:=dU (fun e=>hsp (.inl e));have e9:¬c.toNat=9:=dU (fun e=>hsp (.inr e));have F:(s.drop i).length=s.length-i:=n_;have cn:=FC c (s.drop (i+1)) (by rw[<- hdrop];omega);have z:=wM (s.drop i);rw[hdrop,dw,if_neg hsp]at h3;rw[<- hdrop]at h3 cn;generalize D:gx (s.drop i)=N at *;obtain⟨k,n⟩:=N;dsimp only at h3 cn z;have B:k<=5:=by
    have h:=congrArg Prod.fst D;rw[hdrop,gx]at h;dsimp only at h;revert h
    repeat' split
    all_goals(intro h;dsimp only at h;omega)
   cases acc with
   |nil=>
    refine Ot ?_;by_cases v:n=0
    ·rw[if_pos v]at h3;refine kT ?_;rw[<- h3];exact am
    rw[if_neg v]at h3;refine kE ?_;refine kG ?_;refine kO ?_;have htx:(s.take (i+n)).drop i=(s.drop i).take n:=by rw[List.drop_take];congr 1;omega
    have u:(k=1/\24<n)∨(k=1/\ ¬24<n)∨ ¬k=1:=O_;rcases u with⟨y,t⟩| ⟨y,t⟩|y
    ·rw[if_pos ⟨y,t⟩]at h3;refine Al ?_;rw[<- h3];exact am
    ·rw[if_neg (fun h=>t h.2),List.drop_drop]at h3;refine kT ?_;refine MI ?_;exact TA
    ·rw[if_neg (fun h=>y h.1),List.drop_drop]at h3;refine kE ?_;refine kG ?_;exact TA
   |cons a r=>
    refine Ot ?_;by_cases v:n=0
    ·rw[if_pos v]at h3;refine kT ?_;rw[<- h3];exact am
    rw[if_neg v]at h3;refine kE ?_;refine kG ?_;refine kO ?_;have htx:(s.take (i+n)).drop i=(s.drop i).take n:=by rw[List.drop_take];congr 1;omega
    have u:(k=1/\24<n)∨(k=1/\ ¬24<n)∨ ¬k=1:=O_;rcases u with⟨y,t⟩| ⟨y,t⟩|y
    ·rw[if_pos ⟨y,t⟩]at h3;refine Al ?_;rw[<- h3];exact am
    ·rw[if_neg (fun h=>t h.2),List.drop_drop]at h3;refine kT ?_;refine MI ?_;refine Tw ?_;rw[<- htx]at h3;refine BT ?_;exact TQ
    ·rw[if_neg (fun h=>y h.1),List.drop_drop]at h3;refine kE ?_;refine kG ?_;refine Tw ?_;rw[<- htx]at h3;refine BT ?_;exact TQ
 ·exact PK
def mV{p:UInt8->Bool}{s:List UInt8}{i j:Nat}(f:i<=j)(l:j<=s.length)(h:∀(q:Nat)c,i<=q->q<j->s[q]? =some c->p c=true)(e:j=s.length∨ ∃c,s[j]? =some c/\p c=false):i+aT p (s.drop i)=j:=by
 have d:aT p (s.drop i)=j-i:=by
  refine nL (fun q c d b=>?_) ?_
  ·rw[List.getElem?_drop]at b;exact h (i+q) c O_ O_ b
  ·rcases e with e| ⟨c,d,b⟩
   ·exact .inl ⟨List.getElem?_eq_none (by rw[n_];omega),by rw[n_];omega⟩
   ·exact .inr ⟨c,by rw[List.getElem?_drop,show i+(j-i)=j by omega];exact d,b⟩
 omega
def l7(s:List UInt8)(i:Nat)(r:i<=s.length)(v:s.length<=4611686018427387904):aa prog 226 [dL s,dN .i64 i] (.one (dN .i64 ((i+aT bC (s.drop i):Nat)))):=by
 have u:=an s;generalize hR:i+aT bC (s.drop i)=R;refine kV func226 ?_;refine av Nat (fun j=>i<=j/\j<=s.length/\ ∀(q:Nat)c,i<=q->q<j->s[q]? =some c->bC c=true) (fun j=>⟨[(0, .d (dL s)),(1, .d (dN .i64 j)),(4, .d (dN .i64 0))],[]⟩) (fun j=>s.length-j) i ⟨l_ _,r,fun q c h1 h2=>by omega⟩
  kw ?_
 rintro j ⟨h1,h2,hq⟩;refine kI ?_;refine kO3 ?_;by_cases b:j<s.length
 ·have hx:s[j]? =some s[j]:=by simp[b]
  have f:=oA s[j];refine kT ?_;refine kO3 ?_;refine DB ?_;cases hb:bC s[j]
  ·rw[hb]at f;refine kQ f ?_;rw[<- hR,mV h1 h2 hq (.inr ⟨_,hx,hb⟩)];exact co (T:=TT) rfl rfl
  ·rw[hb]at f;refine kQ f ?_;exact⟨j+1,⟨by omega,b,fun q c m t l=>by
    by_cases e:q=j
    ·subst e;rw[hx]at l;cases l;exact hb
    ·exact hq q c m O_ l⟩,by omega,weak ⟨rfl,aq O_ O_,rfl,trivial⟩ trivial rfl⟩
 ·exact Oc
def sH(s:List UInt8):Nat:=match s with
 | []=>0
 |c::_=>if dy c then aT fF s else 0
def qM(s:List UInt8)(i:Nat)(A:i<=s.length)(E:s.length<=4611686018427387904):aa prog 91 [dL s,dN .i64 i] (.one (dN .i64 ((i+sH (s.drop i):Nat)))):=by
 have D:=an s;by_cases y:i=s.length
 ·rw[List.drop_eq_nil_of_le O_];refine kU func91 ?_;refine kR ?_;refine kI ?_;refine kO3 ?_;refine kT ?_;exact am
 have u:i<s.length:=O_;have hx0:s[i]? =some s[i]:=S_;have f:=List.drop_eq_getElem_cons u;have hc0:=mw s[i];cases hb0:dy s[i]
 ·rw[hb0]at hc0;have x:sH (s.drop i)=0:=by rw[f];simp[sH,hb0]
  rw[x,Nat.add_zero];refine OA ?_;exact am
 ·rw[hb0]at hc0;have x:sH (s.drop i)=aT fF (s.drop i):=by rw[f];simp[sH,hb0]
  rw[x];generalize hR:i+aT fF (s.drop i)=R;refine OA ?_;refine kW ?_;refine av Nat (fun j=>i<=j/\j<=s.length/\ ∀(q:Nat)c,i<=q->q<j->s[q]? =some c->fF c=true) (fun j=>⟨[(0, .d (dL s)),(1, .d (dN .i64 j)),(4, .d (dN .i64 0))],[]⟩) (fun j=>s.length-j) i ⟨l_ _,A,fun q c h1 h2=>by omega⟩
   kw ?_
  rintro j ⟨h1,h2,hq⟩;refine kI ?_;refine kO3 ?_;by_cases r:j<s.length
  ·have hx:s[j]? =some s[j]:=by simp[r]
   have m:=mw s[j];have l:=oA s[j];have b:fF s[j]=true-> ∀(q:Nat)c,i<=q->q<j+1->s[q]? =some c->fF c=true:=fun B q c z C v=>by
    by_cases e:q=j
    ·subst e;rw[hx]at v;cases v;exact B
    ·exact hq q c z O_ v
   refine kT ?_;refine kO3 ?_;refine DB ?_;cases hbl:dy s[j]
   ·rw[hbl]at m;refine kC m ?_;refine kO3 ?_;refine DB ?_;cases hbd:bC s[j]
    ·rw[hbd]at l;refine kC l ?_;refine kO4 ?_;refine DB ?_;by_cases t:s[j].toNat=95
     ·refine kT ?_;refine kW ?_;exact⟨j+1,⟨by omega,r,b (by simp[fF,t])⟩,by omega,weak ⟨rfl,aq O_ O_,rfl,trivial⟩ trivial rfl⟩
     ·refine kE ?_;refine kW ?_;rw[<- hR,mV h1 h2 hq (.inr ⟨_,hx,by simp[fF,hbl,hbd,t]⟩)];exact co (T:=TT) rfl rfl
    ·rw[hbd]at l;refine kQ l ?_;exact⟨j+1,⟨by omega,r,b (by simp[fF,hbd])⟩,by omega,weak ⟨rfl,aq O_ O_,rfl,trivial⟩ trivial rfl⟩
   ·rw[hbl]at m;refine kQ m ?_;exact⟨j+1,⟨by omega,r,b (by simp[fF,hbl])⟩,by omega,weak ⟨rfl,aq O_ O_,rfl,trivial⟩ trivial rfl⟩
  ·exact Oc
def uU(s:List UInt8)(i:Nat)(u:i<=s.length)(z:s.length<=4611686018427387903){r:Nat}(b:r=i+if 0<aT bC (s.drop i)then jZ (s.drop i)else 0):aa prog 159 [dL s,dN .i64 i] (.one (dN .i64 r)):=by
 have y:=an s;have c1:=l7 s i u O_;have x:=gb bC (s.drop i);rw[n_]at x;unfold jZ at b;rw[List.getElem?_drop,List.drop_drop]at b;generalize aT bC (s.drop i)=n at *
 by_cases h0:0<n
 ·rw[if_pos h0]at b;by_cases t:i+n<s.length
  ·have hx:s[i+n]? =some s[i+n]:=by simp[t]
   by_cases d:s[i+n]=46
   ·have l:s[i+n].toNat=46:=by rw[d];rfl
    have f:s[i+n]? =some 46:=by rw[hx,d]
    have c2:=l7 s (i+n+1) O_ O_;have v:=gb bC (s.drop (i+n+1));rw[n_]at v;rw[show i+(n+1)=i+n+1 by omega]at b;generalize aT bC (s.drop (i+n+1))=m at *
    by_cases j:0<m
    ·rw[if_pos ⟨f,j⟩]at b;obtain rfl:r=i+n+1+m:=O_;refine Pr ?_;refine yg ?_;refine kJ ((i+n+1:Nat)) ?_;refine kC c2 ?_;exact am
    ·rw[if_neg (fun h=>j h.2)]at b;subst b;refine Pr ?_;refine kE ?_;exact am
   ·have l:¬s[i+n].toNat=46:=dU d;rw[if_neg (fun h=>by rw[hx]at h;exact d (Option.some.inj h.1))]at b;subst b;refine Dy ?_;refine IM ?_;refine PY ?_;refine kE ?_;exact am
  ·rw[if_neg (fun h=>by rw[List.getElem?_eq_none O_]at h;cases h.1)]at b;subst b;refine Dy ?_;refine IM ?_;refine kO4 ?_;refine kE ?_;exact am
 ·rw[if_neg h0]at b;obtain rfl:n=0:=O_;subst b;refine Dy ?_;refine R7 ?_;exact am
def pW:∀(l:List UInt8)(c:UInt8),0<=Lib.indexByte l c↔c∈l
 | [],c=>by simp[Lib.indexByte]
 |b::l,c=>by
  have r:=pW l c;have m:=Lib.indexByte_ge l c;simp only[Lib.indexByte];by_cases h:b=c
  ·subst h;simp
  ·have j:(b == c)=false:=by simpa using h
   have f:¬c=b:=fun e=>h e.symm;rw[j];simp only[Bool.false_eq_true,if_false,f_,f,false_or];rw[<- r];by_cases d:Lib.indexByte l c= -1
   ·simp[d]
   ·have i:(Lib.indexByte l c == -1)=false:=by simpa using d
    rw[i];refine qL ?_;omega
def Jh(c:UInt8):uB c=decide (c∈ie):=decide_eq_decide.2 (pW ie c)
def uN(c:UInt8):aa prog 161 [dN .u8 c.toNat] (.one (dB (uB c))):=by
 rw[Jh];have hlen:ie.length=19:=rfl;refine kV func161 ?_;refine av Nat (fun i=>i<=19/\ ∀(q:Nat)d,q<i->ie[q]? =some d->d≠c) (fun i=>⟨[(0, .d (dN .u8 c.toNat)),(2, .d (dB false)),(3, .d (dN .i64 i))],[]⟩) (fun i=>19-i) 0 ⟨Nat.zero_le _,fun q d h=>absurd h (Nat.not_lt_zero _)⟩
  kw ?_
 rintro i ⟨z,r⟩;refine kI ?_;refine kO ?_;by_cases m:i<19
 ·have y:ie[i]? =some (ie[i]'(by omega)):=S_;refine Exists.elim (Exists.intro _ y:∃d,ie[i]? =some d) fun d j=>?_;refine kT ?_;refine kG ?_;refine kO ?_;refine bU ah (l:=ie) (i:=i) (c:=d) j rfl rfl rfl rfl rfl rfl rfl rfl ?_;refine kO ?_;by_cases b:d=c
  ·have u:d.toNat=c.toNat:=by rw[b]
   refine kT ?_;rw[show decide (c∈ie)=true from T_ (by rw[<- b];exact M_ j)];exact am
  ·have u:¬d.toNat=c.toNat:=dU b;refine kY ?_;exact⟨i+1,⟨m,fun q t v f=>by
    by_cases e:q=i
    ·subst e;rw[j]at f;cases f;exact b
    ·exact r q t O_ f⟩,by omega,weak ⟨rfl,rfl,aq O_ O_,trivial⟩ trivial rfl⟩
 ·refine kE ?_;rw[show decide (c∈ie)=false from F_ (fun x=>by obtain⟨q,h⟩:=W_ x;have v:=(G_.1 h).1;exact r q c O_ h rfl)]
  exact am
def mq(s:List UInt8):Bool:=match s with
 | []=>false
 |c::_=>decide (s.length<=24) && (dy c && decide (aT fF s=s.length))
def kr(s:List UInt8)(m:s.length<=4611686018427387903):aa prog 15 [dL s] (.one (dB (mq s))):=by
 have l:=an s;cases hs:s with
 |nil=>refine kU func15 ?_;refine iY ?_;refine JV ?_;exact am
 |cons c r=>
  have j:mq s=(decide (s.length<=24) && (dy c && decide (aT fF s=s.length))):=by rw[hs];rfl
  have hne:s≠[]:=by rw[hs];simp
  have h0:s[0]? =some c:=by rw[hs];rfl
  have c1:=iW c;have c2:=lK qU s O_;rw[<- hs,j];generalize aT fF s=n at *
  by_cases d:s.length<=24
  ·rw[T_ d,Bool.true_and];cases hb:dy c
   ·rw[hb]at c1;refine kU func15 ?_;refine iY ?_;refine Bg ?_;refine GX ?_;exact am
   ·rw[hb]at c1;by_cases f:n=s.length
    ·rw[T_ f];refine kU func15 ?_;refine iY ?_;refine Bg ?_;refine GX ?_;refine CZ ?_;refine kT ?_;exact am
    ·rw[F_ f];refine kU func15 ?_;refine iY ?_;refine Bg ?_;refine GX ?_;refine CZ ?_;refine kE ?_;exact am
  ·rw[F_ d,Bool.false_and];refine kU func15 ?_;refine iY ?_;refine Bg ?_;refine kE ?_;exact am
def uL(s:List UInt8)(l:s.length<=4611686018427387903):aa prog 52 [dL s] (.one (dB (mq s))):=by
 have j:=an s;cases hs:s with
 |nil=>refine kU func52 ?_;refine iY ?_;refine JV ?_;exact am
 |cons c r=>
  have i:mq s=(decide (s.length<=24) && decide (sH s=s.length)):=by rw[hs];show(decide ((c::r).length<=24) && (dy c && decide (aT fF (c::r)=(c::r).length)))=(decide ((c::r).length<=24) && decide ((if dy c=true then aT fF (c::r)else 0)=(c::r).length));cases dy c<;>simp
  have hne:s≠[]:=by rw[hs];simp
  have c2:aa prog 91 [dL s,dN .i64 0] (.one (dN .i64 (sH s:Nat))):=by have:=qM s 0 (Nat.zero_le _) O_;rwa[List.drop_zero,J_]at this
  rw[<- hs,i];generalize sH s=n at *
  by_cases d:s.length<=24
  ·rw[T_ d,Bool.true_and];by_cases f:n=s.length
   ·rw[T_ f];refine kU func52 ?_;refine iY ?_;refine Bg ?_;refine kT ?_;refine CZ ?_;refine kT ?_;exact am
   ·rw[F_ f];refine kU func52 ?_;refine iY ?_;refine Bg ?_;refine kT ?_;refine CZ ?_;refine kE ?_;exact am
  ·rw[F_ d,Bool.false_and];refine kU func52 ?_;refine iY ?_;refine Bg ?_;refine kE ?_;exact am
section
variable {P:Program}{T:TypeId->Option Ty}{n:Nat}{ops:Array Oper}{id:Nat}{draw:Bool}{K:AS->Prop}{s:AS}{k:Nat}{o:Oper}{os:List Oper}{fps:List FP}
def SO(j':Nat){d t e q:Nat}{ty:Ty}(z:∀t d,T t=some d->bl P t d)(h0:draw=false)(p:gd ops s o=some true)(A:o.op= .buildSlice t 0 #[])(l:o.dst=some d)(r:aO n o.dst=true)(C:T t=some ty)(f:ty.elem=some (e,q))(hnew:jh s j'=true)(h:aw P T n ops id draw K (k+1) os ⟨(d, .own j' 0 q e)::s.t,(j',some [])::s.b⟩ (aH ops o ⟨.junk,none⟩ []::fps)):aw P T n ops id draw K k (o::os) s fps:=by
 refine .snd h0 p (fun S0 w0 g a w m Q y x=>?_) h;obtain⟨u,D,_,c,_⟩:=(z _ _ C).und;obtain⟨rfl,j⟩:=c e q f;have B:(execOp a.eval o).run P w= .ok (.value (.slice (some ⟨w.heap.size,0,none⟩) 0 0)) (w.alloc (.cells #[] e)):=by unfold execOp;rw[A];simp only[Instr.buildSlice,Y_,run_underlying D w,R_,b5 j w];rw[if_neg O_,if_pos O_];simp[Instr.fill,show Array.range 0= #[] from by decide];rfl
 unfold Oper.wp;rw[B];show m (a.put o.dst _) _;rw[l];refine x _ _ _ (y.alloc (eI r d l) (dt hnew).1 (dt hnew).2 ⟨l_ _,fun i a v h=>by simp at h⟩ (fun _ v h=>by simp at h) (fun a h=>by cases h) (fun h=>by rw[rg hnew]at h;cases h) fun g' s' hg hb=>?_);refine⟨AS.kn_of hb,fun cs hc=>⟨0,by rw[hg],l_ _,by decide,by simp,#[],?_,by simp⟩⟩;rw[hg];exact heap_alloc_new w _
def R2(q:∀t d,T t=some d->bl P t d){t i b:TypeId}{ty l D:Ty}{x:Operand}(E:gd ops s o=some true)(z:o.op= .convert t i x)(H:T t=some ty)(I:ty.elem=some (b,1))(J:T b=some D)(L:D.ik=some .u8)(N:T i=some l)(m:l.isStr=true)(p:s.ev x= .d (.leaf (.sl 0 [])))(F:aO n o.dst=true)(G:gO draw ops (aH ops o ⟨.d (dL []),none⟩ []) k fps=true)(h:aw P T n ops id draw K (k+1) os (s.eff o.dst ⟨.d (dL []),none⟩) (aH ops o ⟨.d (dL []),none⟩ []::fps)):aw P T n ops id draw K k (o::os) s fps:=by
 refine .run E (.gen fun X U _=>?_) F G h;have W:=(aP U (x:=x) (by simp[z,Op.operands])).trans p;have C:=jv (q _ _ N) m;obtain⟨d,B,_,r,_⟩:=(q _ _ H).und;obtain⟨rfl,_⟩:=r b 1 I;obtain⟨Y,e,_,_,_,_,_,u,_⟩:=(q _ _ J).und;obtain rfl:=u _ L;refine ar fun n S0 w0 g a w Q=>⟨vL [],w,?_,Below.refl _ _,AV.M.val rfl⟩;have f:=Q.ev x;rw[W]at f;have f:AV.M (Own S0 g X) w (.sl 0 []) (a.eval x):=f;have O:∃A c,a.eval x= .slice A 0 c:=by
  generalize a.eval x=v at f;cases f with
  |emp=>exact⟨_,_,rfl⟩
  |sl=>exact⟨_,_,rfl⟩
 obtain⟨A,c,V⟩:=O;have S:(convert t i (.slice A 0 c)).run P w= .ok (.string (Bs [])) w:=by
  cases A with
  |none=>exact run_convert_bytes_nil w t b B e 0 c i C
  |some y=>rw[run_convert_bytes_string w t i b _ 0 c B e C,run_bytesToString w y 0 c [] (by simpa using run_loadCells_list (P:=P) w y [] (fun j v R=>by simp at R))];rfl
 unfold execOp;rw[z];simp only[V,Y_,S,R_,a_];rfl
end
def KZ{a b:Nat}(h:(digs a).length<=4294967296)(j:0<b)(l:b<4294967296):aa prog 223 [dW (digs a),dN .u32 b] (.tup [dW (digs (a/b)),dN .u32 (a%b:Nat)]):=
 ⟨aD func223 rfl rfl,fun S w C t z=>by
  match C,z with
  | [v,u],⟨d,f,_⟩=>
   obtain rfl:=bc f;obtain⟨A,n,c,rfl,p⟩:=fB d (ab _);have:=N4 A n c b (digs a) w p (by rw[<- p.len];exact h) j l;rw[ae]at this;refine this.mono ?_;rintro e w' ⟨q,B,r,rfl,y,m⟩;refine⟨_,rfl,⟨[.slice q B r, .int .u32 (a%b:Nat)],rfl,rfl,fun i x u d f=>?_⟩,m⟩
   match i with
   |0=>simp at d f;subst d f;exact mc (t.grow m) y
   |1=>simp at d f;subst d f;exact AV.M.val rfl
   |i+2=>simp at d⟩
section
variable {P:Program}{T:TypeId->Option Ty}{n:Nat}{ops:Array Oper}{id:Nat}{draw:Bool}{K:AS->Prop}{s:AS}{k:Nat}{o:Oper}{os:List Oper}{fps:List FP}
def O0(z:∀t d,T t=some d->bl P t d){t D r:TypeId}{ty q H:Ty}{x:Operand}{l:List UInt8}{cs:List AV}(j:cs=l.map fun c=>AV.val (.int .u8 c.toNat))(Z:l≠[])(L:gd ops s o=some true)(E:o.op= .convert t D x)(Q:T t=some ty)(R:ty.elem=some (r,1))(S:T r=some H)(U:H.ik=some .u8)(V:T D=some q)(u:q.isStr=true)(y:s.ev x= .d (.leaf (.sl l.length cs)))(N:aO n o.dst=true)(O:gO draw ops (aH ops o ⟨.d (dL l),none⟩ []) k fps=true)(h:aw P T n ops id draw K (k+1) os (s.eff o.dst ⟨.d (dL l),none⟩) (aH ops o ⟨.d (dL l),none⟩ []::fps)):aw P T n ops id draw K k (o::os) s fps:=by
 refine .run L (.gen fun s2 ht _=>?_) N O h;have hx:=(aP ht (x:=x) (by simp[E,Op.operands])).trans y;have hu:=jv (z _ _ V) u;obtain⟨d,Y,_,B,_⟩:=(z _ _ Q).und;obtain⟨rfl,_⟩:=B r 1 R;obtain⟨d2,A,_,_,_,_,_,C,_⟩:=(z _ _ S).und;obtain rfl:=C _ U;refine ar fun n S0 w0 g a w W=>⟨vL l,w,?_,Below.refl _ _,AV.M.val rfl⟩;have m:=W.ev x;rw[hx]at m;have m:AV.M (Own S0 g s2) w (.sl l.length cs) (a.eval x):=m;unfold execOp;rw[E];obtain⟨v,G⟩:∃v,a.eval x=v:=⟨_,rfl⟩;rw[G]at m;cases m with
 |emp=>
  have:l=[]:=by simpa using j.symm
  exact absurd this Z
 |sl f g1 g2 g3 g4 I J=>
  rename_i b p c;have X:∀i,i<l.length->w.cell? ⟨b,p+i,none⟩=some (.int .u8 ((l.map fun c=>(c.toNat:Int)).getD i 0)):=by
   intro i F;have e:cs[i]? =some (AV.val (.int .u8 (l[i].toNat:Int))):=by rw[j];simp[F]
   rw[I i _ e,bc (J i _ e)];simp[F]
  simp only[G,Y_,run_convert_bytes_arg w t r Y A b p l.length c (l.map fun c=>(c.toNat:Int)) S_ X D hu,R_,a_];have:strOfNums (l.map fun c=>(c.toNat:Int))=Bs l:=by
   unfold strOfNums Bs;congr 2;rw[List.map_map];conv=>rhs;rw[<- List.map_id l]
   apply List.map_congr_left;intro x _;simp
  rw[this];rfl
end
def xM{na:Bool}{xs:List Nat}(D:Wd xs){z:Int}(A:bv na xs=z)(B:bZ z):aa prog 157 [dI na xs] (.one (dL (fmt z))):=by
 have E:(ka z.natAbs).length<=42949672960:=by have C:=bE (l_ (digs z.natAbs).length);refine V_ (rh (10*(digs z.natAbs).length) _ (k_ C ?_)) (by unfold bZ at B;omega);rw[Nat.pow_mul];exact Nat.pow_le_pow_left D_ _
 refine kV func157 ?_;refine kQ (ek (na:=na) D A) ?_;refine av (Nat × List UInt8) (fun p=>ka z.natAbs=ka p.1++p.2/\(digs p.1).length<=2147483648) (fun p=>⟨[(1, .box 0 0),(3, .d (dL p.2)),(4, .d (dW (digs p.1)))],[(0,some (aZ z))]⟩) (fun p=>p.1) (z.natAbs,[]) ⟨by simp,B⟩ kw ?_;rintro⟨a,t⟩ ⟨f,x⟩;dsimp only at f x ⊢;refine kW ?_;refine fH rfl (fun h=>?_) (fun h=>?_)
 ·have h0:a≠0:=fun e=>by rw[e,aG]at h;exact absurd h D_
  have j:=congrArg List.length f;rw[dr h0]at j;simp only[L_,List.length_cons,List.length_nil]at j;have m:a%10<10:=Nat.mod_lt _ D_;refine bB ?_;refine kW ?_;refine ac (KZ (b:=10) (V_ x D_) D_ D_) rfl rfl rfl rfl rfl rfl rfl ?_;refine kW ?_;have r:(Value.int .u8 (IntKind.u8.wrap (IntKind.u32.wrap (48+((a%10:Nat):Int)))):Value)= .int .u8 ((dg (a%10)).toNat:Int):=by rw[IntWalk.u32_in _ O_,IntWalk.u8_in _ O_,oc m];rfl
  refine O0 ah (l:=[dg (a%10)]) (congrArg (fun v=>[AV.val v]) r) S_ rfl rfl rfl rfl rfl rfl rfl rfl rfl rfl rfl ?_;refine kO ?_;refine aj rfl rfl rfl rfl rfl rfl rfl (aA (a:=[dg (a%10)]) (b:=t) (by simp;omega)) ?_;refine kW ?_;refine⟨(a/10,dg (a%10)::t),⟨?_,?_⟩,?_,weak ⟨rfl,rfl,rfl,trivial⟩ ⟨rfl,trivial⟩ rfl⟩
  ·rw[f,dr h0];simp
  ·exact V_ (iS (Nat.div_le_self _ _)) x
  ·dsimp only;omega
 ·have h0:a=0:=by have:=of_decide_eq_false h;exact aU.1 O_
  subst h0;rw[cZ,List.nil_append]at f;refine iy ?_;refine tw ?_;refine aj rfl rfl rfl rfl rfl rfl rfl (jj (b:=[])) ?_;refine kW ?_;by_cases i:z=0
  ·have y:t=[]:=by rw[<- f,i];exact cZ
   subst i;refine fX (T:=TT) rfl ?_ ?_
   ·exact T_ y
   exact am
  ·have y:t≠[]:=by rw[<- f,dr O_];simp
   refine eR (T:=TT) rfl ?_ ?_
   ·exact F_ y
   refine bB ?_;refine kW ?_;refine fH rfl (fun h=>?_) (fun h=>?_)
   ·have c:=h_ h;refine A7 ?_;refine kO ?_;refine aj rfl rfl rfl rfl rfl rfl rfl (aA (a:=[45]) (b:=t) (by rw[<- f];simp;omega)) ?_;refine kW ?_;have u:fmt z=[45]++t:=by unfold fmt;rw[if_neg i,if_pos c,f]
    rw[u];exact co (T:=TT) rfl rfl
   ·have c:=of_decide_eq_false h;refine bB ?_;refine kW ?_;have u:fmt z=t:=by unfold fmt;rw[if_neg i,if_neg c,f];rfl
    rw[u];exact co (T:=TT) rfl rfl
def mt{z:Int}(b:bZ z):aa prog 157 [dZ z] (.one (dL (fmt z))):=xM (ab _) (a6 z) b
def j8:List UInt8->List UInt8->List UInt8
 | [],_=>[]
 | [c],o=>if c=34 then o else []
 |c::d::r,o=>if c=34 then o else if c.toNat<32 then []else if c=92 then(if Lib.indexByte [34,92,110] d<0 then []else j8 r (o++[if d=110 then 10 else d]))else j8 (d::r) (o++[c])
def Rt{r o:List UInt8}:j8 (34::r) o=o:=by cases r<;>simp[j8]
def Kn{c:UInt8}{r o:List UInt8}(h:c≠34)(b:c.toNat<32):j8 (c::r) o=[]:=by cases r<;>simp[j8,h,b]
def Gv{c:UInt8}{o:List UInt8}(h:c≠34):j8 [c] o=[]:=by simp[j8,h]
def I3{d:UInt8}{r o:List UInt8}:j8 (92::d::r) o=if Lib.indexByte [34,92,110] d<0 then []else j8 r (o++[if d=110 then 10 else d]):=by simp[j8]
def LW{c:UInt8}{r o:List UInt8}(h:c≠34)(b:¬c.toNat<32)(e:c≠92):j8 (c::r) o=j8 r (o++[c]):=by
 cases r with
 |nil=>simp[j8,h]
 |cons d r=>simp[j8,h,b,e]
def yT:∀(n:Nat)(s:List UInt8)(i:Nat),s.length<=n->ez s i=0∨i<ez s i:=by
 intro n;induction n using Nat.strongRecOn with
 |_ n b=>
  intro s i h
  match s,h with
  | [],_=>simp[ez]
  | [c],_=>simp only[ez];split <;>simp
  |c::d::r,h=>
   simp at h;simp only[ez];split
   ·simp
   ·split
    ·simp
    ·split
     ·split
      ·simp
      ·rcases b (n-2) O_ r (i+2) O_ with h|h
       ·exact .inl h
       ·exact .inr O_
     ·rcases b (n-1) O_ (d::r) (i+1) (by simp;omega)with h|h
      ·exact .inl h
      ·exact .inr O_
def lR{a b:Int}(c:bZ a)(d:bZ b){g:Nat}(e:Nat.gcd a.natAbs b.natAbs=g):aa prog 231 [dZ a,dZ b] (.one (dZ g)):=by have:=yl (na:=decide (a<0)) (nb:=decide (b<0)) (ab a.natAbs) (ab b.natAbs) c d;rw[ae,ae,e]at this;exact this
def xk{a b q r:Int}(c:bZ a)(d:bZ b)(h0:b≠0)(e:a.fdiv b=q)(f:a.fmod b=r):aa prog 299 [dZ a,dZ b] (.tup [dZ q,dZ r,dN .i64 0]):=
 zG (ab _) (ab _) c d (by rw[a6];exact h0) (by rw[a6,a6];exact e) (by rw[a6,a6];exact f)
def jz{a b:Int}(c:bZ a)(d:bZ b){g:Nat}(e:Nat.gcd a.natAbs b.natAbs=g):aa prog 221 [dZ a,dZ b] (.one (dZ g)):=by have:=u3 (na:=decide (a<0)) (nb:=decide (b<0)) (ab a.natAbs) (ab b.natAbs) c d;rw[ae,ae,e]at this;exact this
def uC{a b q r:Int}(c:bZ a)(d:bZ b)(h0:b≠0)(e:a.fdiv b=q)(f:a.fmod b=r):aa prog 279 [dZ a,dZ b] (.tup [dZ q,dZ r,dN .i64 0]):=
 xW (ab _) (ab _) c d (by rw[a6];exact h0) (by rw[a6,a6];exact e) (by rw[a6,a6];exact f)
end Go.Proofs.YtnchbpoopnjghaaGreatDoor
