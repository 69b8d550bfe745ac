/- Parts of a proof: contracts of the functions that the laws reach. -/
import Derived.Test.YtnchbpoopnjghaaGreatDoorCZ1
set_option maxHeartbeats 100000000
set_option maxRecDepth 100000
set_option linter.all false
open Go.Proofs.Tryz
namespace Go.Proofs.YtnchbpoopnjghaaGreatDoor
open Go.RowKit
inductive RT where
 |v (r:RV)
 |own (j n k e:Nat)
def RT.tv:RT->TV
 | .v r=>r.tv
 | .own j n k e=> .own j n k e
abbrev BL:=List (Nat × List AV)
def an:BL->List (Nat × Option (List AV))
 | []=>[]
 |(j,cs)::r=>(j,some cs)::an r
def sB (b:BL):AS:=⟨[],an b⟩
def sx:Nat->List TV->List (Nat × TV)
 |_,[]=>[]
 |k,d::r=>(k,d)::sx (k+1) r
def nc (S:Nat->Prop) (g:Nat->Nat) (s:AS) (w:World):List TV->List Value->Prop
 | [],[]=>True
 |x::xs,v::vs=>TV.M S g s w x v/\nc S g s w xs vs
 |_,_=>False
def BX (g:Nat->Nat) (b:BL) (q:Nat):Prop:=∃j cs,(sB b).bx j=some cs/\g j=q
structure Eo (S:Nat->Prop) (g:Nat->Nat) (w:World) (b:BL):Prop where
 tab:∀w',bO (BX g b) w w'->Fx w'
 blk:∀q,S q->q<w.heap.size/\ ¬BX g b q/\ ∀off v,w.cell? ⟨q,off,none⟩=some v->fI v=true
 gl:∀k cs,af GT k=some cs->TV.M (Own S g (sB b)) g (sB b) w (.rp cs) (.pointer (some ⟨k,0,none⟩))
 bm:∀j cs,(sB b).bx j=some cs->lW (Own S g (sB b)) g (sB b) w j cs (g j)
 inj:∀i j ci cj,(sB b).bx i=some ci->(sB b).bx j=some cj->g i=g j->i=j
def uQ (S:Nat->Prop) (g:Nat->Nat) (b:BL) (r:RT) (b':BL) (w:World) (e:Ending) (w':World):Prop:=
 ∃v g',e= .returned v/\(∀j cs cs',(sB b).bx j=some cs->(sB b').bx j=some cs'->g' j=g j/\cs.length<=cs'.length) /\
  (∀j cs',(sB b').bx j=some cs'->(w.heap.size<=g' j∨BX g b (g' j))/\lW (Own S g' (sB b')) g' (sB b') w' j cs' (g' j)) /\
  (∀i j ci cj,(sB b').bx i=some ci->(sB b').bx j=some cj->g' i=g' j->i=j)/\TV.M (Own S g' (sB b')) g' (sB b') w' r.tv v/\bO (BX g b) w w'
structure ap (P:Program) (f:FuncId) (ts:List TV) (b:BL) (r:RT) (b':BL):Prop where
 enter:∀args w,(callFunc f args).run P w= .ok (.enter f args) w
 calls:∀S g w vs,Eo S g w b->nc (Own S g (sB b)) g (sB b) w ts vs->Calls P f vs.toArray w (uQ S g b r b' w)
section
variable {n:Nat} {S0:Nat->Prop} {w0:ee} {g:Nat->Nat} {s:AS} {a:Act} {w w':World}
theorem fe:∀(b:BL) (j:Nat),af (an b) j=none∨ ∃cs,af (an b) j=some (some cs)
 | [],_=> .inl rfl
 |(i,cs)::r,j=>by
  by_cases e:i=j
  ·subst e;exact .inr ⟨cs,ae _ _ _⟩
  ·simp only[an,aj _ _ e];exact fe r j
theorem bE {b:BL} {j:Nat} {cs:List AV}:(sB b).bx j=some cs↔af (an b) j=some (some cs):=by
 unfold sB AS.bx
 constructor
 ·intro h;split at h
  ·rename_i x hx;cases h;exact hx
  ·cases h
 ·intro h;simp only[h]
theorem xL {α:Type} (x y:List (Nat × α)) (j:Nat):af (x++y) j=match af x j with|some v=>some v|none=>af y j:=pN x y j
def Kv:Option Nat->TV->List (Nat × TV)->List (Nat × TV)
 |some d,x,t=>(d,x)::t
 |none,_,t=>t
def b9 (b':BL):BL->List (Nat × Option (List AV))
 | []=>[]
 |(j,_)::r=>match af (an b') j with
  |some _=>b9 b' r
  |none=>(j,none)::b9 b' r
theorem lK {b':BL}:∀{b:BL} {j:Nat} {cs:List AV},af (an b) j=some (some cs)->af (an b') j=none->af (b9 b' b) j=some none
 | [],_,_,h,_=>by cases h
 |(i,c)::r,j,cs,h,h'=>by
  simp only[b9]
  by_cases e:i=j
  ·subst e
   rw[h'];exact ae _ _ _
  ·simp only[an,aj _ _ e]at h
   split
   ·exact lK h h'
   ·rw[aj _ _ e];exact lK h h'
theorem jj {b':BL}:∀{b:BL} {j:Nat},af (an b) j=none->af (b9 b' b) j=none
 | [],_,_=>rfl
 |(i,c)::r,j,h=>by
  by_cases e:i=j
  ·subst e;simp only[an,ae]at h;cases h
  ·simp only[an,aj _ _ e]at h
   simp only[b9]
   split
   ·exact jj h
   ·rw[aj _ _ e];exact jj h
theorem TV.M.sub {S:Nat->Prop} {s s':AS} {x:TV} {v:Value} (h:TV.M S g s w x v) (hk:∀j∈dj x,s'.kn j) (hb:∀j cs,s'.bx j=some cs->s.bx j=some cs):TV.M S g s' w x v:=by
 cases x with
 |d x=>exact h
 |tup ts=>exact h
 |box j o=>exact⟨hk j (by simp[dj]),fun cs hc=>h.2 cs (hb j cs hc)⟩
 |rp cs=>exact h
 |own j n k e0=>exact⟨hk j (by simp[dj]),fun cs hc=>h.2 cs (hb j cs hc)⟩
 |clo fn fs cs=>obtain⟨us,vs,e,h1,h2⟩:=h;exact⟨us,vs,e,h1.weak hb (fun j hj=>hk j (by simp[dj,hj])),h2.weak hb (fun j hj=>hk j (by simp[dj,hj]))⟩
 |mp es=>exact h
 |nil=>exact h
 |und=>exact h
 |junk=>trivial
 |dfr=>trivial
 |vw j o n k=>exact⟨hk j (by simp[dj]),fun cs hc=>h.2 cs (hb j cs hc)⟩
 |vs j o n c k e0=>exact⟨hk j (by simp[dj]),fun cs hc=>h.2 cs (hb j cs hc)⟩
theorem MG.callT (h:MG n S0 w0 g s a w) {b b':BL} (hb:pp s (an b)) (hwfc:rZ (an b) (an b)=true) (hcl:∀j cs,s.bx j=some cs->j ∉ b.map (·.1)->bC j=false)
 (hnew:∀j cs,(sB b').bx j=some cs->af (an b) j=none->af s.b j=none/\gP j=false):
 ∃S,Eo S g w b/\Own S g (sB b)=Own S0 g s/\ ∀(r:RT) (v:Value) (g':Nat->Nat) (w':World),
  (∀j cs cs',(sB b).bx j=some cs->(sB b').bx j=some cs'->g' j=g j/\cs.length<=cs'.length) ->
  (∀j cs',(sB b').bx j=some cs'->(w.heap.size<=g' j∨BX g b (g' j))/\lW (Own S g' (sB b')) g' (sB b') w' j cs' (g' j)) ->
  (∀i j ci cj,(sB b').bx i=some ci->(sB b').bx j=some cj->g' i=g' j->i=j)->TV.M (Own S g' (sB b')) g' (sB b') w' r.tv v->bO (BX g b) w w' ->
  ∀(dst:Option Nat),(∀d,dst=some d->d<n) ->
  ∃g2,MG n S0 w0 g2 ⟨Kv dst r.tv s.t,an b'++b9 b' b++s.b⟩ (a.put dst v) w':=by
 have inb:∀j cs,(sB b).bx j=some cs->s.bx j=some cs:=fun j cs hj=>hb.at (bE.1 hj)
 have bxown:∀q,BX g b q->Own S0 g s q:=fun q ⟨j,cs,hj,e⟩=> .inr ⟨j,cs,inb j cs hj,e⟩
 have s0no:∀q,S0 q-> ¬BX g b q:=fun q hq ⟨j,cs,hj,e⟩=>by
  have h1:=h.cl q hq;rcases(h.bm j cs (inb j cs hj)).1 with h2|h2
  ·rw[e]at h2;exact absurd h1.1 (Nat.not_lt.2 h2)
  ·rw[e]at h2;exact h1.2.1 h2
 have notin:∀i ci,s.bx i=some ci->af (an b) i=none-> ¬BX g b (g i):=fun i ci hi hn ⟨j,cs,hj,e⟩=>by
  have:=h.inj j i cs ci (inb j cs hj) hi e;subst this;rw[bE.1 hj]at hn;cases hn
 refine⟨fun q=>Own S0 g s q/\ ¬BX g b q,?_,?_,?_⟩
 ·refine⟨fun w' hw=>h.tg w' (h.grow.go hw (fun q ⟨j,cs,hj,e⟩=>by rw[<- e];exact(h.bm j cs (inb j cs hj)).1)),fun q hq=>⟨h.own_lt hq.1,hq.2,?_⟩,fun k cs hk=>?_,fun j cs hj=>?_,fun i j ci cj hi hj e=>h.inj i j ci cj (inb i ci hi) (inb j cj hj) e⟩
  ·intro off v hv
   rcases hq.1 with hs| ⟨j,cs,hj,e⟩
   ·obtain⟨h1,hx,h2⟩:=h.cl q hs
    exact h2 off v (by rw[show w.cell? ⟨q,off,none⟩=w0.w.cell? ⟨q,off,none⟩ from World.cell?_of_block (h.grow.block q h1 hx)]at hv;exact hv)
   ·subst e
    have hjn:j ∉ b.map (·.1):=fun hm=>by
     have:∀(b:BL),j∈b.map (·.1)-> ∃cs,af (an b) j=some (some cs):=by
      intro b
      induction b with
      |nil=>intro hm;cases hm
      |cons p r ih=>
       obtain⟨i,c⟩:=p;intro hm
       by_cases e:i=j
       ·subst e;exact⟨c,ae _ _ _⟩
       ·obtain⟨c',hc'⟩:=ih (by simpa[show ¬j=i from fun e'=>e e'.symm]using hm)
        exact⟨c',by simp only[an,aj _ _ e];exact hc'⟩
     obtain⟨c,hc⟩:=this b hm;exact hq.2 ⟨j,c,bE.2 hc,rfl⟩
    have hwb:bC j=false:=hcl j cs hj hjn;obtain⟨_,arr,e1,h1,_,h3,_⟩:=h.bm j cs hj
    simp only[World.cell?,h1,Option.isSome_none,Bool.false_eq_true,if_false]at hv
    exact h3 hwb v (Array.mem_toList_iff.2 (Array.mem_of_getElem? hv))
  ·have e:Own (fun q=>Own S0 g s q/\ ¬BX g b q) g (sB b)=Own S0 g s:=by
    exact Q3
   rw[e];exact h.gl k cs hk
  ·have e:Own (fun q=>Own S0 g s q/\ ¬BX g b q) g (sB b)=Own S0 g s:=by
    exact Q3
   rw[e];obtain⟨_,arr,e1,p1,p2,p3,p4,p5⟩:=h.bm j cs (inb j cs hj);exact⟨arr,e1,p1,p2,p3,fun hl i a v ha hv=>(p4 hl i a v ha hv).sub (fun q hq=>rZ.at hwfc (bE.1 hj) hl q (mr ha q hq)) inb,p5⟩
 ·exact Q3
 ·intro r v g' w' hkeep hbm hinj hres hbx dst hdst
  generalize hs2:(AS.mk (Kv dst r.tv s.t) (an b'++b9 b' b++s.b))=s2;have hb2:s2.b=an b'++(b9 b' b++s.b):=by rw[<- hs2,List.append_assoc]
  have lk:∀i,af s2.b i=match af (an b') i with|some v=>some v|none=>(match af (b9 b' b) i with|some v=>some v|none=>af s.b i):=fun i=>by
   rw[hb2,xL,xL];cases af (an b') i<;>cases af (b9 b' b) i<;>rfl
  have al:∀i ci,s2.bx i=some ci->(sB b').bx i=some ci∨((sB b').bx i=none/\af (an b') i=none/\af (an b) i=none/\s.bx i=some ci):=by
   intro i ci hi;unfold AS.bx at hi;rw[lk i]at hi;rcases fe b' i with h1| ⟨cs,h1⟩
   ·right
    simp only[h1]at hi
    rcases fe b i with h2| ⟨cs,h2⟩
    ·rw[jj h2]at hi
     refine⟨?_,h1,h2,?_⟩
     ·unfold sB AS.bx;simp only[h1]
     ·unfold AS.bx;exact hi
    ·rw[lK h2 h1]at hi
     cases hi
   ·left
    simp only[h1]at hi
    cases hi;exact bE.2 h1
  have la:∀i ci,(sB b').bx i=some ci->s2.bx i=some ci:=by
   intro i ci hi;unfold AS.bx;rw[lk i,bE.1 hi]
  have lo:∀i ci,s.bx i=some ci->af (an b') i=none->af (an b) i=none->s2.bx i=some ci:=by
   intro i ci hi h1 h2;unfold AS.bx;rw[lk i,h1,jj h2];exact hi
  generalize hg2:(fun i=>match af (an b') i with|some _=>g' i|none=>g i)=g2;have g2n:∀i ci,(sB b').bx i=some ci->g2 i=g' i:=fun i ci hi=>by rw[<- hg2];simp only[bE.1 hi]
  have g2o:∀i,af (an b') i=none->g2 i=g i:=fun i hi=>by rw[<- hg2];simp only[hi]
  have old:∀i ci,(sB b').bx i=some ci->s.kn i-> ∃cs,(sB b).bx i=some cs:=by
   intro i ci hi hk;rcases fe b i with h1| ⟨cs,h1⟩
   ·obtain⟨x,hx⟩:=hk
    rw[(hnew i ci hi h1).1]at hx;cases hx
   ·exact⟨cs,bE.2 h1⟩
  have eO:Own S0 g2 s2=Own (fun q=>Own S0 g s q/\ ¬BX g b q) g' (sB b'):=by
   funext q
   apply propext
   constructor
   ·rintro(h1| ⟨i,ci,hi,e⟩)
    ·exact .inl ⟨.inl h1,s0no q h1⟩
    ·rcases al i ci hi with h1| ⟨h1,h2,h3,h4⟩
     ·exact .inr ⟨i,ci,h1,by rw[<- g2n i ci h1];exact e⟩
     ·rw[g2o i h2]at e
      subst e;exact .inl ⟨.inr ⟨i,ci,h4,rfl⟩,notin i ci h4 h3⟩
   ·rintro(⟨h1| ⟨i,ci,hi,e⟩,h2⟩| ⟨i,ci,hi,e⟩)
    ·exact .inl h1
    ·have hbn:af (an b) i=none:=by
      rcases fe b i with h3| ⟨cs,h3⟩
      ·exact h3
      ·exact absurd ⟨i,cs,bE.2 h3,e⟩ h2
     have hbn':af (an b') i=none:=by
      rcases fe b' i with h3| ⟨cs,h3⟩
      ·exact h3
      ·obtain⟨x,hx⟩:=AS.kn_of hi
       rw[(hnew i cs (bE.2 h3) hbn).1]at hx;cases hx
     exact .inr ⟨i,ci,lo i ci hi hbn' hbn,by rw[g2o i hbn'];exact e⟩
    ·exact .inr ⟨i,ci,la i ci hi,by rw[g2n i ci hi];exact e⟩
  have hA:bG (Own S0 g s) w w':=⟨hbx.size,fun q hq hn=>hbx.block q hq (fun hx=>hn (bxown q hx))⟩
  have hS:∀q,q<w.heap.size->Own S0 g2 s2 q->Own S0 g s q:=by
   intro q hq h1;rw[eO]at h1;rcases h1 with h1| ⟨i,ci,hi,e⟩
   ·exact h1.1
   ·rcases(hbm i ci hi).1 with h2|h2
    ·omega
    ·rw[e]at h2;exact bxown q h2
  have hF:iv s s2 g g2 w w':=by
   refine⟨fun j hj=>?_,fun j cs2 hk hj=>?_⟩
   ·obtain⟨x,hx⟩:=hj
    unfold AS.kn;rw[lk j]
    split
    ·exact⟨_,rfl⟩
    ·split
     ·exact⟨_,rfl⟩
     ·exact⟨x,hx⟩
   ·rcases al j cs2 hj with h1| ⟨h1,h2,h3,h4⟩
    ·obtain⟨cs,hcs⟩:=old j cs2 h1 hk
     obtain⟨h5,h6⟩:=hkeep j cs cs2 hcs h1;refine⟨cs,inb j cs hcs,h6,by rw[g2n j cs2 h1,h5],fun arr e he=>?_⟩;obtain⟨a2,f2,k1,k2⟩:=hbx.shp (g j) (Array.getElem?_eq_some_iff.1 he).1 ⟨j,cs,hcs,rfl⟩ arr e (0,0) he;obtain⟨_,a3,e3,k3,_⟩:=hbm j cs2 h1;rw[h5,k1]at k3;cases k3;exact⟨_,k1,k2⟩
    ·refine⟨cs2,h4,Nat.le_refl _,g2o j h2,fun arr e he=>⟨arr,?_,rfl⟩⟩
     exact(hbx.block (g j) (Array.getElem?_eq_some_iff.1 he).1 (notin j cs2 h4 h3)).trans he
  have hkn:∀j,(sB b').kn j->s2.kn j:=fun j ⟨x,hx⟩=>by
   have hx:af (an b') j=some x:=hx;unfold AS.kn;rw[lk j,hx];exact⟨x,rfl⟩
  have hback:∀j cs,(sB b').kn j->s2.bx j=some cs->(sB b').bx j=some cs:=fun j cs ⟨x,hx⟩ hj=>by
   rcases al j cs hj with h1| ⟨_,h2,_⟩
   ·exact h1
   ·have hx:af (an b') j=some x:=hx
    rw[h2]at hx;cases hx
  refine⟨g2,fun k=>?_,fun i ci hi=>?_,fun i j ci cj hi hj e=>?_,h.grow.go hbx (fun q ⟨j,cs,hj,e⟩=>by rw[<- e];exact(h.bm j cs (inb j cs hj)).1),by
   rw[vD,show s2.tv DK=s.tv DK by
    rw[<- hs2];cases dst with
    |none=>rfl
    |some d=>exact pF (hdst d rfl) h.nk]
   exact h.df.agree hF,by cases dst<;>simpa[Act.put]using h.sz,h.cl,h.tg,fun k cs hk=>(h.gl k cs hk).agree hA hS hF,fun i q ci h1 h2 hi=>?_,h.nk⟩
  ·have hold:∀q,TV.M (Own S0 g2 s2) g2 s2 w' (s.tv q) (a.tmps.getD q Go.undef):=fun q=>(h.tm q).agree hA hS hF
   cases dst with
   |none=>
    have:s2.tv k=s.tv k:=by rw[<- hs2];rfl
    rw[this];exact hold k
   |some d=>
    by_cases hk:d=k
    ·subst hk
     have e1:s2.tv d=r.tv:=by rw[<- hs2];simp[AS.tv,Kv,ae]
     rw[e1];have e2:(a.put (some d) v).tmps.getD d Go.undef=v:=by simp[Act.put,h.sz,hdst d rfl]
     rw[e2,eO];generalize r.tv=x at hres;cases x with
     |d x=>exact hres
     |tup ts=>exact hres
     |box j o=>exact⟨hkn j hres.1,fun cs hc=>by have:=hback j cs hres.1 hc;rw[g2n j cs this];exact hres.2 cs this⟩
     |rp cs=>exact hres
     |own j m q e0=>exact⟨hkn j hres.1,fun cs hc=>by have:=hback j cs hres.1 hc;rw[g2n j cs this];exact hres.2 cs this⟩
     |clo fn fs cs=>
      have hc:∀{xs:List CV} {vs:List Value},oU g' (sB b') xs vs->oU g2 s2 xs vs:=by
       intro xs
       induction xs with
       |nil=>intro vs h;cases vs with
        |nil=>trivial
        |cons=>exact h.elim
       |cons c xs ih=>intro vs h;cases vs with
        |nil=>exact h.elim
        |cons v vs=>
         refine⟨?_,ih h.2⟩;cases c with
         |val u=>exact h.1
         |box j o=>exact⟨hkn j h.1.1,fun cs hc=>by have:=hback j cs h.1.1 hc;rw[g2n j cs this];exact h.1.2 cs this⟩
      obtain⟨us,vs,e,h1,h2⟩:=hres;exact⟨us,vs,e,hc h1,hc h2⟩
     |mp es=>exact hres
     |nil=>exact hres
     |und=>exact hres
     |junk=>trivial
     |dfr=>trivial
     |vw j o m q=>exact⟨hkn j hres.1,fun cs hc=>by have:=hback j cs hres.1 hc;rw[g2n j cs this];exact hres.2 cs this⟩
     |vs j o m c q e0=>exact⟨hkn j hres.1,fun cs hc=>by have:=hback j cs hres.1 hc;rw[g2n j cs this];exact hres.2 cs this⟩
    ·have e1:s2.tv k=s.tv k:=by rw[<- hs2];simp[AS.tv,Kv,aj _ _ hk]
     rw[e1];have e2:(a.put (some d) v).tmps.getD k Go.undef=a.tmps.getD k Go.undef:=by simp[Act.put,Array.getElem?_setIfInBounds_ne hk]
     rw[e2];exact hold k
  ·rcases al i ci hi with h1| ⟨h1,h2,h3,h4⟩
   ·rw[g2n i ci h1]
    obtain⟨h5,h6⟩:=hbm i ci h1
    refine⟨?_,by
     rw[eO];obtain⟨arr,e1,p1,p2,p3,p4,p5⟩:=h6;refine⟨arr,e1,p1,p2,p3,fun hl q c v hc hv=>?_,p5⟩;have hq:=p4 hl q c v hc hv;cases c with
     |ow j m k e=>exact⟨hkn j hq.1,fun cs hc=>by have:=hback j cs hq.1 hc;rw[g2n j cs this];exact hq.2 cs this⟩
     |bp j o=>exact⟨hkn j hq.1,fun cs hc=>by have:=hback j cs hq.1 hc;rw[g2n j cs this];exact hq.2 cs this⟩
     |val=>trivial
     |sl=>trivial
     |nl=>trivial⟩
    rcases h5 with h5| ⟨j,cs,hj,e⟩
    ·exact .inl (Nat.le_trans h.grow.size h5)
    ·rw[<- e];exact(h.bm j cs (inb j cs hj)).1
   ·rw[g2o i h2]
    obtain⟨h5,h6⟩:=h.bm i ci h4;exact⟨h5,h6.agree (hbx.block _ h6.lt (notin i ci h4 h3)) hA hS hF⟩
  ·have cross:∀i j ci cj,(sB b').bx i=some ci->af (an b) j=none->s.bx j=some cj->af (an b') j=none->g' i=g j->False:=by
    intro i j ci cj hi hn hj hn' e;rcases(hbm i ci hi).1 with h1|h1
    ·have:=(h.bm j cj hj).2.lt;omega
    ·rw[e]at h1;exact notin j cj hj hn h1
   rcases al i ci hi with h1| ⟨h1,h2,h3,h4⟩<;>rcases al j cj hj with h1'| ⟨h1',h2',h3',h4'⟩
   ·rw[g2n i ci h1,g2n j cj h1']at e;exact hinj i j ci cj h1 h1' e
   ·rw[g2n i ci h1,g2o j h2']at e;exact(cross i j ci cj h1 h3' h4' h2' e).elim
   ·rw[g2o i h2,g2n j cj h1']at e;exact(cross j i cj ci h1' h3 h4 h2 e.symm).elim
   ·rw[g2o i h2,g2o j h2']at e;exact h.inj i j ci cj h4 h4' e
  ·rcases al i ci hi with h3| ⟨h3,h4,h5,h6⟩
   ·rw[g2n i ci h3]
    rcases fe b i with h4| ⟨cs,h4⟩
    ·rw[(hnew i ci h3 h4).2]at h1;cases h1
    ·rw[(hkeep i cs ci (bE.2 h4) h3).1]
     exact h.gp i q cs h1 h2 (inb i cs (bE.2 h4))
   ·rw[g2o i h4];exact h.gp i q ci h1 h2 h6
end
section
variable {P:Program} {T:TypeId->Option Ty} {n:Nat} {S0:Nat->Prop} {w0:ee}
theorem nc.length {S:Nat->Prop} {g:Nat->Nat} {s:AS} {w:World}:∀{ts:List TV} {vs:List Value},nc S g s w ts vs->ts.length=vs.length
 | [],[],_=>rfl
 |_::ts,_::vs,h=>by simp[nc.length h.2]
 | [],_::_,h=>h.elim
 |_::_,[],h=>h.elim
theorem nc.at {S:Nat->Prop} {g:Nat->Nat} {s:AS} {w:World}:∀{ts:List TV} {vs:List Value},nc S g s w ts vs-> ∀(k i:Nat),TV.M S g s w (match af (sx k ts) i with|some v=>v|none=> .junk) (if i<k then undef else vs.getD (i-k) undef)
 | [],[],_,k,i=>trivial
 |d::ds,v::vs,h,k,i=>by
  simp only[sx]
  by_cases e:k=i
  ·subst e
   rw[ae]
   simp only[Nat.lt_irrefl,if_false,Nat.sub_self]
   exact h.1
  ·rw[aj _ _ e]
   have:=nc.at h.2 (k+1) i
   by_cases h1:i<k
   ·rw[if_pos (by omega)]at this;rw[if_pos h1];exact this
   ·rw[if_neg (by omega)]at this
    rw[if_neg h1];have e2:i-k=(i-(k+1))+1:=by omega
    rw[e2]
    simpa using this
 | [],_::_,h,_,_=>h.elim
 |_::_,[],h,_,_=>h.elim
def JI (T:TypeId->Option Ty) (s:AS) (rs:List ResultVar) (r:RT) (b':BL):Prop:=
 (match r with
  | .v r=>∃l,jG T s rs=some l/\AD l=r
  | .own j n k e=>∃t,rs=[.tmp t]/\s.tv t= .own j n k e/\nA (s.tv DK)=true)/\pp s (an b')
def cH (b b':BL):Prop:=∀j cs cs',(sB b).bx j=some cs->(sB b').bx j=some cs'->cs.length<=cs'.length
theorem cH.refl (b:BL):cH b b:=fun j cs cs' h h'=>by rw[h]at h';cases h';exact Nat.le_refl _
theorem cH.one {j:Nat} {cs cs':List AV} (h:cs.length<=cs'.length):cH [(j,cs)] [(j,cs')]:=fun i c c' h1 h2=>by
 have h1:=bE.1 h1;have h2:=bE.1 h2
 simp only[an]at h1 h2
 by_cases e:j=i
 ·subst e;rw[ae]at h1 h2;cases h1;cases h2;exact h
 ·rw[aj _ _ e]at h1;cases h1
def rj (b':BL):BL->Bool
 | []=>true
 |(j,_)::r=>(gP j || !(af (an b') j).isSome) && rj b' r
theorem wN {b':BL}:∀{b:BL} {j:Nat} {cs cs':List AV},rj b' b=true->af (an b) j=some (some cs)->af (an b') j=some (some cs')->gP j=true
 | [],_,_,_,_,h,_=>by cases h
 |(i,c)::r,j,cs,cs',hr,h,h'=>by
  simp only[rj,Bool.and_eq_true]at hr
  by_cases e:i=j
  ·subst e
   have:=hr.1;rw[h']at this
   simpa using this
  ·simp only[an,aj _ _ e]at h;exact wN hr.2 h h'
def wF (r:RT) (b':BL):Bool:=rZ (an b') (an b') && match r with
 | .own j _ _ _=>match af (an b') j with
  |some _=>true
  |none=>false
 | .v _=>true
theorem DN {ts:List TV}:∀{k i:Nat},k+ts.length<=i->af (sx k ts) i=none:=by
 induction ts with
 |nil=>intro k i _;rfl
 |cons d ds ih=>
  intro k i h
  simp only[List.length_cons]at h
  rw[sx,aj _ _ (by omega)];exact ih (by omega)
def oQ (g:Nat->Nat) (w:World) (b:BL):ee:=⟨w,BX g b,[],fun j=>if gP j then some (g j)else none⟩
theorem zE {S:Nat->Prop} {g g1:Nat->Nat} {w w1:World} {b b':BL} {s:AS} {a:Act} {r:RT} {v:Value} (hrv:rj b' b=true) (hwfc:rZ (an b') (an b')=true) (hlen:cH b b') (hwk:pp s (an b')) (hm:MG n S (oQ g w b) g1 s a w1)
 (hv:TV.M (Own S g1 (sB b')) g1 (sB b') w1 r.tv v):uQ S g b r b' w (.returned v) w1:=by
 have hbx:∀j cs,(sB b').bx j=some cs->s.bx j=some cs:=fun j cs hj=>hwk.at (bE.1 hj)
 have hOs:∀q,q<w1.heap.size->Own S g1 (sB b') q->Own S g1 s q:=by
  rintro q _ (h0| ⟨j,cs,hj,e⟩)
  ·exact .inl h0
  ·exact .inr ⟨j,cs,hbx j cs hj,e⟩
 refine⟨v,g1,rfl,fun j cs cs' hj hj'=>⟨?_,hlen j cs cs' hj hj'⟩,fun j cs' hj=>?_,fun i j ci cj hi hj e=>hm.inj i j ci cj (hbx i ci hi) (hbx j cj hj) e,hv,hm.grow⟩
 ·have hr:=wN hrv (bE.1 hj) (bE.1 hj')
  exact hm.gp j (g j) cs' hr (by simp only[oQ,hr,if_true]) (hbx j cs' hj')
 ·obtain⟨h1,arr,e1,p1,p2,p3,p4,p5⟩:=hm.bm j cs' (hbx j cs' hj)
  exact⟨h1,arr,e1,p1,p2.agree (bG.refl _ _) hOs,p3,fun hl i c v hc hv=>(p4 hl i c v hc hv).sub (fun q hq=>rZ.at hwfc (bE.1 hj) hl q (mr hc q hq)) hbx,p5⟩
theorem wH {S:Nat->Prop} {g:Nat->Nat} {w:World} {vs:List Value} {ts:List TV} {b:BL} {N:Nat} (hS:Eo S g w b) (hv:nc (Own S g (sB b)) g (sB b) w ts vs) (hsz:ts.length<=N) (hnk:N<=DK):
 M N S (oQ g w b) ⟨sx 0 ts,an b⟩ ⟨vs.toArray++Array.replicate (N-vs.toArray.size) undef,[]⟩ w:=by
 have hl:=nc.length hv;refine⟨g,fun k=>?_,fun j cs hj=>⟨.inr ⟨j,cs,hj,rfl⟩,(hS.bm j cs hj).sameB rfl⟩,hS.inj,bO.refl _ _,?_,by simp;omega,fun q hq=>?_,fun w' hw'=>hS.tab w' hw',hS.gl,fun j q cs h1 h2 _=>?_,hnk⟩
 ·have:=nc.at hv 0 k
  simp only[Nat.not_lt_zero,if_false,Nat.sub_zero]at this
  have e2:(vs.toArray++Array.replicate (N-vs.toArray.size) undef).getD k undef=vs.getD k undef:=by
   simp only[Array.getD_eq_getD_getElem?,Array.getElem?_append,List.getD_eq_getElem?_getD]
   by_cases h1:k<vs.length
   ·simp[h1]
   ·simp[h1]
    cases h2:(Array.replicate (N-vs.length) undef)[k-vs.length]? with
    |none=>rfl
    |some v=>rw[Array.getElem?_replicate]at h2;split at h2<;>simp_all
  dsimp only;rw[e2];exact this.sameB rfl
 ·have e0:(AS.mk (sx 0 ts) (an b)).tv DK= .junk:=by simp only[AS.tv,DN (k:=0) (ts:=ts) (i:=DK) (by omega)]
  rw[e0];rfl
 ·obtain⟨h1,h2,h3⟩:=hS.blk q hq
  exact⟨h1,h2,h3⟩
 ·simp only[oQ,h1,if_true,Option.some.injEq]at h2
  exact h2
structure gC (P:Program) (f:FuncId) (ts:List TV) (b:BL) (r:RT) (b':BL):Prop where
 enter:∀args w,(callFunc f args).run P w= .ok (.enter f args) w
 body:∃fn c,P.funcs[f]? =some fn/\fn.body=some c/\ ∀(S:Nat->Prop) (g:Nat->Nat) (w:World) (vs:List Value),Eo S g w b->nc (Own S g (sB b)) g (sB b) w ts vs->c.wp P (bodyPost P fn (uQ S g b r b' w)) { tmps:=vs.toArray++Array.replicate (fn.ntmps-vs.toArray.size) undef,defers:=[] } w
theorem gC.toT {f:FuncId} {ts:List TV} {b:BL} {r:RT} {b':BL} (h:gC P f ts b r b'):ap P f ts b r b':=by
 obtain⟨fn,c,hf,hb,hw⟩:=h.body;exact⟨h.enter,fun S g w vs hS hv=>calls_of_wp hf hb (hw S g w vs hS hv)⟩
theorem qy (hT:∀t d,T t=some d->aO P t d) (hmix:P.follows .mixedOrders=true) {f:FuncId} {fn:Func} {c:Code} {ts:List TV} {b:BL} {r:RT} {b':BL} (hf:P.funcs[f]? =some fn) (hb:fn.body=some c) (hn:(fn.name == "runtime.NumGoroutine")=false) (hsz:(Nat.ble ts.length fn.ntmps && Nat.ble fn.ntmps DK)=true)
 (hrv:rj b' b=true) (hkn:wF r b'=true) (hlen:cH b b')
 (h:ft P T fn.ntmps c (fun e s=>match e with| .exit _=>False|_=>JI T s fn.results.toList r b') ⟨sx 0 ts,an b⟩):gC P f ts b r b':=by
 unfold wF at hkn;rw[Bool.and_eq_true]at hkn hsz;obtain⟨hwfc,hkn⟩:=hkn;obtain⟨hsz,hnk⟩:=hsz;have hsz:=Nat.le_of_ble_eq_true hsz;have hnk:=Nat.le_of_ble_eq_true hnk;refine⟨fun args w=>?_,fn,c,hf,hb,fun S g w vs hS hv=>?_⟩
 ·exact MB
 ·refine wp_mono (nr (S0:=S) (w0:=oQ g w b) hT hmix c _ _ _ w h (wH hS hv hsz hnk)) fun e a w1 hq=>?_
  have fin:∀s,JI T s fn.results.toList r b'->M fn.ntmps S (oQ g w b) s a w1->a.defers=[]/\ ∃v,(results fn a.tmps).run P w1= .ok v w1/\uQ S g b r b' w (.returned v) w1:=by
   rintro s ⟨hres,hwk⟩ ⟨g1,hm⟩;have hbx:∀j cs,(sB b').bx j=some cs->s.bx j=some cs:=fun j cs hj=>hwk.at (bE.1 hj)
   have hOs:∀q,q<w1.heap.size->Own S g1 (sB b') q->Own S g1 s q:=by
    rintro q _ (h0| ⟨j,cs,hj,e⟩)
    ·exact .inl h0
    ·exact .inr ⟨j,cs,hbx j cs hj,e⟩
   have rest:∀v,TV.M (Own S g1 (sB b')) g1 (sB b') w1 r.tv v->uQ S g b r b' w (.returned v) w1:=fun v hv=>zE hrv hwfc hlen hwk hm hv
   cases r with
   |v r=>
    obtain⟨l,h1,rfl⟩:=hres;refine⟨(yN.no (il h1)).1 hm.df,?_⟩;obtain⟨vs',hr,hl',hv'⟩:=gI hT hm fn.results.toList l h1;refine⟨if h:vs'.toArray.size=1 then vs'.toArray[0]else .tuple vs'.toArray,?_,rest _ ?_⟩
    ·unfold results
     rw[Sem.run_bind,Array.mapM_eq_mapM_toList,Sem.run_map]
     erw[hr]
     simp only[Result.andThen_ok]
     rfl
    ·have hv2:∀(i:Nat) (x:DV) (u:Value),l[i]? =some x->vs'[i]? =some u->DV.M (Own S g1 (sB b')) w1 x u:=fun i x u h1 h2=>(hv' i x u h1 h2).agree (bG.refl _ _) hOs
     cases l with
     |nil=>
      rw[dif_neg (by simp at hl' ⊢;omega)];exact⟨vs',rfl,hl',hv2⟩
     |cons d l=>
      cases l with
      |nil=>
       have:vs'.toArray.size=1:=by simpa using hl'.symm
       rw[dif_pos this];exact hv2 0 d _ rfl (by simp)
      |cons d' l=>
       rw[dif_neg (by simp at hl' ⊢;omega)];exact⟨vs',rfl,hl',hv2⟩
   |own j m k e=>
    obtain⟨t,h1,h2,h3⟩:=hres;refine⟨(yN.no h3).1 hm.df,a.tmps.getD t undef,?_,rest _ ?_⟩
    ·unfold results
     rw[Sem.run_bind,Array.mapM_eq_mapM_toList,Sem.run_map,h1];rfl
    ·have hm2:=hm.tm t
     rw[h2]at hm2;refine⟨?_,fun cs hc=>hm2.2 cs (hbx j cs hc)⟩;dsimp only at hkn
     split at hkn
     ·rename_i x hx;exact⟨x,hx⟩
     ·cases hkn
  exact wg
theorem aG (hT:∀t d,T t=some d->aO P t d) (hmix:P.follows .mixedOrders=true) {f:FuncId} {fn:Func} {c:Code} {ts:List TV} {b:BL} {r:RT} {b':BL} (hf:P.funcs[f]? =some fn) (hb:fn.body=some c) (hn:(fn.name == "runtime.NumGoroutine")=false) (hsz:(Nat.ble ts.length fn.ntmps && Nat.ble fn.ntmps DK)=true)
 (hrv:rj b' b=true) (hkn:wF r b'=true) (hlen:cH b b')
 (h:ft P T fn.ntmps c (fun e s=>match e with| .exit _=>False|_=>JI T s fn.results.toList r b') ⟨sx 0 ts,an b⟩):ap P f ts b r b':=(qy hT hmix hf hb hn hsz hrv hkn hlen h).toT
def QY:CV->TV
 | .val v=> .d (.leaf (.val v))
 | .box j o=> .box j o
def Py:TV->TV
 | .nil=> .d (.leaf (.sl 0 []))
 |x=>x
def vy (s:AS) (f:Operand) (args:List Operand):Option (FuncId × List TV):=
 match s.ev f with
 | .d (.leaf (.val (.func (.func fid) ⟨[]⟩ ⟨[]⟩)))=>some (fid,args.map fun x=>Py (s.ev x))
 | .clo (.func fid) fs cs=>some (fid,fs.map QY++(args.map fun x=>Py (s.ev x))++cs.map QY)
 |_=>none
def qp:List CV->Bool
 | []=>true
 | .val v::r=>v.oneCell' && qp r
 | .box _ _::r=>qp r
def sd (s:AS) (f:Operand):Bool:=match s.ev f with
 | .clo _ fs cs=>qp fs && qp cs
 |_=>true
theorem Qn {S:Nat->Prop} {g:Nat->Nat} {s:AS} {w:World} {x:TV} {v:Value} (h:TV.M S g s w x v):TV.M S g s w (Py x) v:=by
 cases x<;>first|exact h|skip
 have:v= .slice none 0 0:=h;rw[this];exact AV.M.emp (Nat.le_refl _) (by omega) (fun _=>rfl)
theorem lE {S:Nat->Prop} {g:Nat->Nat} {s:AS} {w:World}:∀{xs ys:List TV} {us vs:List Value},nc S g s w xs us->nc S g s w ys vs->nc S g s w (xs++ys) (us++vs)
 | [],_,[],_,_,k=>k
 |_::_,_,_::_,_,h,k=>⟨h.1,lE h.2 k⟩
 | [],_,_::_,_,h,_=>h.elim
 |_::_,_,[],_,h,_=>h.elim
theorem BV {g:Nat->Nat} {s:AS} {a:Act} {w:World} (hM:MG n S0 w0 g s a w):∀(l:List Operand),nc (Own S0 g s) g s w (l.map fun x=>Py (s.ev x)) (l.map a.eval)
 | []=>trivial
 |x::l=>⟨Qn (hM.ev x),BV hM l⟩
theorem qG {S:Nat->Prop} {g:Nat->Nat} {s:AS} {w:World}:∀{xs:List CV} {vs:List Value},qp xs=true->oU g s xs vs->nc S g s w (xs.map QY) vs
 | [],[],_,_=>trivial
 | .val u::xs,v::vs,h1,h=>by
  simp only[qp,Bool.and_eq_true]at h1
  have e:v=u:=h.1;subst e;exact⟨AV.M.val h1.1,qG h1.2 h.2⟩
 | .box j o::xs,v::vs,h1,h=>⟨h.1,qG h1 h.2⟩
 | [],_::_,_,h=>h.elim
 |_::_,[],_,h=>h.elim
theorem pu {S:Nat->Prop} {g:Nat->Nat} {s s':AS} {w:World} (hb:∀j cs,s'.bx j=some cs->s.bx j=some cs):∀{xs:List TV} {vs:List Value},(∀j∈xs.flatMap dj,s'.kn j)->nc S g s w xs vs->nc S g s' w xs vs
 | [],[],_,_=>trivial
 |x::xs,v::vs,hk,h=>⟨h.1.sub (fun j hj=>hk j (List.mem_flatMap.2 ⟨x,by simp,hj⟩)) hb,pu hb (fun j hj=>hk j (by rw[List.flatMap_cons];exact List.mem_append_right _ hj)) h.2⟩
 | [],_::_,_,h=>h.elim
 |_::_,[],_,h=>h.elim
def lR (s:AS) (b:BL):BL->Bool
 | []=>true
 |(j,_)::r=>(match af (an b) j with|some _=>true|none=>fo s j) && lR s b r
theorem pH {s:AS} {b:BL}:∀{b':BL} {j:Nat} {cs:List AV},lR s b b'=true->af (an b') j=some (some cs)->af (an b) j=none->af s.b j=none/\gP j=false
 | [],_,_,_,h,_=>by cases h
 |(i,c)::r,j,cs,hr,h,hn=>by
  simp only[lR,Bool.and_eq_true]at hr
  by_cases e:i=j
  ·subst e
   have:=hr.1;rw[hn]at this;exact bd this
  ·simp only[an,aj _ _ e]at h;exact pH hr.2 h hn
theorem Ae {b:BL} {l:List Nat} (h:CQ (an b) l=true):∀j∈l,(sB b).kn j:=fun j hj=>uj h j hj
theorem y3 {s:AS} {l:List Nat} (h:db l s.b=true):∀j cs,s.bx j=some cs->j ∉ l->bC j=false:=fun j cs hj hjn=>by
 unfold AS.bx at hj
 split at hj
 ·rename_i x hx;cases hj;exact j6 h j _ hjn hx
 ·cases hj
theorem oD {o:Oper} {f:Operand} {fid:FuncId} {args:Array Operand} {tys:Array TypeId} {ts:List TV} {b:BL} {r:RT} {b':BL} {s:AS} (hc:ap P fid ts b r b') (ho:o.op= .call ⟨.value f,args,tys⟩) (hcl:vy s f args.toList=some (fid,ts)) (h1:sd s f=true)
 (hk:(CQ (an b) (ts.flatMap dj) && rZ (an b) (an b))=true) (hb:pp s (an b)) (hcn:∀j cs,s.bx j=some cs->j ∉ b.map (·.1)->bC j=false) (hnew:lR s b b'=true):
 bh P o s ⟨r.tv,some (an b'++b9 b' b)⟩:=by
 intro n S0 w0 g a w K Q hM hdn hK;rw[Bool.and_eq_true]at hk;obtain⟨hk,hwfc⟩:=hk;obtain⟨S,hpre,hO,hpost⟩:=hM.callT (b:=b) (b':=b') hb hwfc hcn (fun j cs hj hn=>pH hnew (bE.1 hj) hn);have inb:∀j cs,(sB b).bx j=some cs->s.bx j=some cs:=fun j cs hj=>hb.at (bE.1 hj)
 obtain⟨vs,hvs,hrun⟩:∃vs,nc (Own S0 g s) g s w ts vs/\(execOp a.eval o).run P w= .ok (.enter fid vs.toArray) w:=by
  have hargs:=BV hM args.toList;have hf:=hM.ev f;unfold vy at hcl
  split at hcl
  ·rename_i fid' hfe
   simp only[Option.some.injEq,Prod.mk.injEq]at hcl
   obtain⟨rfl,rfl⟩:=hcl;refine⟨_,hargs,?_⟩;unfold execOp;rw[ho];rw[hfe]at hf
   simp only[resolve,aT (show AV.M _ _ _ _ from hf),Deferred.ofValue,Sem.run_bind,Sem.run_pure,Result.andThen_ok,invoke]
   exact Mf
  ·rename_i fid' fs cs hfe
   simp only[Option.some.injEq,Prod.mk.injEq]at hcl
   obtain⟨rfl,rfl⟩:=hcl;rw[hfe]at hf;obtain⟨us,vs,e,h2,h3⟩:=hf;unfold sd at h1;rw[hfe]at h1
   simp only[Bool.and_eq_true]at h1
   refine⟨us++List.map a.eval args.toList++vs,lE (lE (qG h1.1 h2) hargs) (qG h1.2 h3),?_⟩;unfold execOp;rw[ho]
   simp only[resolve,e,Deferred.ofValue,Sem.run_bind,Sem.run_pure,Result.andThen_ok,invoke]
   have e2:(us++List.map a.eval args.toList++vs).toArray=us.toArray++args.map a.eval++vs.toArray:=Array.ext' (by simp);have:=hc.enter (us.toArray++args.map a.eval++vs.toArray) w;rw[e2]
   simpa using this
  ·cases hcl
 have hcall:=hc.calls S g w vs hpre (by rw[hO];exact pu inb (Ae hk) hvs);unfold Oper.wp;rw[hrun];show Calls P fid _ w _;refine hcall.mono ?_;rintro en w1 ⟨v,g',rfl,h2,h3,h4,h5,h6⟩;show K (a.put o.dst v) w1;obtain⟨g2,hm⟩:=hpost r v g' w1 h2 h3 h4 h5 h6 o.dst hdn;refine hK g2 _ _ ?_;cases ho2:o.dst<;>(rw[ho2]at hm;exact hm)
variable {ops:Array Oper} {id:Nat} {draw:Bool} {K:AS->Prop} {s:AS} {k:Nat} {o:Oper} {os:List Oper} {fps:List FP}
theorem ri {s s':AS} {f:Operand} {args:List Operand} (hf:s'.ev f=s.ev f) (ha:∀x∈args,s'.ev x=s.ev x):vy s' f args=vy s f args:=by
 have e:(args.map fun x=>Py (s'.ev x))=args.map fun x=>Py (s.ev x):=List.map_congr_left fun x hx=>by rw[ha x hx]
 unfold vy;rw[hf,e]
theorem kb {s s':AS}:∀{b:BL},(∀j∈b.map (·.1),af s'.b j=af s.b j)->pp s (an b)->pp s' (an b)
 | [],_,_=>trivial
 |(j,cs)::r,hl,h=>⟨by rw[aV (hl j (by simp))];exact h.1,kb (b:=r) (fun i hi=>hl i (by simp at hi ⊢;exact .inr hi)) h.2⟩
theorem iJ {s s':AS} {b:BL}:∀{b':BL},(∀j∈b'.map (·.1),af s'.b j=af s.b j)->lR s' b b'=lR s b b'
 | [],_=>rfl
 |(j,cs)::r,hl=>by
  rw[lR,lR,iJ (b':=r) (fun i hi=>hl i (by simp at hi ⊢;exact .inr hi)),ep (hl j (by simp))]
theorem bZ {f:Operand} {fid:FuncId} {args:Array Operand} {tys:Array TypeId} {ts:List TV} {b:BL} {r:RT} {b':BL} (hc:ap P fid ts b r b') (h1:gd ops s o=some true) (ho:o.op= .call ⟨.value f,args,tys⟩) (hcl:vy s f args.toList=some (fid,ts)) (hone:sd s f=true)
 (hk:(CQ (an b) (ts.flatMap dj) && rZ (an b) (an b))=true) (hb:pp s (an b)) (hcn:db [] s.b=true) (hnew:lR s b b'=true) (h3:aB n o.dst=true) (h4:eZ draw ops (au ops o ⟨r.tv,some (an b'++b9 b' b)⟩ (b.map (·.1)++b'.map (·.1))) k fps=true)
 (h:ak P T n ops id draw K (k+1) os (s.eff o.dst ⟨r.tv,some (an b'++b9 b' b)⟩) (au ops o ⟨r.tv,some (an b'++b9 b' b)⟩ (b.map (·.1)++b'.map (·.1))::fps)):ak P T n ops id draw K k (o::os) s fps:=by
 refine .run h1 (.genC (iG hcn) fun s2 hc2 ht hrb=>?_) h3 h4 h;have hf:s2.ev f=s.ev f:=aq ht (by rw[ho];simp[Op.operands,Call.operands]);have hcl2:=ri (s':=s2) (s:=s) (f:=f) (args:=args.toList) hf (fun x hx=>aq ht (by rw[ho];simp[Op.operands,Call.operands];exact .inr (by simpa using hx)));have hone2:sd s2 f=true:=by unfold sd at hone ⊢;rw[hf];exact hone
 exact oD hc ho (hcl2.trans hcl) hone2 hk (kb (fun j hj=>hrb j (List.mem_append_left _ hj)) hb) (fun j cs hj _=>hc2 j cs hj) ((iJ fun j hj=>hrb j (List.mem_append_right _ hj)).trans hnew)
end
section
variable {P:Program} {T:TypeId->Option Ty} {n:Nat} {ops:Array Oper} {id:Nat} {draw:Bool} {K:AS->Prop} {s:AS} {k:Nat} {o:Oper} {os:List Oper} {fps:List FP}
theorem kD {f:Operand} {fid:FuncId} {args:Array Operand} {tys:Array TypeId} {ts:List TV} {b:BL} {r:RT} {b':BL} (hc:ap P fid ts b r b') (h:ak P T n ops id draw K (k+1) os (s.eff o.dst ⟨r.tv,some (an b'++b9 b' b)⟩) (au ops o ⟨r.tv,some (an b'++b9 b' b)⟩ (b.map (·.1)++b'.map (·.1))::fps)) (h1:gd ops s o=some true:=by rfl) (ho:o.op= .call ⟨.value f,args,tys⟩:=by rfl) (hcl:vy s f args.toList=some (fid,ts):=by rfl) (hone:sd s f=true:=by rfl)
    (hk:(CQ (an b) (ts.flatMap dj) && rZ (an b) (an b))=true:=by rfl) (hb:pp s (an b):=by first|exact⟨rfl,trivial⟩|exact⟨rfl,rfl,trivial⟩|exact trivial) (hcn:db [] s.b=true:=by rfl) (hnew:lR s b b'=true:=by rfl) (h3:aB n o.dst=true:=by rfl) (h4:eZ draw ops (au ops o ⟨r.tv,some (an b'++b9 b' b)⟩ (b.map (·.1)++b'.map (·.1))) k fps=true:=by rfl):ak P T n ops id draw K k (o::os) s fps:=bZ hc h1 ho hcl hone hk hb hcn hnew h3 h4 h
theorem kZ {q:Prop} {f:Operand} {fid:FuncId} {args:Array Operand} {tys:Array TypeId} {ts:List TV} {b:BL} {r:RT} {b':BL} (hc:ap P fid ts b r b') (h:q) (h1:gd ops s o=some true:=by rfl) (ho:o.op= .call ⟨.value f,args,tys⟩:=by rfl) (hcl:vy s f args.toList=some (fid,ts):=by rfl) (hone:sd s f=true:=by rfl)
    (hk:(CQ (an b) (ts.flatMap dj) && rZ (an b) (an b))=true:=by rfl) (hb:pp s (an b):=by first|exact⟨rfl,trivial⟩|exact⟨rfl,rfl,trivial⟩|exact trivial) (hcn:db [] s.b=true:=by rfl) (hnew:lR s b b'=true:=by rfl) (h3:aB n o.dst=true:=by rfl) (h4:eZ draw ops (au ops o ⟨r.tv,some (an b'++b9 b' b)⟩ (b.map (·.1)++b'.map (·.1))) k fps=true:=by rfl) (e:q->ak P T n ops id draw K (k+1) os (s.eff o.dst ⟨r.tv,some (an b'++b9 b' b)⟩) (au ops o ⟨r.tv,some (an b'++b9 b' b)⟩ (b.map (·.1)++b'.map (·.1))::fps):=by intro h;(repeat(first|refine gh rfl rfl rfl rfl ?_|refine b7 rfl rfl rfl ?_|refine .done ?_|refine bl (T:=TT) ?_|refine aU (T:=TT) rfl ?_|refine bJ (T:=TT) ?_|refine dY (T:=TT) rfl ?_|refine dD (T:=TT) rfl ?_));exact h):ak P T n ops id draw K k (o::os) s fps:=bZ hc h1 ho hcl hone hk hb hcn hnew h3 h4 (e h)
end
section
variable {P:Program} {T:TypeId->Option Ty} {n:Nat}
theorem ak.mono {ops:Array Oper} {id:Nat} {draw:Bool} {K K':AS->Prop} (hK:∀s,K s->K' s) {k:Nat} {os:List Oper} {s:AS} {fps:List FP} (h:ak P T n ops id draw K k os s fps):ak P T n ops id draw K' k os s fps:=by
 induction h with
 |done h=>exact .done (hK _ h)
 |run h1 h2 h3 h4 _ ih=>exact .run h1 h2 h3 h4 ih
 |skip h1 h2 h3 _ ih=>exact .skip h1 h2 h3 ih
 |app h0 h1 h2 h3 h4 h5 h6 h7 h8 h9 h10 h11 h12 h13 h14 h15 _ ih=>exact .app h0 h1 h2 h3 h4 h5 h6 h7 h8 h9 h10 h11 h12 h13 h14 h15 ih
 |snd h0 h1 h2 _ ih=>exact .snd h0 h1 h2 ih
 |snd3 h0 h1 h2 _ ih=>exact .snd3 h0 h1 h2 ih
 |alt Φ h0 h1 h2 _ ih=>exact .alt Φ h0 h1 h2 ih
theorem Fm:∀(c:Code) {Q Q':AX->AS->Prop} {s:AS},(∀e s,Q e s->Q' e s)->ft P T n c Q s->ft P T n c Q' s:=by
 intro c
 induction c with
 |skip=>intro Q Q' s hQ h;exact hQ _ _ h
 |label l=>intro Q Q' s hQ h;exact hQ _ _ h
 |region id ops draw=>intro Q Q' s hQ ⟨Φ,hw,h⟩;exact⟨Φ,hw,fun s1 h1=>⟨(h s1 h1).1,(h s1 h1).2.mono (fun s h=>hQ _ s h)⟩⟩
 |seq x y ihx ihy=>
  intro Q Q' s hQ h;refine ihx (fun e s h=>?_) h;cases e with
  |normal=>exact ihy hQ h
  |exit i=>exact hQ _ _ h
  |ret=>exact hQ _ _ h
 |cond c x y ihx ihy=>intro Q Q' s hQ ⟨t,hc,h1,h2⟩;exact⟨t,hc,fun ht=>ihx hQ (h1 ht),fun ht=>ihy hQ (h2 ht)⟩
 |block id x ih=>
  intro Q Q' s hQ h;refine ih (fun e s h=>?_) h;cases e with
  |normal=>exact hQ _ _ h
  |exit i=>
   unfold ur at h ⊢;cases hb:Nat.beq i id
   ·simp only[hb]at h ⊢;exact hQ _ _ h
   ·simp only[hb]at h ⊢;exact hQ _ _ h
  |ret=>exact hQ _ _ h
 |loop x ih=>
  intro Q Q' s hQ ⟨α,I,σ,μ,h0,hr⟩;refine⟨α,I,σ,μ,h0,fun y hy=>ih (fun e s h=>?_) (hr y hy)⟩;cases e with
  |normal=>exact h
  |exit i=>exact hQ _ _ h
  |ret=>exact hQ _ _ h
 |scope x ih=>intro Q Q' s hQ h;exact ih hQ h
 |exit id=>intro Q Q' s hQ h;exact hQ _ _ h
 |ret=>intro Q Q' s hQ h;exact hQ _ _ h
 |goto l=>intro Q Q' s _ h;exact h
 |rangeFunc=>intro Q Q' s _ h;exact h
 |refuse=>intro Q Q' s _ h;exact h
def UL (P:Program) (T:TypeId->Option Ty) (n:Nat) (x:Code) (Q:AX->AS->Prop):Nat->AS->Prop
 |0,_=>False
 |k+1,s=>∃s1,aL s s1/\ft P T n x (y9 (UL P T n x Q k) Q) s1
theorem rD {x:Code} {Q:AX->AS->Prop} {s:AS} (k:Nat) (h:UL P T n x Q k s):ft P T n (.loop x) Q s:=by
 cases k with
 |zero=>exact h.elim
 |succ k=>
  obtain⟨s1,hw,h⟩:=h;refine⟨Nat × AS,fun y=>ft P T n x (y9 (UL P T n x Q y.1) Q) y.2,fun y=>y.2,fun y=>y.1,⟨(k,s1),h,hw⟩,fun y hy=>?_⟩;refine Fm x (fun e s h=>?_) hy;cases e with
  |normal=>
   have h:UL P T n x Q y.1 s:=h;cases hk:y.1 with
   |zero=>rw[hk]at h;exact h.elim
   |succ j=>
    rw[hk]at h;obtain⟨s2,hw2,h2⟩:=h;exact⟨(j,s2),h2,by dsimp only;omega,hw2⟩
  |exit i=>exact h
  |ret=>exact h
theorem bI {x:Code} {Q:AX->AS->Prop} {s:AS} {k:Nat} (s1:AS) (hw:aL s s1) (h:ft P T n x (y9 (UL P T n x Q k) Q) s1):UL P T n x Q (k+1) s:=⟨s1,hw,h⟩
variable {ops:Array Oper} {id:Nat} {draw:Bool} {K:AS->Prop} {s:AS} {k:Nat} {o:Oper} {os:List Oper} {fps:List FP}
theorem eU (j':Nat) {d:Nat} {x y:Operand} {t et q m1 m2:Nat} {ty te:Ty} {dead:Option Nat} {cs xs:List AV} (hT:∀t d,T t=some d->aO P t d) (hm:0<m2) (hb:(m1+m2)*te.bytes<=140737488355328) (hxs:xs.length=m2*q) (h0:draw=false) (h1:gd ops s o=some true) (ho:o.op= .call ⟨.builtin .append,#[x,y],#[t,t]⟩) (hd:o.dst=some d) (h3:aB n o.dst=true) (ht:T t=some ty) (hel:ty.elem=some (et,q)) (hte:T et=some te) (hq:te.size=q) (hq0:(Nat.ble 1 q && Nat.ble 1 te.bytes)=true)
 (hbase:eM s x m1 q et dead cs) (hy:s.ev y= .d (.leaf (.sl m2 xs))) (hnew:fo s j'=true) (hcl:(bt te.zero && bt xs && iK dead)=true)
 (h:ak P T n ops id draw K (k+1) os ⟨(d, .own j' (m1+m2) q et)::s.t,(j',some (cs.take (m1*q)++xs))::eY dead s.b⟩ (au ops o ⟨.junk,none⟩ []::fps)):ak P T n ops id draw K k (o::os) s fps:=by
 refine .snd h0 h1 (fun S0 w0 g a w K' Q hM hK=>?_) h;rw[Bool.and_eq_true]at hq0
 have h63:m1+m2<=9223372036854775807:=by
  exact B7
 exact eI (hT _ _ ht) (hT _ _ hte) ho hd hel hq (Nat.le_of_ble_eq_true hq0.1) hbase hy hxs hm hb h63 (bd hnew) (ks hnew) (.inr hcl) hM (dl h3 d hd) hK
def qU:Option Nat->List Nat
 |some j=>[j]
 |none=>[]
theorem AH (j':Nat) {d:Nat} {x y:Operand} {t et q m1 m2:Nat} {ty te:Ty} {dead:Option Nat} {cs xs:List AV} (hT:∀t d,T t=some d->aO P t d) (hm:0<m2) (hb:(m1+m2)*te.bytes<=140737488355328) (hxs:xs.length=m2*q) (h1:gd ops s o=some true) (ho:o.op= .call ⟨.builtin .append,#[x,y],#[t,t]⟩) (hd:o.dst=some d) (h3:aB n o.dst=true) (ht:T t=some ty) (hel:ty.elem=some (et,q)) (hte:T et=some te) (hq:te.size=q) (hq0:(Nat.ble 1 q && Nat.ble 1 te.bytes)=true)
 (hbase:eM s x m1 q et dead cs) (hy:s.ev y= .d (.leaf (.sl m2 xs))) (hnew:fo s j'=true) (hcl:(bt te.zero && bt xs && iK dead)=true)
 (h4:eZ draw ops (au ops o ⟨.own j' (m1+m2) q et,some ((j',some (cs.take (m1*q)++xs))::eY dead [])⟩ (j'::qU dead)) k fps=true)
 (h:ak P T n ops id draw K (k+1) os (s.eff o.dst ⟨.own j' (m1+m2) q et,some ((j',some (cs.take (m1*q)++xs))::eY dead [])⟩) (au ops o ⟨.own j' (m1+m2) q et,some ((j',some (cs.take (m1*q)++xs))::eY dead [])⟩ (j'::qU dead)::fps)):ak P T n ops id draw K k (o::os) s fps:=by
 rw[Bool.and_eq_true]at hq0
 have h63:m1+m2<=9223372036854775807:=by
  exact B7
 refine .run h1 (.gen fun s2 ht2 hrb=>?_) h3 h4 h;have hx2:s2.ev x=s.ev x:=aq ht2 (by rw[ho];simp[Op.operands,Call.operands]);have hy2:s2.ev y=s.ev y:=aq ht2 (by rw[ho];simp[Op.operands,Call.operands])
 have hbase2:eM s2 x m1 q et dead cs:=by
  exact Mh
 have hnew2:fo s2 j'=true:=(ep (hrb j' (by simp))).trans hnew;intro n S0 w0 g a w K Q hM hdn hK;refine eI (hT _ _ ht) (hT _ _ hte) ho hd hel hq (Nat.le_of_ble_eq_true hq0.1) hbase2 (hy2.trans hy) hxs hm hb h63 (bd hnew2) (ks hnew2) (.inr hcl) hM (hdn d hd) fun g' a' w' hM'=>hK g' a' w' ?_
 rw[hd];cases dead<;>exact hM'
theorem CA (j':Nat) {t:TypeId} {ty:Ty} {d:Nat} (hT:∀t d,T t=some d->aO P t d) (h1:gd ops s o=some true) (ho:o.op= .alloc t) (hd:o.dst=some d) (ht:T t=some ty) (hj:af s.b j'=none) (hrv:gP j'=false) (htb:gF j'=false) (hB:bt ty.zero=true) (h3:aB n o.dst=true)
 (h4:eZ draw ops (au ops o ⟨.box j' 0,some [(j',some ty.zero)]⟩ [j']) k fps=true) (h:ak P T n ops id draw K (k+1) os (s.eff o.dst ⟨.box j' 0,some [(j',some ty.zero)]⟩) (au ops o ⟨.box j' 0,some [(j',some ty.zero)]⟩ [j']::fps)):ak P T n ops id draw K k (o::os) s fps:=
 .run h1 (.gen fun _ _ hrb=>oH (hT _ _ ht) ho hd ⟨(hrb j' (by simp)).trans hj,hrv⟩ hB (fun h=>by rw[htb]at h;cases h)) h3 h4 h
end
section
variable {P:Program} {T:TypeId->Option Ty} {n:Nat} {ops:Array Oper} {id:Nat} {draw:Bool} {K:AS->Prop} {s:AS} {k:Nat} {o:Oper} {os:List Oper} {fps:List FP}
theorem Q2 (hT:∀t d,T t=some d->aO P t d) {t:TypeId} {ty:Ty} {x y z:Operand} {l:List UInt8} {i j:Nat} {ik ik':IntKind} (hi:i<=j) (hj:j<=l.length) (h1:gd ops s o=some true) (h2:o.op= .slice t x (some y) (some z) none) (h5:T t=some ty) (h6:ty.isStr=true) (h7:s.ev x= .d (.leaf (.val (vL l)))) (h8:s.ev y= .d (.leaf (.val (.int ik (i:Nat))))) (h9:s.ev z= .d (.leaf (.val (.int ik' (j:Nat)))))
 (h3:aB n o.dst=true) (h4:eZ draw ops (au ops o ⟨.d (dL ((l.take j).drop i)),none⟩ []) k fps=true) (h:ak P T n ops id draw K (k+1) os (s.eff o.dst ⟨.d (dL ((l.take j).drop i)),none⟩) (au ops o ⟨.d (dL ((l.take j).drop i)),none⟩ []::fps)):ak P T n ops id draw K k (o::os) s fps:=by
 refine .run h1 (.gen fun s2 ht _=>?_) h3 h4 h;have hx:=(aq ht (x:=x) (by simp[h2,Op.operands])).trans h7;have hy:=(aq ht (x:=y) (by simp[h2,Op.operands])).trans h8;have hz:=(aq ht (x:=z) (by simp[h2,Op.operands])).trans h9;have hu:=qh (hT _ _ h5) h6;refine ah fun n S0 w0 g a w hM=>⟨vL ((l.take j).drop i),w,?_,Below.refl _ _,AV.M.val rfl⟩
 unfold execOp;rw[h2]
 have e1:(Instr.sliceAt t (.string (Bs l)) (some (.int ik i)) (some (.int ik' j)) none).run P w= .ok (vL ((l.take j).drop i)) w:=by
  refine Nt ?_;rw[run_slice_string w t (Bs l) ik ik' i j hu (by omega) (by omega) (by rw[aw];omega)]
  simp only[Int.toNat_natCast]
  rw[lQ];rfl
 simp only[aY hM hx,aY hM hy,aY hM hz,vL,Option.map_some,Option.map_none,Sem.run_bind,e1,Result.andThen_ok]
 rfl
theorem Cy {e:pW} {rb:List Nat} {s2:AS} (hT:∀t d,T t=some d->aO P t d) (h0:draw=false) (h1:gd ops s o=some true) (h2:eP T (id*1000+k) s o=some (e,rb)) (h3:aB n o.dst=true) (hw:aL (s.eff o.dst e) s2)
 (h:ak P T n ops id draw K (k+1) os s2 (au ops o ⟨.junk,none⟩ []::fps)):ak P T n ops id draw K k (o::os) s fps:=
 .snd h0 h1 (fun S0 w0 g a w K' Q hM hK=>lP hT (.op h2) n S0 w0 g a w _ Q hM (dl h3) fun g' a' w' hM'=>by
  obtain⟨g2,hM2⟩:=hw _ _ _ _ _ ⟨g',hM'⟩;exact hK g2 a' w' hM2) h
end
abbrev Tk:=Nat × List UInt8 × Nat
def zo (t:Tk):List AV:=[.val (.int .i64 t.1), .val (vL t.2.1), .val (.int .i64 t.2.2)]
def fU:List Tk->List AV
 | []=>[]
 |t::r=>zo t++fU r
theorem xd (a b:List Tk):fU (a++b)=fU a++fU b:=by
 induction a with
 |nil=>rfl
 |cons t r ih=>simp[fU,ih]
theorem wU (a:List Tk):(fU a).length=a.length*3:=by
 induction a with
 |nil=>rfl
 |cons t r ih=>simp[fU,zo,ih];omega
def sK:Nat->List UInt8->Nat->List Tk->Except (Nat × Int) (List Tk)
 |0,_,_,_=> .error (0,0)
 |_+1,[],at_,acc=> .ok (acc++[(0,[],at_)])
 |f+1,c::r,at_,acc=>if c=32∨c=9 then sK f r (at_+1) acc
  else if(oW (c::r)).2=0 then .error (at_,2)
  else if(oW (c::r)).1=1/\24<(oW (c::r)).2 then .error (at_,3)
  else sK f ((c::r).drop (oW (c::r)).2) (at_+(oW (c::r)).2) (acc++[((oW (c::r)).1,(c::r).take (oW (c::r)).2,at_)])
def CB:Except (Nat × Int) (List Tk)->RV
 | .ok l=> .tup [.leaf (.sl l.length (fU l)),dN .i64 0,dN .i64 0]
 | .error (a,e)=> .tup [.leaf (.sl 0 []),dN .i64 a,dN .i64 e]
theorem Kz (s:List UInt8):C0 s<=s.length:=by
 unfold C0
 split
 ·rename_i h
  have h1:=(List.getElem?_eq_some_iff.1 h.1).1;have h2:=jV fQ (s.drop (dU fQ s+1));rw[List.length_drop]at h2;omega
 ·exact jV _ _
theorem Je:∀(n:Nat) (s:List UInt8) (i:Nat),s.length<=n->gv s i<=i+s.length:=by
 intro n
 induction n using Nat.strongRecOn with
 |_ n ih=>
  intro s i h
  match s,h with
  | [],_=>simp[gv]
  | [c],_=>simp only[gv];split <;>simp
  |c::d::r,h=>
   simp at h
   simp only[gv]
   split
   ·simp
   ·split
    ·omega
    ·split
     ·split
      ·omega
      ·have:=ih (n-2) (by omega) r (i+2) (by omega)
       simp
       omega
     ·have:=ih (n-1) (by omega) (d::r) (i+1) (by simp;omega)
      simp at this ⊢
      omega
theorem Of:∀s:List UInt8,(oW s).2<=s.length
 | []=>Nat.le_refl _
 |c::r=>by
  rw[oW]
  split
  ·exact jV _ _
  ·split
   ·exact Kz _
   ·split
    ·have:=Je r.length r 1 (Nat.le_refl _)
     show gv r 1<=r.length+1;omega
    ·split
     ·simp
     ·split <;>simp
def Sd (J:Nat):List Tk->TV
 | []=> .nil
 |a::r=> .own J (a::r).length 3 118
def Se:List Tk->Option (List AV)
 | []=>none
 |a::r=>some (fU (a::r))
theorem EX (J:Nat) (l:List Tk) (t:Tk):Sd J (l++[t])= .own J (l.length+1) 3 118:=by
 cases l with
 |nil=>rfl
 |cons a r=>simp[Sd]
theorem Gn (l:List Tk) (t:Tk):Se (l++[t])=some (fU l++zo t):=by
 have h:∀m:List Tk,m≠[]->Se m=some (fU m):=fun m hm=>by
  cases m with
  |nil=>exact absurd rfl hm
  |cons a r=>rfl
 rw[h _ (by simp),xd]
 simp[fU]
theorem tB (l:List Tk):(fU l).take (l.length*3)=fU l:=List.take_of_length_le (by rw[wU];exact Nat.le_refl _)
theorem Cj (s:List UInt8) (acc:List Tk) (t:Tk) (m:Nat):(⟨[(0, .d (dL s)),(2, .nil),(3, .d (dN .i64 0)),(4, .d (dN .i64 0)),(5,Sd 13001 (acc++[t])),(6, .d (dN .i64 m))],[(13001,Se (acc++[t]))]⟩:AS)=⟨[(0, .d (dL s)),(2, .nil),(3, .d (dN .i64 0)),(4, .d (dN .i64 0)),(5, .own 13001 (acc.length+1) 3 118),(6, .d (dN .i64 m))],[(13001,some ((fU acc).take (acc.length*3)++zo t))]⟩:=by rw[EX,Gn,tB]
theorem oG (s:List UInt8) (hl:s.length<=65536):aa Tryz.prog 77 [dL s] (CB (sK (s.length+1) s 0 [])):=by
 have hB:=aw s;generalize hR:sK (s.length+1) s 0 []=R;refine kU func77 ?_;refine qE ?_;refine kY ?_
 refine ax (Nat × List Tk) (fun x=>x.1<=s.length/\x.2.length<=x.1/\ ∃f,s.length-x.1<f/\sK f (s.drop x.1) x.1 x.2=R) (fun x=>⟨[(0, .d (dL s)),(2, .nil),(3, .d (dN .i64 0)),(4, .d (dN .i64 0)),(5,Sd 13001 x.2),(6, .d (dN .i64 x.1))],[(13001,Se x.2)]⟩) (fun x=>s.length-x.1) (0,[]) ⟨Nat.zero_le _,Nat.le_refl _,s.length+1,by dsimp only;omega,hR⟩
  kw ?_
 rintro⟨i,acc⟩ ⟨h1,h2,f,hf,h3⟩;dsimp only at h1 h2 hf h3 ⊢;cases f with
 |zero=>exact absurd hf (Nat.not_lt_zero _)
 |succ f=>
 refine kI ?_
 refine kO3 ?_
 by_cases hlt:i<s.length
 ·have hx:s[i]? =some s[i]:=by simp[hlt]
  have hdrop:=List.drop_eq_getElem_cons hlt;generalize hc:s[i]=c at *;refine kT ?_;refine kG ?_
  refine kO2 ?_
  refine AP ?_
  by_cases hsp:c=32∨c=9
  ·rw[hdrop,sK,if_pos hsp]at h3
   by_cases c32:c=32
   ·have e32:c.toNat=32:=by rw[c32];rfl
    exact Q8
   ·have e32:¬c.toNat=32:=lG c32
    have e9:c.toNat=9:=by rw[hsp.resolve_left c32];rfl
    refine kE ?_
    refine kO3 ?_
    refine AP ?_;exact Q8
  ·have e32:¬c.toNat=32:=lG (fun e=>hsp (.inl e))
   have e9:¬c.toNat=9:=lG (fun e=>hsp (.inr e));have hdl:(s.drop i).length=s.length-i:=List.length_drop;have cn:=C2 c (s.drop (i+1)) (by rw[<- hdrop];omega);have hnl:=Of (s.drop i);rw[hdrop,sK,if_neg hsp]at h3;rw[<- hdrop]at h3 cn;generalize hN:oW (s.drop i)=N at *;obtain⟨k,n⟩:=N;dsimp only at h3 cn hnl
   have hk64:k<=5:=by
    have h:=congrArg Prod.fst hN;rw[hdrop,oW]at h;dsimp only at h
    revert h
    repeat' split
    all_goals(intro h;dsimp only at h;omega)
   cases acc with
   |nil=>
    refine kE ?_
    refine kO3 ?_
    refine AP ?_;refine IV ?_
    by_cases hn0:n=0
    ·rw[if_pos hn0]at h3
     refine kT ?_;rw[<- h3];exact ar
    rw[if_neg hn0]at h3;refine MD ?_;have htx:(s.take (i+n)).drop i=(s.drop i).take n:=by rw[List.drop_take];congr 1;omega
    have hcase:(k=1/\24<n)∨(k=1/\ ¬24<n)∨ ¬k=1:=by omega
    rcases hcase with⟨hk,h24⟩| ⟨hk,h24⟩|hk
    ·rw[if_pos ⟨hk,h24⟩]at h3
     refine xc ?_;rw[<- h3];exact ar
    ·rw[if_neg (fun h=>h24 h.2),List.drop_drop]at h3
     refine kT ?_
     refine kO2 ?_
     exact P7
    ·rw[if_neg (fun h=>hk h.1),List.drop_drop]at h3
     exact P7
   |cons a r=>
    refine kE ?_
    refine kO3 ?_
    refine AP ?_;refine IV ?_
    by_cases hn0:n=0
    ·rw[if_pos hn0]at h3
     refine kT ?_;rw[<- h3];exact ar
    rw[if_neg hn0]at h3;refine MD ?_;have htx:(s.take (i+n)).drop i=(s.drop i).take n:=by rw[List.drop_take];congr 1;omega
    have hcase:(k=1/\24<n)∨(k=1/\ ¬24<n)∨ ¬k=1:=by omega
    rcases hcase with⟨hk,h24⟩| ⟨hk,h24⟩|hk
    ·rw[if_pos ⟨hk,h24⟩]at h3
     refine xc ?_;rw[<- h3];exact ar
    ·rw[if_neg (fun h=>h24 h.2),List.drop_drop]at h3
     refine kT ?_
     refine kO2 ?_
     exact Qm
    ·rw[if_neg (fun h=>hk h.1),List.drop_drop]at h3
     exact Qm
 ·refine kE ?_
  obtain rfl:i=s.length:=by omega
  rw[List.drop_eq_nil_of_le (Nat.le_refl _),sK]at h3;refine uU ?_;refine kI ?_
  refine kO2 ?_
  refine ek (v':= .int .i64 ((s.length:Nat))) rfl rfl rfl rfl ?_ ?_
  ·exact congrArg (Value.int .i64) (by rw[hB])
  refine kO2 ?_
  cases acc with
  |nil=>
   refine eU 15002 (m1:=0) (m2:=1) ac (by decide) (by decide) rfl rfl rfl rfl rfl rfl rfl rfl rfl rfl rfl (.nil rfl rfl) rfl rfl rfl ?_;refine Cy ac rfl rfl rfl rfl (bR (q:=2) rfl rfl) ?_;rw[<- h3];exact ar
  |cons a r=>
   refine eU 15002 (m1:=(a::r).length) (m2:=1) ac (by decide) (by show((a::r).length+1)*32<=_;omega) rfl rfl rfl rfl rfl rfl rfl rfl rfl rfl rfl (.own rfl rfl) rfl rfl rfl ?_
   have hV:CB R= .tup [.leaf (.sl ((a::r).length+1) ((fU (a::r)).take ((a::r).length*3)++zo (0,[],s.length))),dN .i64 0,dN .i64 0]:=by
    rw[<- h3,CB,tB,xd,List.length_append];rfl
   refine Cy ac rfl rfl rfl rfl (bR (q:=2) rfl rfl) ?_;rw[hV];exact ar
theorem AF:∀(l:List UInt8) (c:UInt8),0<=Lib.indexByte l c↔c∈l
 | [],c=>by simp[Lib.indexByte]
 |b::l,c=>by
  have ih:=AF l c;have hge:=Lib.indexByte_ge l c
  simp only[Lib.indexByte]
  by_cases h:b=c
  ·subst h
   simp
  ·have hb:(b == c)=false:=by simpa using h
   have h':¬c=b:=fun e=>h e.symm
   rw[hb]
   simp only[Bool.false_eq_true,if_false,List.mem_cons,h',false_or]
   rw[<- ih]
   by_cases h1:Lib.indexByte l c= -1
   ·simp[h1]
   ·have h2:(Lib.indexByte l c == -1)=false:=by simpa using h1
    rw[h2]
    simp only[Bool.false_eq_true,if_false]
    omega
def o0 (s:List UInt8):Bool:=match s with
 | []=>false
 |c::_=>decide (s.length<=24) && (jt c && decide (dU z6 s=s.length))
theorem eD (s:List UInt8) (hl:s.length<=4611686018427387903):aa Tryz.prog 15 [dL s] (.one (dB (o0 s))):=by
 have hB:=aw s;cases hs:s with
 |nil=>
  refine kU func15 ?_;refine S8 ?_;refine x8 ?_;exact ar
 |cons c r=>
  have hn:o0 s=(decide (s.length<=24) && (jt c && decide (dU z6 s=s.length))):=by rw[hs];rfl
  have hne:s≠[]:=by rw[hs];simp
  have h0:s[0]? =some c:=by rw[hs];rfl
  have c1:=gQ c;have c2:=km oO s (by omega);rw[<- hs,hn];generalize dU z6 s=n at *
  by_cases h24:s.length<=24
  ·rw[decide_eq_true h24,Bool.true_and]
   cases hb:jt c
   ·rw[hb]at c1
    refine MI ?_;exact ar
   ·rw[hb]at c1
    by_cases he:n=s.length
    ·rw[decide_eq_true he]
     refine MI ?_
     refine kO3 ?_
     refine kC (c2) ?_
     refine kO2 ?_
     refine kT ?_;exact ar
    ·rw[decide_eq_false he]
     refine MI ?_
     refine kO3 ?_
     refine kC (c2) ?_;exact L5
  ·rw[decide_eq_false h24,Bool.false_and]
   refine kU func15 ?_;refine S8 ?_;refine CO ?_
   refine kO3 ?_
   refine kE ?_;exact ar
section
variable {P:Program} {T:TypeId->Option Ty} {n:Nat} {ops:Array Oper} {id:Nat} {draw:Bool} {K:AS->Prop} {s:AS} {k:Nat} {o:Oper} {os:List Oper} {fps:List FP}
end
def dg (k:Nat):UInt8:=UInt8.ofNat (48+k)
theorem EV {k:Nat} (h:k<10):(dg k).toNat=48+k:=by unfold dg;rw[UInt8.toNat_ofNat'];omega
def nH (n:Nat):List UInt8:=if _h:n=0 then []else nH (n/10)++[dg (n%10)]
termination_by n
decreasing_by omega
theorem eV:nH 0=[]:=by rw[nH];simp
theorem fy {n:Nat} (h:n≠0):nH n=nH (n/10)++[dg (n%10)]:=by rw[nH];simp[h]
def fmt (z:Int):List UInt8:=if z=0 then [48]else(if z<0 then [45]else [])++nH z.natAbs
def dv (c:UInt8):Nat:=c.toNat-48
def fS (c:UInt8):Prop:=48<=c.toNat/\c.toNat<=57
instance (c:UInt8):Decidable (fS c):=inferInstanceAs (Decidable (_/\_))
def num (l:List UInt8):Nat:=l.foldl (fun a c=>10*a+dv c) 0
theorem m9 (l:List UInt8) (c:UInt8):num (l++[c])=10*num l+dv c:=by simp[num]
theorem LC {c:UInt8} (h:fS c):dv c<10:=by unfold dv;unfold fS at h;omega
theorem Fr {n:Nat} (h:n≠0):∃c r,nH n=c::r/\c≠48:=by
 induction n using Nat.strongRecOn with
 |_ n ih=>
  rw[fy h]
  by_cases h1:n/10=0
  ·rw[h1,eV]
   refine⟨dg (n%10),[],rfl,fun e=>?_⟩;have h2:=EV (show n%10<10 by omega);rw[e]at h2;have:(48:UInt8).toNat=48:=rfl;omega
  ·obtain⟨c,r,e,hc⟩:=ih (n/10) (by omega) h1
   exact⟨c,r++[dg (n%10)],by rw[e];rfl,hc⟩
theorem uq:∀(k n:Nat),n<10^k->(nH n).length<=k
 |0,n,h=>by simp at h;subst h;rw[eV];simp
 |k+1,n,h=>by
  by_cases h0:n=0
  ·subst h0;rw[eV];simp
  ·rw[fy h0,List.length_append]
   have:=uq k (n/10) (by rw[Nat.pow_succ]at h;omega)
   simp;omega
def jq (neg:Bool) (ds:List UInt8):Prop:=ds≠[]/\(∀c∈ds,fS c)/\((∀c r,ds=c::r->c≠48)∨(ds.length=1/\neg=false))
def J5 (neg:Bool) (n:Nat):Int:=if neg then -(n:Int)else n
section
variable {P:Program} {T:TypeId->Option Ty} {n:Nat} {ops:Array Oper} {id:Nat} {draw:Bool} {K:AS->Prop} {s:AS} {k:Nat} {o:Oper} {os:List Oper} {fps:List FP}
end
def dO:List UInt8->Bool
 |c::_=>c == 45
 | []=>false
def mO:List UInt8->List UInt8
 |c::r=>if c == 45 then r else c::r
 | []=>[]
theorem pK (s:List UInt8):(mO s).length<=s.length:=by
 cases s with
 |nil=>exact Nat.le_refl _
 |cons c r=>show(if(c == 45)=true then r else c::r).length<=_;split <;>simp
theorem vC:∀(n:Nat) (l:List UInt8),l.length=n->(∀c∈l,fS c)->num l<10^n:=by
 intro n
 induction n with
 |zero=>intro l hl _;rw[List.eq_nil_of_length_eq_zero hl];decide
 |succ n ih=>
  intro l hl hd
  obtain⟨l',c,rfl⟩:∃l' c,l=l'++[c]:=by
   rcases List.eq_nil_or_concat l with h| ⟨l',c,h⟩
   ·subst h;simp at hl
   ·exact⟨l',c,by simpa using h⟩
  have:=ih l' (by simpa using hl) (fun c hc=>hd c (by simp[hc]));have hc:=LC (hd c (by simp));rw[m9,Nat.pow_succ];omega
def PB (s:List UInt8):Prop:=s.length<=65536/\jq (dO s) (mO s)
open Classical in
noncomputable def pz (s:List UInt8):Int × Int:=if PB s then(J5 (dO s) (num (mO s)),0)else(0,2)
theorem Mj {s:List UInt8} (h:PB s):pz s=(J5 (dO s) (num (mO s)),0):=by unfold pz;rw[if_pos h]
theorem vG {s:List UInt8} (h:¬PB s):pz s=(0,2):=by unfold pz;rw[if_neg h]
theorem e0:aZ 0=[.val (.bool false), .sl 0 []]:=by
 unfold aZ aI aW;rw[show(0:Int).natAbs=0 from rfl,ay];rfl
def dk:Nat->Nat->List UInt8
 |0,_=>[]
 |k+1,c=>dk k (c/10)++[dg (c%10)]
def dd (c:Nat):List UInt8:=if c=0 then [48]else nH c
theorem Db (k m c:Nat) (hm:0<m) (hc:c<10^k):nH (m*10^k+c)=nH m++dk k c:=by
 induction k generalizing c with
 |zero=>simp at hc;subst hc;simp[dk]
 |succ k ih=>
  rw[Nat.pow_succ]at hc;have hp:0<10^k:=Nat.pow_pos (by decide)
  have hmp:0<m*10^k:=Nat.mul_pos hm hp
  have e:m*10^(k+1)+c=10*(m*10^k)+c:=by rw[Nat.pow_succ,<- Nat.mul_assoc,Nat.mul_comm]
  rw[e,fy (by omega),show(10*(m*10^k)+c)/10=m*10^k+c/10 by omega,show(10*(m*10^k)+c)%10=c%10 by omega,ih (c/10) (by omega),dk,List.append_assoc]
theorem JU (k:Nat):dk k 0=List.replicate k 48:=by
 induction k with
 |zero=>rfl
 |succ k ih=>rw[dk,Nat.zero_div,ih,List.replicate_succ'];rfl
theorem jO {c:Nat} (h:c<10):dd c=[dg c]:=by
 unfold dd
 by_cases h0:c=0
 ·subst h0;rfl
 ·rw[if_neg h0,fy h0,show c/10=0 by omega,eV,show c%10=c by omega];rfl
theorem zm {c:Nat} (h:10<=c):dd c=dd (c/10)++[dg (c%10)]:=by
 unfold dd;rw[if_neg (by omega),if_neg (by omega),fy (by omega)]
theorem No (k:Nat):∀c,c<10^(k+1)->(dd c).length<=k+1/\dk (k+1) c=List.replicate (k+1-(dd c).length) 48++dd c:=by
 induction k with
 |zero=>
  intro c hc;have:c<10:=by simpa using hc
  rw[jO this,dk,dk,show c%10=c by omega];exact⟨Nat.le_refl _,rfl⟩
 |succ k ih=>
  intro c hc
  by_cases h:c<10
  ·rw[jO h,dk,show c/10=0 by omega,JU,show c%10=c by omega]
   exact⟨by simp,by simp⟩
  ·rw[Nat.pow_succ]at hc
   obtain⟨h1,h2⟩:=ih (c/10) (by omega);rw[zm (by omega),dk,h2,List.length_append,List.length_singleton];refine⟨by omega,?_⟩;rw[show k+1+1-((dd (c/10)).length+1)=k+1-(dd (c/10)).length by omega,List.append_assoc]
theorem eS (u:Nat):Lib.decDigits u=dd u:=by
 induction u using Nat.strongRecOn with
 |_ u ih=>
  by_cases h:u<10
  ·rw[Lib.decDigits,dif_pos h,jO h];rfl
  ·rw[Lib.decDigits,dif_neg h,zm (by omega),ih _ (by omega)];rfl
def sR (c:Nat):List UInt8:=List.replicate (9-(dd c).length) 48++dd c
theorem Ap (m c:Nat) (hm:0<m) (hc:c<1000000000):nH (m*1000000000+c)=nH m++sR c:=by
 have h:=Db 9 m c hm (by simpa using hc);rw[show(10:Nat)^9=1000000000 from rfl]at h;rw[h,(No 8 c (by simpa using hc)).2];rfl
theorem vg {c:Nat} (hc:c<1000000000):1<=(dd c).length/\(dd c).length<=9:=by
 refine⟨?_,(No 8 c (by simpa using hc)).1⟩;unfold dd
 by_cases h0:c=0
 ·rw[if_pos h0];exact Nat.le_refl _
 ·rw[if_neg h0,fy h0];simp
def ch (n:Nat):List Nat:=if _h:n=0 then []else n%1000000000::ch (n/1000000000)
termination_by n
decreasing_by omega
theorem kA:ch 0=[]:=by rw[ch];simp
theorem rF {n:Nat} (h:n≠0):ch n=n%1000000000::ch (n/1000000000):=by rw[ch];simp[h]
def PH:List Nat->List UInt8
 | []=>[]
 |c::r=>dd c++r.flatMap sR
theorem F8 {l:List Nat} (h:l≠[]) (c:Nat):PH (l++[c])=PH l++sR c:=by
 cases l with
 |nil=>exact absurd rfl h
 |cons a r=>simp[PH,List.flatMap_append]
theorem FB:∀(k n:Nat),n<1000000000^k->(ch n).length<=k
 |0,n,h=>by simp at h;subst h;rw[kA];simp
 |k+1,n,h=>by
  by_cases h0:n=0
  ·subst h0;rw[kA];simp
  ·rw[rF h0]
   have:=FB k (n/1000000000) (by rw[Nat.pow_succ]at h;omega)
   simp;omega
theorem Ri (n:Nat):∀c∈ch n,c<1000000000:=by
 induction n using Nat.strongRecOn with
 |_ n ih=>
  by_cases h:n=0
  ·subst h;rw[kA];simp
  ·rw[rF h]
   intro c hc;rcases List.mem_cons.1 hc with rfl|hc
   ·omega
   ·exact ih _ (by omega) c hc
theorem mT {xs:List Nat} (hw:Wd xs):(ch (val xs)).length<=2*xs.length:=by
 refine FB _ _ (Nat.lt_of_lt_of_le (fK hw) ?_);rw[Nat.pow_mul];exact Nat.pow_le_pow_left (by decide) _
theorem Mq {n:Nat} (h:n≠0):ch n≠[]:=by rw[rF h];simp
theorem Pw (n:Nat):PH (ch n).reverse=nH n:=by
 induction n using Nat.strongRecOn with
 |_ n ih=>
  by_cases h:n=0
  ·subst h;rw[kA,eV];rfl
  ·rw[rF h,List.reverse_cons]
   by_cases h1:n/1000000000=0
   ·rw[h1,kA]
    have:n%1000000000=n:=by omega
    rw[this];show dd n++[]=_;rw[List.append_nil];unfold dd;rw[if_neg h]
   ·rw[F8 (by simpa using Mq h1),ih _ (by omega),<- Ap _ _ (by omega) (by omega)]
    congr 1
    omega
end Go.Proofs.YtnchbpoopnjghaaGreatDoor
