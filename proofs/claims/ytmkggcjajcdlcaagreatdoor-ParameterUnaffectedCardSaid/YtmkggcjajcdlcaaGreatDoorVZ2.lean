/- Parts of a proof: contracts of the functions that the laws reach. -/
import Derived.Test.YtmkggcjajcdlcaaGreatDoorVZ1
set_option maxHeartbeats 100000000
set_option linter.all false
open Go.Proofs.Tryz
namespace Go.Proofs.YtmkggcjajcdlcaaGreatDoor
open Go.RowKit
inductive RT where
 |v (r:RV)
 |own (j n k e:Nat)
 |ot (j n k e:Nat) (ds:List DV)
 |nil
def RT.tv:RT->TV
 | .v r=>r.tv
 | .own j n k e=> .own j n k e
 | .ot j n k e ds=> .ot j n k e ds
 | .nil=> .nil
abbrev BL:=List (Nat × List AV)
def aw:BL->List (Nat × Option (List AV))
 | []=>[]
 |(j,cs)::r=>(j,some cs)::aw r
def sB (b:BL):AS:=⟨[],aw b⟩
def vZ:Nat->List TV->List (Nat × TV)
 |_,[]=>[]
 |k,d::r=>(k,d)::vZ (k+1) r
def nP (S:Nat->Prop) (g:Nat->Nat) (s:AS) (w:World):List TV->List Value->Prop
 | [],[]=>True
 |x::xs,v::vs=>TV.M S g s w x v/\nP S g s w xs vs
 |_,_=>False
def BX (g:Nat->Nat) (b:BL) (q:Nat):Prop:=∃j cs,(sB b).bx j=some cs/\g j=q
structure Fi (S:Nat->Prop) (g:Nat->Nat) (w:World) (b:BL):Prop where
 tab:∀w',dj (BX g b) w w'->Hg w'
 blk:∀q,S q->q<w.heap.size/\ ¬BX g b q/\ ∀off v,w.cell? ⟨q,off,none⟩=some v->ge v=true
 gl:∀k cs,ai GT k=some cs->TV.M (Own S g (sB b)) g (sB b) w (.rp cs) (.pointer (some ⟨k,0,none⟩))
 bm:∀j cs,(sB b).bx j=some cs->lV (Own S g (sB b)) g (sB b) w j cs (g j)
 inj:∀i j ci cj,(sB b).bx i=some ci->(sB b).bx j=some cj->g i=g j->i=j
def Au (S:Nat->Prop) (g:Nat->Nat) (b:BL) (r:RT) (b':BL) (w:World) (e:Ending) (w':World):Prop:=
 ∃v g',e= .returned v/\(∀j cs cs',(sB b).bx j=some cs->(sB b').bx j=some cs'->g' j=g j/\cs.length<=cs'.length) /\
  (∀j cs',(sB b').bx j=some cs'->(w.heap.size<=g' j∨BX g b (g' j))/\lV (Own S g' (sB b')) g' (sB b') w' j cs' (g' j)) /\
  (∀i j ci cj,(sB b').bx i=some ci->(sB b').bx j=some cj->g' i=g' j->i=j)/\TV.M (Own S g' (sB b')) g' (sB b') w' r.tv v/\dj (BX g b) w w'
structure bw (P:Program) (f:FuncId) (ts:List TV) (b:BL) (r:RT) (b':BL):Prop where
 enter:∀args w,(callFunc f args).run P w= .ok (.enter f args) w
 calls:∀S g w vs,Fi S g w b->nP (Own S g (sB b)) g (sB b) w ts vs->Calls P f vs.toArray w (Au S g b r b' w)
section
variable {n:Nat} {S0:Nat->Prop} {w0:eP} {g:Nat->Nat} {s:AS} {a:Act} {w w':World}
theorem TP:∀(b:BL) (j:Nat),ai (aw b) j=none∨ ∃cs,ai (aw b) j=some (some cs)
 | [],_=> .inl rfl
 |(i,cs)::r,j=>by
  by_cases e:i=j
  ·subst e;exact .inr ⟨cs,ah _ _ _⟩
  ·simp only[aw,aq _ _ e];exact TP r j
theorem cw {b:BL} {j:Nat} {cs:List AV}:(sB b).bx j=some cs↔ai (aw b) j=some (some cs):=by
 unfold sB AS.bx
 constructor
 ·intro h;split at h
  ·rename_i x hx;cases h;exact hx
  ·cases h
 ·intro h;simp only[h]
theorem T2 {α:Type} (x y:List (Nat × α)) (j:Nat):ai (x++y) j=match ai x j with|some v=>some v|none=>ai y j:=qf x y j
def T9:Option Nat->TV->List (Nat × TV)->List (Nat × TV)
 |some d,x,t=>(d,x)::t
 |none,_,t=>t
def dG (b':BL):BL->List (Nat × Option (List AV))
 | []=>[]
 |(j,_)::r=>match ai (aw b') j with
  |some _=>dG b' r
  |none=>(j,none)::dG b' r
theorem TS {b':BL}:∀{b:BL} {j:Nat} {cs:List AV},ai (aw b) j=some (some cs)->ai (aw b') j=none->ai (dG b' b) j=some none
 | [],_,_,h,_=>by cases h
 |(i,c)::r,j,cs,h,h'=>by
  simp only[dG]
  by_cases e:i=j
  ·subst e
   rw[h'];exact ah _ _ _
  ·simp only[aw,aq _ _ e]at h
   split
   ·exact TS h h'
   ·rw[aq _ _ e];exact TS h h'
theorem TQ {b':BL}:∀{b:BL} {j:Nat},ai (aw b) j=none->ai (dG b' b) j=none
 | [],_,_=>rfl
 |(i,c)::r,j,h=>by
  by_cases e:i=j
  ·subst e;simp only[aw,ah]at h;cases h
  ·simp only[aw,aq _ _ e]at h
   simp only[dG]
   split
   ·exact TQ h
   ·rw[aq _ _ e];exact TQ h
theorem TV.M.sub {S:Nat->Prop} {s s':AS} {x:TV} {v:Value} (h:TV.M S g s w x v) (hk:∀j∈dU x,s'.kn j) (hb:∀j cs,s'.bx j=some cs->s.bx j=some cs):TV.M S g s' w x v:=by
 cases x with
 |d x=>exact h
 |tup ts=>exact h
 |box j o=>exact⟨hk j (by simp[dU]),fun cs hc=>h.2 cs (hb j cs hc)⟩
 |rp cs=>exact h
 |own j n k e0=>exact⟨hk j (by simp[dU]),fun cs hc=>h.2 cs (hb j cs hc)⟩
 |clo fn fs cs=>obtain⟨us,vs,e,h1,h2⟩:=h;exact⟨us,vs,e,h1.weak hb (fun j hj=>hk j (by simp[dU,hj])),h2.weak hb (fun j hj=>hk j (by simp[dU,hj]))⟩
 |mp es=>exact h
 |nil=>exact h
 |und=>exact h
 |junk=>trivial
 |dfr=>trivial
 |vw j o n k=>exact⟨hk j (by simp[dU]),fun cs hc=>h.2 cs (hb j cs hc)⟩
 |vs j o n c k e0=>exact⟨hk j (by simp[dU]),fun cs hc=>h.2 cs (hb j cs hc)⟩
 |ot j n k e0 ds=>obtain⟨u,us,h0,⟨_,h2⟩,h3⟩:=h;exact⟨u,us,h0,⟨hk j (by simp[dU]),fun cs hc=>h2 cs (hb j cs hc)⟩,h3⟩
theorem MG.callT (h:MG n S0 w0 g s a w) {b b':BL} (hb:sy s (aw b)) (hwfc:sP (aw b) (aw b)=true) (hcl:∀j cs,s.bx j=some cs->j ∉ b.map (·.1)->bR j=false)
 (hnew:∀j cs,(sB b').bx j=some cs->ai (aw b) j=none->ai s.b j=none/\iJ j=false):
 ∃S,Fi S g w b/\Own S g (sB b)=Own S0 g s/\ ∀(r:RT) (v:Value) (g':Nat->Nat) (w':World),
  (∀j cs cs',(sB b).bx j=some cs->(sB b').bx j=some cs'->g' j=g j/\cs.length<=cs'.length) ->
  (∀j cs',(sB b').bx j=some cs'->(w.heap.size<=g' j∨BX g b (g' j))/\lV (Own S g' (sB b')) g' (sB b') w' j cs' (g' j)) ->
  (∀i j ci cj,(sB b').bx i=some ci->(sB b').bx j=some cj->g' i=g' j->i=j)->TV.M (Own S g' (sB b')) g' (sB b') w' r.tv v->dj (BX g b) w w' ->
  ∀(dst:Option Nat),(∀d,dst=some d->d<n) ->
  ∃g2,MG n S0 w0 g2 ⟨T9 dst r.tv s.t,aw b'++dG b' b++s.b⟩ (a.put dst v) w':=by
 have inb:∀j cs,(sB b).bx j=some cs->s.bx j=some cs:=fun j cs hj=>hb.at (cw.1 hj)
 have bxown:∀q,BX g b q->Own S0 g s q:=fun q ⟨j,cs,hj,e⟩=> .inr ⟨j,cs,inb j cs hj,e⟩
 have s0no:∀q,S0 q-> ¬BX g b q:=fun q hq ⟨j,cs,hj,e⟩=>by
  have h1:=h.cl q hq;rcases(h.bm j cs (inb j cs hj)).1 with h2|h2
  ·rw[e]at h2;exact absurd h1.1 (Nat.not_lt.2 h2)
  ·rw[e]at h2;exact h1.2.1 h2
 have notin:∀i ci,s.bx i=some ci->ai (aw b) i=none-> ¬BX g b (g i):=fun i ci hi hn ⟨j,cs,hj,e⟩=>by
  have:=h.inj j i cs ci (inb j cs hj) hi e;subst this;rw[cw.1 hj]at hn;cases hn
 refine⟨fun q=>Own S0 g s q/\ ¬BX g b q,?_,?_,?_⟩
 ·refine⟨fun w' hw=>h.tg w' (h.grow.go hw (fun q ⟨j,cs,hj,e⟩=>by rw[<- e];exact(h.bm j cs (inb j cs hj)).1)),fun q hq=>⟨h.own_lt hq.1,hq.2,?_⟩,fun k cs hk=>?_,fun j cs hj=>?_,fun i j ci cj hi hj e=>h.inj i j ci cj (inb i ci hi) (inb j cj hj) e⟩
  ·intro off v hv
   rcases hq.1 with hs| ⟨j,cs,hj,e⟩
   ·obtain⟨h1,hx,h2⟩:=h.cl q hs
    exact h2 off v (by rw[show w.cell? ⟨q,off,none⟩=w0.w.cell? ⟨q,off,none⟩ from World.cell?_of_block (h.grow.block q h1 hx)]at hv;exact hv)
   ·subst e
    have hjn:j ∉ b.map (·.1):=fun hm=>by
     have:∀(b:BL),j∈b.map (·.1)-> ∃cs,ai (aw b) j=some (some cs):=by
      intro b
      induction b with
      |nil=>intro hm;cases hm
      |cons p r ih=>
       obtain⟨i,c⟩:=p;intro hm
       by_cases e:i=j
       ·subst e;exact⟨c,ah _ _ _⟩
       ·obtain⟨c',hc'⟩:=ih (by simpa[show ¬j=i from fun e'=>e e'.symm]using hm)
        exact⟨c',by simp only[aw,aq _ _ e];exact hc'⟩
     obtain⟨c,hc⟩:=this b hm;exact hq.2 ⟨j,c,cw.2 hc,rfl⟩
    have hwb:bR j=false:=hcl j cs hj hjn;obtain⟨_,arr,e1,h1,_,h3,_⟩:=h.bm j cs hj
    simp only[World.cell?,h1,Option.isSome_none,Bool.false_eq_true,if_false]at hv
    exact h3 hwb v (Array.mem_toList_iff.2 (Array.mem_of_getElem? hv))
  ·have e:Own (fun q=>Own S0 g s q/\ ¬BX g b q) g (sB b)=Own S0 g s:=by
    exact QK
   rw[e];exact h.gl k cs hk
  ·have e:Own (fun q=>Own S0 g s q/\ ¬BX g b q) g (sB b)=Own S0 g s:=by
    exact QK
   rw[e];obtain⟨_,arr,e1,p1,p2,p3,p4,p5⟩:=h.bm j cs (inb j cs hj);exact⟨arr,e1,p1,p2,p3,fun hl i a v ha hv=>(p4 hl i a v ha hv).sub (fun q hq=>sP.at hwfc (cw.1 hj) hl q (mZ ha q hq)) inb,p5⟩
 ·exact QK
 ·intro r v g' w' hkeep hbm hinj hres hbx dst hdst
  generalize hs2:(AS.mk (T9 dst r.tv s.t) (aw b'++dG b' b++s.b))=s2;have hb2:s2.b=aw b'++(dG b' b++s.b):=by rw[<- hs2,List.append_assoc]
  have lk:∀i,ai s2.b i=match ai (aw b') i with|some v=>some v|none=>(match ai (dG b' b) i with|some v=>some v|none=>ai s.b i):=fun i=>by
   rw[hb2,T2,T2];cases ai (aw b') i<;>cases ai (dG b' b) i<;>rfl
  have al:∀i ci,s2.bx i=some ci->(sB b').bx i=some ci∨((sB b').bx i=none/\ai (aw b') i=none/\ai (aw b) i=none/\s.bx i=some ci):=by
   intro i ci hi;unfold AS.bx at hi;rw[lk i]at hi;rcases TP b' i with h1| ⟨cs,h1⟩
   ·right
    simp only[h1]at hi
    rcases TP b i with h2| ⟨cs,h2⟩
    ·rw[TQ h2]at hi
     refine⟨?_,h1,h2,?_⟩
     ·unfold sB AS.bx;simp only[h1]
     ·unfold AS.bx;exact hi
    ·rw[TS h2 h1]at hi
     cases hi
   ·left
    simp only[h1]at hi
    cases hi;exact cw.2 h1
  have la:∀i ci,(sB b').bx i=some ci->s2.bx i=some ci:=by
   intro i ci hi;unfold AS.bx;rw[lk i,cw.1 hi]
  have lo:∀i ci,s.bx i=some ci->ai (aw b') i=none->ai (aw b) i=none->s2.bx i=some ci:=by
   intro i ci hi h1 h2;unfold AS.bx;rw[lk i,h1,TQ h2];exact hi
  generalize hg2:(fun i=>match ai (aw b') i with|some _=>g' i|none=>g i)=g2;have g2n:∀i ci,(sB b').bx i=some ci->g2 i=g' i:=fun i ci hi=>by rw[<- hg2];simp only[cw.1 hi]
  have g2o:∀i,ai (aw b') i=none->g2 i=g i:=fun i hi=>by rw[<- hg2];simp only[hi]
  have old:∀i ci,(sB b').bx i=some ci->s.kn i-> ∃cs,(sB b).bx i=some cs:=by
   intro i ci hi hk;rcases TP b i with h1| ⟨cs,h1⟩
   ·obtain⟨x,hx⟩:=hk
    rw[(hnew i ci hi h1).1]at hx;cases hx
   ·exact⟨cs,cw.2 h1⟩
  have eO:Own S0 g2 s2=Own (fun q=>Own S0 g s q/\ ¬BX g b q) g' (sB b'):=by
   funext q
   apply propext
   constructor
   ·rintro(h1| ⟨i,ci,hi,e⟩)
    ·exact .inl ⟨.inl h1,s0no q h1⟩
    ·rcases al i ci hi with h1| ⟨h1,h2,h3,h4⟩
     ·exact .inr ⟨i,ci,h1,by rw[<- g2n i ci h1];exact e⟩
     ·rw[g2o i h2]at e
      subst e;exact .inl ⟨.inr ⟨i,ci,h4,rfl⟩,notin i ci h4 h3⟩
   ·rintro(⟨h1| ⟨i,ci,hi,e⟩,h2⟩| ⟨i,ci,hi,e⟩)
    ·exact .inl h1
    ·have hbn:ai (aw b) i=none:=by
      rcases TP b i with h3| ⟨cs,h3⟩
      ·exact h3
      ·exact absurd ⟨i,cs,cw.2 h3,e⟩ h2
     have hbn':ai (aw b') i=none:=by
      rcases TP b' i with h3| ⟨cs,h3⟩
      ·exact h3
      ·obtain⟨x,hx⟩:=AS.kn_of hi
       rw[(hnew i cs (cw.2 h3) hbn).1]at hx;cases hx
     exact .inr ⟨i,ci,lo i ci hi hbn' hbn,by rw[g2o i hbn'];exact e⟩
    ·exact .inr ⟨i,ci,la i ci hi,by rw[g2n i ci hi];exact e⟩
  have hA:bJ (Own S0 g s) w w':=⟨hbx.size,fun q hq hn=>hbx.block q hq (fun hx=>hn (bxown q hx))⟩
  have hS:∀q,q<w.heap.size->Own S0 g2 s2 q->Own S0 g s q:=by
   intro q hq h1;rw[eO]at h1;rcases h1 with h1| ⟨i,ci,hi,e⟩
   ·exact h1.1
   ·rcases(hbm i ci hi).1 with h2|h2
    ·omega
    ·rw[e]at h2;exact bxown q h2
  have hF:iH s s2 g g2 w w':=by
   refine⟨fun j hj=>?_,fun j cs2 hk hj=>?_⟩
   ·obtain⟨x,hx⟩:=hj
    unfold AS.kn;rw[lk j]
    split
    ·exact⟨_,rfl⟩
    ·split
     ·exact⟨_,rfl⟩
     ·exact⟨x,hx⟩
   ·rcases al j cs2 hj with h1| ⟨h1,h2,h3,h4⟩
    ·obtain⟨cs,hcs⟩:=old j cs2 h1 hk
     obtain⟨h5,h6⟩:=hkeep j cs cs2 hcs h1;refine⟨cs,inb j cs hcs,h6,by rw[g2n j cs2 h1,h5],fun arr e he=>?_⟩;obtain⟨a2,f2,k1,k2⟩:=hbx.shp (g j) (Array.getElem?_eq_some_iff.1 he).1 ⟨j,cs,hcs,rfl⟩ arr e (0,0) he;obtain⟨_,a3,e3,k3,_⟩:=hbm j cs2 h1;rw[h5,k1]at k3;cases k3;exact⟨_,k1,k2⟩
    ·refine⟨cs2,h4,Nat.le_refl _,g2o j h2,fun arr e he=>⟨arr,?_,rfl⟩⟩
     exact(hbx.block (g j) (Array.getElem?_eq_some_iff.1 he).1 (notin j cs2 h4 h3)).trans he
  have hkn:∀j,(sB b').kn j->s2.kn j:=fun j ⟨x,hx⟩=>by
   have hx:ai (aw b') j=some x:=hx;unfold AS.kn;rw[lk j,hx];exact⟨x,rfl⟩
  have hback:∀j cs,(sB b').kn j->s2.bx j=some cs->(sB b').bx j=some cs:=fun j cs ⟨x,hx⟩ hj=>by
   rcases al j cs hj with h1| ⟨_,h2,_⟩
   ·exact h1
   ·have hx:ai (aw b') j=some x:=hx
    rw[h2]at hx;cases hx
  refine⟨g2,fun k=>?_,fun i ci hi=>?_,fun i j ci cj hi hj e=>?_,h.grow.go hbx (fun q ⟨j,cs,hj,e⟩=>by rw[<- e];exact(h.bm j cs (inb j cs hj)).1),by
   rw[u4,show s2.tv DK=s.tv DK by
    rw[<- hs2];cases dst with
    |none=>rfl
    |some d=>exact pV (hdst d rfl) h.nk]
   exact h.df.agree hF,by cases dst<;>simpa[Act.put]using h.sz,h.cl,h.tg,fun k cs hk=>(h.gl k cs hk).agree hA hS hF,fun i q ci h1 h2 hi=>?_,h.nk⟩
  ·have hold:∀q,TV.M (Own S0 g2 s2) g2 s2 w' (s.tv q) (a.tmps.getD q Go.undef):=fun q=>(h.tm q).agree hA hS hF
   cases dst with
   |none=>
    have:s2.tv k=s.tv k:=by rw[<- hs2];rfl
    rw[this];exact hold k
   |some d=>
    by_cases hk:d=k
    ·subst hk
     have e1:s2.tv d=r.tv:=by rw[<- hs2];simp[AS.tv,T9,ah]
     rw[e1];have e2:(a.put (some d) v).tmps.getD d Go.undef=v:=by simp[Act.put,h.sz,hdst d rfl]
     rw[e2,eO];generalize r.tv=x at hres;cases x with
     |d x=>exact hres
     |tup ts=>exact hres
     |box j o=>exact⟨hkn j hres.1,fun cs hc=>by have:=hback j cs hres.1 hc;rw[g2n j cs this];exact hres.2 cs this⟩
     |rp cs=>exact hres
     |own j m q e0=>exact⟨hkn j hres.1,fun cs hc=>by have:=hback j cs hres.1 hc;rw[g2n j cs this];exact hres.2 cs this⟩
     |clo fn fs cs=>
      have hc:∀{xs:List CV} {vs:List Value},pN g' (sB b') xs vs->pN g2 s2 xs vs:=by
       intro xs
       induction xs with
       |nil=>intro vs h;cases vs with
        |nil=>trivial
        |cons=>exact h.elim
       |cons c xs ih=>intro vs h;cases vs with
        |nil=>exact h.elim
        |cons v vs=>
         refine⟨?_,ih h.2⟩;cases c with
         |val u=>exact h.1
         |box j o=>exact⟨hkn j h.1.1,fun cs hc=>by have:=hback j cs h.1.1 hc;rw[g2n j cs this];exact h.1.2 cs this⟩
      obtain⟨us,vs,e,h1,h2⟩:=hres;exact⟨us,vs,e,hc h1,hc h2⟩
     |mp es=>exact hres
     |nil=>exact hres
     |und=>exact hres
     |junk=>trivial
     |dfr=>trivial
     |vw j o m q=>exact⟨hkn j hres.1,fun cs hc=>by have:=hback j cs hres.1 hc;rw[g2n j cs this];exact hres.2 cs this⟩
     |vs j o m c q e0=>exact⟨hkn j hres.1,fun cs hc=>by have:=hback j cs hres.1 hc;rw[g2n j cs this];exact hres.2 cs this⟩
     |ot j m q e0 ds=>obtain⟨u,us,h0,⟨h1,h2⟩,h3⟩:=hres;exact⟨u,us,h0,⟨hkn j h1,fun cs hc=>by have:=hback j cs h1 hc;rw[g2n j cs this];exact h2 cs this⟩,h3⟩
    ·have e1:s2.tv k=s.tv k:=by rw[<- hs2];simp[AS.tv,T9,aq _ _ hk]
     rw[e1];have e2:(a.put (some d) v).tmps.getD k Go.undef=a.tmps.getD k Go.undef:=by simp[Act.put,Array.getElem?_setIfInBounds_ne hk]
     rw[e2];exact hold k
  ·rcases al i ci hi with h1| ⟨h1,h2,h3,h4⟩
   ·rw[g2n i ci h1]
    obtain⟨h5,h6⟩:=hbm i ci h1
    refine⟨?_,by
     rw[eO];obtain⟨arr,e1,p1,p2,p3,p4,p5⟩:=h6;refine⟨arr,e1,p1,p2,p3,fun hl q c v hc hv=>?_,p5⟩;have hq:=p4 hl q c v hc hv;cases c with
     |ow j m k e=>exact⟨hkn j hq.1,fun cs hc=>by have:=hback j cs hq.1 hc;rw[g2n j cs this];exact hq.2 cs this⟩
     |bp j o=>exact⟨hkn j hq.1,fun cs hc=>by have:=hback j cs hq.1 hc;rw[g2n j cs this];exact hq.2 cs this⟩
     |val=>trivial
     |sl=>trivial
     |nl=>trivial⟩
    rcases h5 with h5| ⟨j,cs,hj,e⟩
    ·exact .inl (Nat.le_trans h.grow.size h5)
    ·rw[<- e];exact(h.bm j cs (inb j cs hj)).1
   ·rw[g2o i h2]
    obtain⟨h5,h6⟩:=h.bm i ci h4;exact⟨h5,h6.agree (hbx.block _ h6.lt (notin i ci h4 h3)) hA hS hF⟩
  ·have cross:∀i j ci cj,(sB b').bx i=some ci->ai (aw b) j=none->s.bx j=some cj->ai (aw b') j=none->g' i=g j->False:=by
    intro i j ci cj hi hn hj hn' e;rcases(hbm i ci hi).1 with h1|h1
    ·have:=(h.bm j cj hj).2.lt;omega
    ·rw[e]at h1;exact notin j cj hj hn h1
   rcases al i ci hi with h1| ⟨h1,h2,h3,h4⟩<;>rcases al j cj hj with h1'| ⟨h1',h2',h3',h4'⟩
   ·rw[g2n i ci h1,g2n j cj h1']at e;exact hinj i j ci cj h1 h1' e
   ·rw[g2n i ci h1,g2o j h2']at e;exact(cross i j ci cj h1 h3' h4' h2' e).elim
   ·rw[g2o i h2,g2n j cj h1']at e;exact(cross j i cj ci h1' h3 h4 h2 e.symm).elim
   ·rw[g2o i h2,g2o j h2']at e;exact h.inj i j ci cj h4 h4' e
  ·rcases al i ci hi with h3| ⟨h3,h4,h5,h6⟩
   ·rw[g2n i ci h3]
    rcases TP b i with h4| ⟨cs,h4⟩
    ·rw[(hnew i ci h3 h4).2]at h1;cases h1
    ·rw[(hkeep i cs ci (cw.2 h4) h3).1]
     exact h.gp i q cs h1 h2 (inb i cs (cw.2 h4))
   ·rw[g2o i h4];exact h.gp i q ci h1 h2 h6
end
section
variable {P:Program} {T:TypeId->Option Ty} {n:Nat} {S0:Nat->Prop} {w0:eP}
theorem nP.length {S:Nat->Prop} {g:Nat->Nat} {s:AS} {w:World}:∀{ts:List TV} {vs:List Value},nP S g s w ts vs->ts.length=vs.length
 | [],[],_=>rfl
 |_::ts,_::vs,h=>by simp[nP.length h.2]
 | [],_::_,h=>h.elim
 |_::_,[],h=>h.elim
theorem nP.at {S:Nat->Prop} {g:Nat->Nat} {s:AS} {w:World}:∀{ts:List TV} {vs:List Value},nP S g s w ts vs-> ∀(k i:Nat),TV.M S g s w (match ai (vZ k ts) i with|some v=>v|none=> .junk) (if i<k then undef else vs.getD (i-k) undef)
 | [],[],_,k,i=>trivial
 |d::ds,v::vs,h,k,i=>by
  simp only[vZ]
  by_cases e:k=i
  ·subst e
   rw[ah]
   simp only[Nat.lt_irrefl,if_false,Nat.sub_self]
   exact h.1
  ·rw[aq _ _ e]
   have:=nP.at h.2 (k+1) i
   by_cases h1:i<k
   ·rw[if_pos (by omega)]at this;rw[if_pos h1];exact this
   ·rw[if_neg (by omega)]at this
    rw[if_neg h1];have e2:i-k=(i-(k+1))+1:=by omega
    rw[e2]
    simpa using this
 | [],_::_,h,_,_=>h.elim
 |_::_,[],h,_,_=>h.elim
def OA (T:TypeId->Option Ty) (s:AS) (rs:List ResultVar) (r:RT) (b':BL):Prop:=
 (match r with
  | .v r=>∃l,jB T s rs=some l/\qC l=r
  | .own j n k e=>∃t,rs=[.tmp t]/\s.tv t= .own j n k e/\og (s.tv DK)=true
  | .nil=>∃t,rs=[.tmp t]/\s.tv t= .nil/\og (s.tv DK)=true
  | .ot j n k e ds=>∃t rs',rs= .tmp t::rs'/\s.tv t= .own j n k e/\ds≠[]/\jB T s rs'=some ds)/\sy s (aw b')
theorem TV.M.sO {S:Nat->Prop} {g:Nat->Nat} {s s':AS} {w:World} {x:TV} {v:Value} (h:TV.M S g s w x v) (hb:s'.b=s.b):TV.M S g s' w x v:=h.sameB hb
def em (b b':BL):Prop:=∀j cs cs',(sB b).bx j=some cs->(sB b').bx j=some cs'->cs.length<=cs'.length
theorem em.refl (b:BL):em b b:=fun j cs cs' h h'=>by rw[h]at h';cases h';exact Nat.le_refl _
theorem em.nil (b:BL):em [] b:=fun j cs cs' h=>by cases h
theorem em.one {j:Nat} {cs cs':List AV} (h:cs.length<=cs'.length):em [(j,cs)] [(j,cs')]:=fun i c c' h1 h2=>by
 have h1:=cw.1 h1;have h2:=cw.1 h2
 simp only[aw]at h1 h2
 by_cases e:j=i
 ·subst e;rw[ah]at h1 h2;cases h1;cases h2;exact h
 ·rw[aq _ _ e]at h1;cases h1
def uv (b':BL):BL->Bool
 | []=>true
 |(j,_)::r=>(iJ j || !(ai (aw b') j).isSome) && uv b' r
theorem T1 {b':BL}:∀{b:BL} {j:Nat} {cs cs':List AV},uv b' b=true->ai (aw b) j=some (some cs)->ai (aw b') j=some (some cs')->iJ j=true
 | [],_,_,_,_,h,_=>by cases h
 |(i,c)::r,j,cs,cs',hr,h,h'=>by
  simp only[uv,Bool.and_eq_true]at hr
  by_cases e:i=j
  ·subst e
   have:=hr.1;rw[h']at this
   simpa using this
  ·simp only[aw,aq _ _ e]at h;exact T1 hr.2 h h'
def T8 (r:RT) (b':BL):Bool:=sP (aw b') (aw b') && match r with
 | .own j _ _ _=>match ai (aw b') j with
  |some _=>true
  |none=>false
 | .ot j _ _ _ _=>match ai (aw b') j with
  |some _=>true
  |none=>false
 | .nil=>true
 | .v _=>true
theorem T4 {ts:List TV}:∀{k i:Nat},k+ts.length<=i->ai (vZ k ts) i=none:=by
 induction ts with
 |nil=>intro k i _;rfl
 |cons d ds ih=>
  intro k i h
  simp only[List.length_cons]at h
  rw[vZ,aq _ _ (by omega)];exact ih (by omega)
def T0 (g:Nat->Nat) (w:World) (b:BL):eP:=⟨w,BX g b,[],fun j=>if iJ j then some (g j)else none⟩
theorem Uc {S:Nat->Prop} {g g1:Nat->Nat} {w w1:World} {b b':BL} {s:AS} {a:Act} {r:RT} {v:Value} (hrv:uv b' b=true) (hwfc:sP (aw b') (aw b')=true) (hlen:em b b') (hwk:sy s (aw b')) (hm:MG n S (T0 g w b) g1 s a w1)
 (hv:TV.M (Own S g1 (sB b')) g1 (sB b') w1 r.tv v):Au S g b r b' w (.returned v) w1:=by
 have hbx:∀j cs,(sB b').bx j=some cs->s.bx j=some cs:=fun j cs hj=>hwk.at (cw.1 hj)
 have hOs:∀q,q<w1.heap.size->Own S g1 (sB b') q->Own S g1 s q:=by
  rintro q _ (h0| ⟨j,cs,hj,e⟩)
  ·exact .inl h0
  ·exact .inr ⟨j,cs,hbx j cs hj,e⟩
 refine⟨v,g1,rfl,fun j cs cs' hj hj'=>⟨?_,hlen j cs cs' hj hj'⟩,fun j cs' hj=>?_,fun i j ci cj hi hj e=>hm.inj i j ci cj (hbx i ci hi) (hbx j cj hj) e,hv,hm.grow⟩
 ·have hr:=T1 hrv (cw.1 hj) (cw.1 hj')
  exact hm.gp j (g j) cs' hr (by simp only[T0,hr,if_true]) (hbx j cs' hj')
 ·obtain⟨h1,arr,e1,p1,p2,p3,p4,p5⟩:=hm.bm j cs' (hbx j cs' hj)
  exact⟨h1,arr,e1,p1,p2.agree (bJ.refl _ _) hOs,p3,fun hl i c v hc hv=>(p4 hl i c v hc hv).sub (fun q hq=>sP.at hwfc (cw.1 hj) hl q (mZ hc q hq)) hbx,p5⟩
theorem T5 {S:Nat->Prop} {g:Nat->Nat} {w:World} {vs:List Value} {ts:List TV} {b:BL} {N:Nat} (hS:Fi S g w b) (hv:nP (Own S g (sB b)) g (sB b) w ts vs) (hsz:ts.length<=N) (hnk:N<=DK):
 M N S (T0 g w b) ⟨vZ 0 ts,aw b⟩ ⟨vs.toArray++Array.replicate (N-vs.toArray.size) undef,[]⟩ w:=by
 have hl:=nP.length hv;refine⟨g,fun k=>?_,fun j cs hj=>⟨.inr ⟨j,cs,hj,rfl⟩,(hS.bm j cs hj).sameB rfl⟩,hS.inj,dj.refl _ _,?_,by simp;omega,fun q hq=>?_,fun w' hw'=>hS.tab w' hw',hS.gl,fun j q cs h1 h2 _=>?_,hnk⟩
 ·have:=nP.at hv 0 k
  simp only[Nat.not_lt_zero,if_false,Nat.sub_zero]at this
  have e2:(vs.toArray++Array.replicate (N-vs.toArray.size) undef).getD k undef=vs.getD k undef:=by
   simp only[Array.getD_eq_getD_getElem?,Array.getElem?_append,List.getD_eq_getElem?_getD]
   by_cases h1:k<vs.length
   ·simp[h1]
   ·simp[h1]
    cases h2:(Array.replicate (N-vs.length) undef)[k-vs.length]? with
    |none=>rfl
    |some v=>rw[Array.getElem?_replicate]at h2;split at h2<;>simp_all
  dsimp only;rw[e2];exact this.sameB rfl
 ·have e0:(AS.mk (vZ 0 ts) (aw b)).tv DK= .junk:=by simp only[AS.tv,T4 (k:=0) (ts:=ts) (i:=DK) (by omega)]
  rw[e0];rfl
 ·obtain⟨h1,h2,h3⟩:=hS.blk q hq
  exact⟨h1,h2,h3⟩
 ·simp only[T0,h1,if_true,Option.some.injEq]at h2
  exact h2
structure t8 (P:Program) (f:FuncId) (ts:List TV) (b:BL) (r:RT) (b':BL):Prop where
 enter:∀args w,(callFunc f args).run P w= .ok (.enter f args) w
 body:∃fn c,P.funcs[f]? =some fn/\fn.body=some c/\ ∀(S:Nat->Prop) (g:Nat->Nat) (w:World) (vs:List Value),Fi S g w b->nP (Own S g (sB b)) g (sB b) w ts vs->c.wp P (bodyPost P fn (Au S g b r b' w)) { tmps:=vs.toArray++Array.replicate (fn.ntmps-vs.toArray.size) undef,defers:=[] } w
theorem t8.toT {f:FuncId} {ts:List TV} {b:BL} {r:RT} {b':BL} (h:t8 P f ts b r b'):bw P f ts b r b':=by
 obtain⟨fn,c,hf,hb,hw⟩:=h.body;exact⟨h.enter,fun S g w vs hS hv=>calls_of_wp hf hb (hw S g w vs hS hv)⟩
theorem T6 (hT:∀t d,T t=some d->aU P t d) (hmix:P.follows .mixedOrders=true) {f:FuncId} {fn:Func} {c:Code} {ts:List TV} {b:BL} {r:RT} {b':BL} (hf:P.funcs[f]? =some fn) (hb:fn.body=some c) (hn:(fn.name == "runtime.NumGoroutine")=false) (hsz:(Nat.ble ts.length fn.ntmps && Nat.ble fn.ntmps DK)=true)
 (hrv:uv b' b=true) (hkn:T8 r b'=true) (hlen:em b b')
 (h:gk P T fn.ntmps c (fun e s=>match e with| .exit _=>False|_=>OA T s fn.results.toList r b') ⟨vZ 0 ts,aw b⟩):t8 P f ts b r b':=by
 unfold T8 at hkn;rw[Bool.and_eq_true]at hkn hsz;obtain⟨hwfc,hkn⟩:=hkn;obtain⟨hsz,hnk⟩:=hsz;have hsz:=Nat.le_of_ble_eq_true hsz;have hnk:=Nat.le_of_ble_eq_true hnk;refine⟨fun args w=>?_,fn,c,hf,hb,fun S g w vs hS hv=>?_⟩
 ·have hn':¬fn.name= "runtime.NumGoroutine" :=by simpa using hn
  simp[callFunc,Sem.run_bind,hf,hn',hb]
 ·refine wp_mono (uG (S0:=S) (w0:=T0 g w b) hT hmix c _ _ _ w h (T5 hS hv hsz hnk)) fun e a w1 hq=>?_
  have fin:∀s,OA T s fn.results.toList r b'->M fn.ntmps S (T0 g w b) s a w1->a.defers=[]/\ ∃v,(results fn a.tmps).run P w1= .ok v w1/\Au S g b r b' w (.returned v) w1:=by
   rintro s ⟨hres,hwk⟩ ⟨g1,hm⟩;have hbx:∀j cs,(sB b').bx j=some cs->s.bx j=some cs:=fun j cs hj=>hwk.at (cw.1 hj)
   have hOs:∀q,q<w1.heap.size->Own S g1 (sB b') q->Own S g1 s q:=by
    rintro q _ (h0| ⟨j,cs,hj,e⟩)
    ·exact .inl h0
    ·exact .inr ⟨j,cs,hbx j cs hj,e⟩
   have rest:∀v,TV.M (Own S g1 (sB b')) g1 (sB b') w1 r.tv v->Au S g b r b' w (.returned v) w1:=fun v hv=>Uc hrv hwfc hlen hwk hm hv
   cases r with
   |v r=>
    obtain⟨l,h1,rfl⟩:=hres;refine⟨(zC.no (iQ h1)).1 hm.df,?_⟩;obtain⟨vs',hr,hl',hv'⟩:=fX hT hm fn.results.toList l h1;refine⟨if h:vs'.toArray.size=1 then vs'.toArray[0]else .tuple vs'.toArray,?_,rest _ ?_⟩
    ·unfold results
     rw[Sem.run_bind,Array.mapM_eq_mapM_toList,Sem.run_map]
     erw[hr]
     simp only[Result.andThen_ok]
     rfl
    ·have hv2:∀(i:Nat) (x:DV) (u:Value),l[i]? =some x->vs'[i]? =some u->DV.M (Own S g1 (sB b')) w1 x u:=fun i x u h1 h2=>(hv' i x u h1 h2).agree (bJ.refl _ _) hOs
     cases l with
     |nil=>
      rw[dif_neg (by simp at hl' ⊢;omega)];exact⟨vs',rfl,hl',hv2⟩
     |cons d l=>
      cases l with
      |nil=>
       have:vs'.toArray.size=1:=by simpa using hl'.symm
       rw[dif_pos this];exact hv2 0 d _ rfl (by simp)
      |cons d' l=>
       rw[dif_neg (by simp at hl' ⊢;omega)];exact⟨vs',rfl,hl',hv2⟩
   |own j m k e=>
    obtain⟨t,h1,h2,h3⟩:=hres;refine⟨(zC.no h3).1 hm.df,a.tmps.getD t undef,?_,rest _ ?_⟩
    ·unfold results
     rw[Sem.run_bind,Array.mapM_eq_mapM_toList,Sem.run_map,h1];rfl
    ·have hm2:=hm.tm t
     rw[h2]at hm2;refine⟨?_,fun cs hc=>hm2.2 cs (hbx j cs hc)⟩;dsimp only at hkn
     split at hkn
     ·rename_i x hx;exact⟨x,hx⟩
     ·cases hkn
   |nil=>
    obtain⟨t,h1,h2,h3⟩:=hres;refine⟨(zC.no h3).1 hm.df,a.tmps.getD t undef,?_,rest _ ?_⟩
    ·unfold results
     rw[Sem.run_bind,Array.mapM_eq_mapM_toList,Sem.run_map,h1];rfl
    ·have hm2:=hm.tm t
     rw[h2]at hm2;exact hm2
   |ot j m k e ds=>
    obtain⟨t,rs',h1,h2,hne,h3⟩:=hres;refine⟨(zC.no (iQ h3)).1 hm.df,?_⟩;obtain⟨vs',hr,hl',hv'⟩:=fX hT hm rs' ds h3;refine⟨.tuple (a.tmps.getD t undef::vs').toArray,?_,rest _ ?_⟩
    ·unfold results
     rw[Sem.run_bind,Array.mapM_eq_mapM_toList,Sem.run_map,h1,List.mapM_cons];have hlen:vs'.length≠0:=by rw[<- hl'];exact fun e=>hne (List.length_eq_zero_iff.1 e)
     skip
     simp only[Sem.run_bind,Sem.run_pure,Result.andThen_ok]
     erw[hr]
     simp only[Result.andThen_ok]
     rw[dif_neg (by simpa using hlen)]
    ·have hm2:=hm.tm t
     rw[h2]at hm2;refine⟨_,vs',rfl,⟨?_,fun cs hc=>hm2.2 cs (hbx j cs hc)⟩,hl',fun i x u h1 h2=>(hv' i x u h1 h2).agree (bJ.refl _ _) hOs⟩;dsimp only at hkn
     split at hkn
     ·rename_i x hx;exact⟨x,hx⟩
     ·cases hkn
  cases e with
  |normal=>obtain⟨s,h1,h2⟩:=hq;exact fin s h1 h2
  |ret=>obtain⟨s,h1,h2⟩:=hq;exact fin s h1 h2
  |exit i=>obtain⟨s,h1,h2⟩:=hq;exact h1.elim
  |goto l=>exact hq.elim
  |panic c=>exact hq.elim
  |outgrown=>exact hq.elim
theorem bf (hT:∀t d,T t=some d->aU P t d) (hmix:P.follows .mixedOrders=true) {f:FuncId} {fn:Func} {c:Code} {ts:List TV} {b:BL} {r:RT} {b':BL} (hf:P.funcs[f]? =some fn) (hb:fn.body=some c) (hn:(fn.name == "runtime.NumGoroutine")=false) (hsz:(Nat.ble ts.length fn.ntmps && Nat.ble fn.ntmps DK)=true)
 (hrv:uv b' b=true) (hkn:T8 r b'=true) (hlen:em b b')
 (h:gk P T fn.ntmps c (fun e s=>match e with| .exit _=>False|_=>OA T s fn.results.toList r b') ⟨vZ 0 ts,aw b⟩):bw P f ts b r b':=(T6 hT hmix hf hb hn hsz hrv hkn hlen h).toT
def Sw:CV->TV
 | .val v=> .d (.leaf (.val v))
 | .box j o=> .box j o
def Pz:TV->TV
 | .nil=> .d (.leaf (.sl 0 []))
 |x=>x
def vn (s:AS) (f:Operand) (args:List Operand):Option (FuncId × List TV):=
 match s.ev f with
 | .d (.leaf (.val (.func (.func fid) ⟨[]⟩ ⟨[]⟩)))=>some (fid,args.map fun x=>Pz (s.ev x))
 | .clo (.func fid) fs cs=>some (fid,fs.map Sw++(args.map fun x=>Pz (s.ev x))++cs.map Sw)
 |_=>none
def ub:List CV->Bool
 | []=>true
 | .val v::r=>v.oneCell' && ub r
 | .box _ _::r=>ub r
def sS (s:AS) (f:Operand):Bool:=match s.ev f with
 | .clo _ fs cs=>ub fs && ub cs
 |_=>true
theorem P7 {S:Nat->Prop} {g:Nat->Nat} {s:AS} {w:World} {x:TV} {v:Value} (h:TV.M S g s w x v):TV.M S g s w (Pz x) v:=by
 cases x<;>first|exact h|skip
 have:v= .slice none 0 0:=h;rw[this];exact AV.M.emp (Nat.le_refl _) (by omega) (fun _=>rfl)
theorem lZ {S:Nat->Prop} {g:Nat->Nat} {s:AS} {w:World}:∀{xs ys:List TV} {us vs:List Value},nP S g s w xs us->nP S g s w ys vs->nP S g s w (xs++ys) (us++vs)
 | [],_,[],_,_,k=>k
 |_::_,_,_::_,_,h,k=>⟨h.1,lZ h.2 k⟩
 | [],_,_::_,_,h,_=>h.elim
 |_::_,_,[],_,h,_=>h.elim
theorem Cs {g:Nat->Nat} {s:AS} {a:Act} {w:World} (hM:MG n S0 w0 g s a w):∀(l:List Operand),nP (Own S0 g s) g s w (l.map fun x=>Pz (s.ev x)) (l.map a.eval)
 | []=>trivial
 |x::l=>⟨P7 (hM.ev x),Cs hM l⟩
theorem ww {S:Nat->Prop} {g:Nat->Nat} {s:AS} {w:World}:∀{xs:List CV} {vs:List Value},ub xs=true->pN g s xs vs->nP S g s w (xs.map Sw) vs
 | [],[],_,_=>trivial
 | .val u::xs,v::vs,h1,h=>by
  simp only[ub,Bool.and_eq_true]at h1
  have e:v=u:=h.1;subst e;exact⟨AV.M.val h1.1,ww h1.2 h.2⟩
 | .box j o::xs,v::vs,h1,h=>⟨h.1,ww h1 h.2⟩
 | [],_::_,_,h=>h.elim
 |_::_,[],_,h=>h.elim
theorem vo {S:Nat->Prop} {g:Nat->Nat} {s s':AS} {w:World} (hb:∀j cs,s'.bx j=some cs->s.bx j=some cs):∀{xs:List TV} {vs:List Value},(∀j∈xs.flatMap dU,s'.kn j)->nP S g s w xs vs->nP S g s' w xs vs
 | [],[],_,_=>trivial
 |x::xs,v::vs,hk,h=>⟨h.1.sub (fun j hj=>hk j (List.mem_flatMap.2 ⟨x,by simp,hj⟩)) hb,vo hb (fun j hj=>hk j (by rw[List.flatMap_cons];exact List.mem_append_right _ hj)) h.2⟩
 | [],_::_,_,h=>h.elim
 |_::_,[],_,h=>h.elim
def mu (s:AS) (b:BL):BL->Bool
 | []=>true
 |(j,_)::r=>(match ai (aw b) j with|some _=>true|none=>fB s j) && mu s b r
theorem uZ {s:AS} {b:BL}:∀{b':BL} {j:Nat} {cs:List AV},mu s b b'=true->ai (aw b') j=some (some cs)->ai (aw b) j=none->ai s.b j=none/\iJ j=false
 | [],_,_,_,h,_=>by cases h
 |(i,c)::r,j,cs,hr,h,hn=>by
  simp only[mu,Bool.and_eq_true]at hr
  by_cases e:i=j
  ·subst e
   have:=hr.1;rw[hn]at this;exact bg this
  ·simp only[aw,aq _ _ e]at h;exact uZ hr.2 h hn
theorem Gh {b:BL} {l:List Nat} (h:EM (aw b) l=true):∀j∈l,(sB b).kn j:=fun j hj=>wl h j hj
theorem pm {o:Oper} {f:Operand} {fid:FuncId} {args:Array Operand} {tys:Array TypeId} {ts:List TV} {b:BL} {r:RT} {b':BL} {s:AS} (hc:bw P fid ts b r b') (ho:o.op= .call ⟨.value f,args,tys⟩) (hcl:vn s f args.toList=some (fid,ts)) (h1:sS s f=true)
 (hk:(EM (aw b) (ts.flatMap dU) && sP (aw b) (aw b))=true) (hb:sy s (aw b)) (hcn:∀j cs,s.bx j=some cs->j ∉ b.map (·.1)->bR j=false) (hnew:mu s b b'=true):
 bA P o s ⟨r.tv,some (aw b'++dG b' b)⟩:=by
 intro n S0 w0 g a w K Q hM hdn hK;rw[Bool.and_eq_true]at hk;obtain⟨hk,hwfc⟩:=hk;obtain⟨S,hpre,hO,hpost⟩:=hM.callT (b:=b) (b':=b') hb hwfc hcn (fun j cs hj hn=>uZ hnew (cw.1 hj) hn);have inb:∀j cs,(sB b).bx j=some cs->s.bx j=some cs:=fun j cs hj=>hb.at (cw.1 hj)
 obtain⟨vs,hvs,hrun⟩:∃vs,nP (Own S0 g s) g s w ts vs/\(execOp a.eval o).run P w= .ok (.enter fid vs.toArray) w:=by
  have hargs:=Cs hM args.toList;have hf:=hM.ev f;unfold vn at hcl
  split at hcl
  ·rename_i fid' hfe
   simp only[Option.some.injEq,Prod.mk.injEq]at hcl
   obtain⟨rfl,rfl⟩:=hcl;refine⟨_,hargs,?_⟩;unfold execOp;rw[ho];rw[hfe]at hf
   simp only[resolve,dM (show AV.M _ _ _ _ from hf),Deferred.ofValue,Sem.run_bind,Sem.run_pure,Result.andThen_ok,invoke]
   exact MS
  ·rename_i fid' fs cs hfe
   simp only[Option.some.injEq,Prod.mk.injEq]at hcl
   obtain⟨rfl,rfl⟩:=hcl;rw[hfe]at hf;obtain⟨us,vs,e,h2,h3⟩:=hf;unfold sS at h1;rw[hfe]at h1
   simp only[Bool.and_eq_true]at h1
   refine⟨us++List.map a.eval args.toList++vs,lZ (lZ (ww h1.1 h2) hargs) (ww h1.2 h3),?_⟩;unfold execOp;rw[ho]
   simp only[resolve,e,Deferred.ofValue,Sem.run_bind,Sem.run_pure,Result.andThen_ok,invoke]
   have e2:(us++List.map a.eval args.toList++vs).toArray=us.toArray++args.map a.eval++vs.toArray:=Array.ext' (by simp);have:=hc.enter (us.toArray++args.map a.eval++vs.toArray) w;rw[e2]
   simpa using this
  ·cases hcl
 have hcall:=hc.calls S g w vs hpre (by rw[hO];exact vo inb (Gh hk) hvs);unfold Oper.wp;rw[hrun];show Calls P fid _ w _;refine hcall.mono ?_;rintro en w1 ⟨v,g',rfl,h2,h3,h4,h5,h6⟩;show K (a.put o.dst v) w1;obtain⟨g2,hm⟩:=hpost r v g' w1 h2 h3 h4 h5 h6 o.dst hdn;refine hK g2 _ _ ?_;cases ho2:o.dst<;>(rw[ho2]at hm;exact hm)
variable {ops:Array Oper} {id:Nat} {draw:Bool} {K:AS->Prop} {s:AS} {k:Nat} {o:Oper} {os:List Oper} {fps:List FP}
theorem q9 {s s':AS} {f:Operand} {args:List Operand} (hf:s'.ev f=s.ev f) (ha:∀x∈args,s'.ev x=s.ev x):vn s' f args=vn s f args:=by
 have e:(args.map fun x=>Pz (s'.ev x))=args.map fun x=>Pz (s.ev x):=List.map_congr_left fun x hx=>by rw[ha x hx]
 unfold vn;rw[hf,e]
theorem lc {s s':AS}:∀{b:BL},(∀j∈b.map (·.1),ai s'.b j=ai s.b j)->sy s (aw b)->sy s' (aw b)
 | [],_,_=>trivial
 |(j,cs)::r,hl,h=>⟨by rw[aN (hl j (by simp))];exact h.1,lc (b:=r) (fun i hi=>hl i (by simp at hi ⊢;exact .inr hi)) h.2⟩
theorem jm {s s':AS} {b:BL}:∀{b':BL},(∀j∈b'.map (·.1),ai s'.b j=ai s.b j)->mu s' b b'=mu s b b'
 | [],_=>rfl
 |(j,cs)::r,hl=>by
  rw[mu,mu,jm (b':=r) (fun i hi=>hl i (by simp at hi ⊢;exact .inr hi)),dY (hl j (by simp))]
theorem gK {f:Operand} {fid:FuncId} {args:Array Operand} {tys:Array TypeId} {ts:List TV} {b:BL} {r:RT} {b':BL} (hc:bw P fid ts b r b') (h1:gd ops s o=some true) (ho:o.op= .call ⟨.value f,args,tys⟩) (hcl:vn s f args.toList=some (fid,ts)) (hone:sS s f=true)
 (hk:(EM (aw b) (ts.flatMap dU) && sP (aw b) (aw b))=true) (hb:sy s (aw b)) (hcn:ez [] s.b=true) (hnew:mu s b b'=true) (h3:aF n o.dst=true) (h4:eT draw ops (ar ops o ⟨r.tv,some (aw b'++dG b' b)⟩ (b.map (·.1)++b'.map (·.1))) k fps=true)
 (h:am P T n ops id draw K (k+1) os (s.eff o.dst ⟨r.tv,some (aw b'++dG b' b)⟩) (ar ops o ⟨r.tv,some (aw b'++dG b' b)⟩ (b.map (·.1)++b'.map (·.1))::fps)):am P T n ops id draw K k (o::os) s fps:=by
 refine .run h1 (.genC (iW hcn) fun s2 hc2 ht hrb=>?_) h3 h4 h;have hf:s2.ev f=s.ev f:=an ht (by rw[ho];simp[Op.operands,Call.operands]);have hcl2:=q9 (s':=s2) (s:=s) (f:=f) (args:=args.toList) hf (fun x hx=>an ht (by rw[ho];simp[Op.operands,Call.operands];exact .inr (by simpa using hx)));have hone2:sS s2 f=true:=by unfold sS at hone ⊢;rw[hf];exact hone
 exact pm hc ho (hcl2.trans hcl) hone2 hk (lc (fun j hj=>hrb j (List.mem_append_left _ hj)) hb) (fun j cs hj _=>hc2 j cs hj) ((jm fun j hj=>hrb j (List.mem_append_right _ hj)).trans hnew)
end
section
variable {P:Program} {T:TypeId->Option Ty} {n:Nat} {ops:Array Oper} {id:Nat} {draw:Bool} {K:AS->Prop} {s:AS} {k:Nat} {o:Oper} {os:List Oper} {fps:List FP}
theorem kD {f:Operand} {fid:FuncId} {args:Array Operand} {tys:Array TypeId} {ts:List TV} {b:BL} {r:RT} {b':BL} (hc:bw P fid ts b r b') (h:am P T n ops id draw K (k+1) os (s.eff o.dst ⟨r.tv,some (aw b'++dG b' b)⟩) (ar ops o ⟨r.tv,some (aw b'++dG b' b)⟩ (b.map (·.1)++b'.map (·.1))::fps)) (h1:gd ops s o=some true:=by rfl) (ho:o.op= .call ⟨.value f,args,tys⟩:=by rfl) (hcl:vn s f args.toList=some (fid,ts):=by rfl) (hone:sS s f=true:=by rfl)
    (hk:(EM (aw b) (ts.flatMap dU) && sP (aw b) (aw b))=true:=by rfl) (hb:sy s (aw b):=by first|exact⟨rfl,trivial⟩|exact⟨rfl,rfl,trivial⟩|exact trivial) (hcn:ez [] s.b=true:=by rfl) (hnew:mu s b b'=true:=by rfl) (h3:aF n o.dst=true:=by rfl) (h4:eT draw ops (ar ops o ⟨r.tv,some (aw b'++dG b' b)⟩ (b.map (·.1)++b'.map (·.1))) k fps=true:=by rfl):am P T n ops id draw K k (o::os) s fps:=gK hc h1 ho hcl hone hk hb hcn hnew h3 h4 h
theorem kZ {q:Prop} {f:Operand} {fid:FuncId} {args:Array Operand} {tys:Array TypeId} {ts:List TV} {b:BL} {r:RT} {b':BL} (hc:bw P fid ts b r b') (h:q) (h1:gd ops s o=some true:=by rfl) (ho:o.op= .call ⟨.value f,args,tys⟩:=by rfl) (hcl:vn s f args.toList=some (fid,ts):=by rfl) (hone:sS s f=true:=by rfl)
    (hk:(EM (aw b) (ts.flatMap dU) && sP (aw b) (aw b))=true:=by rfl) (hb:sy s (aw b):=by first|exact⟨rfl,trivial⟩|exact⟨rfl,rfl,trivial⟩|exact trivial) (hcn:ez [] s.b=true:=by rfl) (hnew:mu s b b'=true:=by rfl) (h3:aF n o.dst=true:=by rfl) (h4:eT draw ops (ar ops o ⟨r.tv,some (aw b'++dG b' b)⟩ (b.map (·.1)++b'.map (·.1))) k fps=true:=by rfl) (e:q->am P T n ops id draw K (k+1) os (s.eff o.dst ⟨r.tv,some (aw b'++dG b' b)⟩) (ar ops o ⟨r.tv,some (aw b'++dG b' b)⟩ (b.map (·.1)++b'.map (·.1))::fps):=by intro h;(repeat(first|refine gi rfl rfl rfl rfl ?_|refine dq rfl rfl rfl ?_|refine .done ?_|refine bG (T:=TT) ?_|refine bz (T:=TT) rfl ?_|refine eG (T:=TT) ?_|refine eZ (T:=TT) rfl ?_|refine eX (T:=TT) rfl ?_));exact h):am P T n ops id draw K k (o::os) s fps:=gK hc h1 ho hcl hone hk hb hcn hnew h3 h4 (e h)
end
section
variable {P:Program} {T:TypeId->Option Ty} {n:Nat}
theorem am.mono {ops:Array Oper} {id:Nat} {draw:Bool} {K K':AS->Prop} (hK:∀s,K s->K' s) {k:Nat} {os:List Oper} {s:AS} {fps:List FP} (h:am P T n ops id draw K k os s fps):am P T n ops id draw K' k os s fps:=by
 induction h with
 |done h=>exact .done (hK _ h)
 |run h1 h2 h3 h4 _ ih=>exact .run h1 h2 h3 h4 ih
 |skip h1 h2 h3 _ ih=>exact .skip h1 h2 h3 ih
 |app h0 h1 h2 h3 h4 h5 h6 h7 h8 h9 h10 h11 h12 h13 h14 h15 _ ih=>exact .app h0 h1 h2 h3 h4 h5 h6 h7 h8 h9 h10 h11 h12 h13 h14 h15 ih
 |snd h0 h1 h2 _ ih=>exact .snd h0 h1 h2 ih
 |snd3 h0 h1 h2 _ ih=>exact .snd3 h0 h1 h2 ih
 |alt Φ h0 h1 h2 _ ih=>exact .alt Φ h0 h1 h2 ih
theorem Gp:∀(c:Code) {Q Q':AX->AS->Prop} {s:AS},(∀e s,Q e s->Q' e s)->gk P T n c Q s->gk P T n c Q' s:=by
 intro c
 induction c with
 |skip=>intro Q Q' s hQ h;exact hQ _ _ h
 |label l=>intro Q Q' s hQ h;exact hQ _ _ h
 |region id ops draw=>intro Q Q' s hQ ⟨Φ,hw,h⟩;exact⟨Φ,hw,fun s1 h1=>⟨(h s1 h1).1,(h s1 h1).2.mono (fun s h=>hQ _ s h)⟩⟩
 |seq x y ihx ihy=>
  intro Q Q' s hQ h;refine ihx (fun e s h=>?_) h;cases e with
  |normal=>exact ihy hQ h
  |exit i=>exact hQ _ _ h
  |ret=>exact hQ _ _ h
 |cond c x y ihx ihy=>intro Q Q' s hQ ⟨t,hc,h1,h2⟩;exact⟨t,hc,fun ht=>ihx hQ (h1 ht),fun ht=>ihy hQ (h2 ht)⟩
 |block id x ih=>
  intro Q Q' s hQ h;refine ih (fun e s h=>?_) h;cases e with
  |normal=>exact hQ _ _ h
  |exit i=>
   unfold wJ at h ⊢;cases hb:Nat.beq i id
   ·simp only[hb]at h ⊢;exact hQ _ _ h
   ·simp only[hb]at h ⊢;exact hQ _ _ h
  |ret=>exact hQ _ _ h
 |loop x ih=>
  intro Q Q' s hQ ⟨α,I,σ,μ,h0,hr⟩;refine⟨α,I,σ,μ,h0,fun y hy=>ih (fun e s h=>?_) (hr y hy)⟩;cases e with
  |normal=>exact h
  |exit i=>exact hQ _ _ h
  |ret=>exact hQ _ _ h
 |scope x ih=>intro Q Q' s hQ h;exact ih hQ h
 |exit id=>intro Q Q' s hQ h;exact hQ _ _ h
 |ret=>intro Q Q' s hQ h;exact hQ _ _ h
 |goto l=>intro Q Q' s _ h;exact h
 |rangeFunc=>intro Q Q' s _ h;exact h
 |refuse=>intro Q Q' s _ h;exact h
def UL (P:Program) (T:TypeId->Option Ty) (n:Nat) (x:Code) (Q:AX->AS->Prop):Nat->AS->Prop
 |0,_=>False
 |k+1,s=>∃s1,bi s s1/\gk P T n x (Bg (UL P T n x Q k) Q) s1
theorem eR {x:Code} {Q:AX->AS->Prop} {s:AS} (k:Nat) (h:UL P T n x Q k s):gk P T n (.loop x) Q s:=by
 cases k with
 |zero=>exact h.elim
 |succ k=>
  obtain⟨s1,hw,h⟩:=h;refine⟨Nat × AS,fun y=>gk P T n x (Bg (UL P T n x Q y.1) Q) y.2,fun y=>y.2,fun y=>y.1,⟨(k,s1),h,hw⟩,fun y hy=>?_⟩;refine Gp x (fun e s h=>?_) hy;cases e with
  |normal=>
   have h:UL P T n x Q y.1 s:=h;cases hk:y.1 with
   |zero=>rw[hk]at h;exact h.elim
   |succ j=>
    rw[hk]at h;obtain⟨s2,hw2,h2⟩:=h;exact⟨(j,s2),h2,by dsimp only;omega,hw2⟩
  |exit i=>exact h
  |ret=>exact h
theorem aL {x:Code} {Q:AX->AS->Prop} {s:AS} {k:Nat} (s1:AS) (hw:bi s s1) (h:gk P T n x (Bg (UL P T n x Q k) Q) s1):UL P T n x Q (k+1) s:=⟨s1,hw,h⟩
variable {ops:Array Oper} {id:Nat} {draw:Bool} {K:AS->Prop} {s:AS} {k:Nat} {o:Oper} {os:List Oper} {fps:List FP}
theorem cK (j':Nat) {d:Nat} {x y:Operand} {t et q m1 m2:Nat} {ty te:Ty} {dead:Option Nat} {cs xs:List AV} (hT:∀t d,T t=some d->aU P t d) (hm:0<m2) (hb:(m1+m2)*te.bytes<=140737488355328) (hxs:xs.length=m2*q) (h0:draw=false) (h1:gd ops s o=some true) (ho:o.op= .call ⟨.builtin .append,#[x,y],#[t,t]⟩) (hd:o.dst=some d) (h3:aF n o.dst=true) (ht:T t=some ty) (hel:ty.elem=some (et,q)) (hte:T et=some te) (hq:te.size=q) (hq0:(Nat.ble 1 q && Nat.ble 1 te.bytes)=true)
 (hbase:fE s x m1 q et dead cs) (hy:s.ev y= .d (.leaf (.sl m2 xs))) (hnew:fB s j'=true) (hcl:(a8 te.zero && a8 xs && lX dead)=true)
 (h:am P T n ops id draw K (k+1) os ⟨(d, .own j' (m1+m2) q et)::s.t,(j',some (cs.take (m1*q)++xs))::ga dead s.b⟩ (ar ops o ⟨.junk,none⟩ []::fps)):am P T n ops id draw K k (o::os) s fps:=by
 refine .snd h0 h1 (fun S0 w0 g a w K' Q hM hK=>?_) h;rw[Bool.and_eq_true]at hq0
 have h63:m1+m2<=9223372036854775807:=by
  exact uk
 exact fD (hT _ _ ht) (hT _ _ hte) ho hd hel hq (Nat.le_of_ble_eq_true hq0.1) hbase hy hxs hm hb h63 (bg hnew) (kL hnew) (.inr hcl) hM (dH h3 d hd) hK
def r9:Option Nat->List Nat
 |some j=>[j]
 |none=>[]
theorem u5 (j':Nat) {d:Nat} {x y:Operand} {t et q m1 m2:Nat} {ty te:Ty} {dead:Option Nat} {cs xs:List AV} (hT:∀t d,T t=some d->aU P t d) (hm:0<m2) (hb:(m1+m2)*te.bytes<=140737488355328) (hxs:xs.length=m2*q) (h1:gd ops s o=some true) (ho:o.op= .call ⟨.builtin .append,#[x,y],#[t,t]⟩) (hd:o.dst=some d) (h3:aF n o.dst=true) (ht:T t=some ty) (hel:ty.elem=some (et,q)) (hte:T et=some te) (hq:te.size=q) (hq0:(Nat.ble 1 q && Nat.ble 1 te.bytes)=true)
 (hbase:fE s x m1 q et dead cs) (hy:s.ev y= .d (.leaf (.sl m2 xs))) (hnew:fB s j'=true) (hcl:(a8 te.zero && a8 xs && lX dead)=true)
 (h4:eT draw ops (ar ops o ⟨.own j' (m1+m2) q et,some ((j',some (cs.take (m1*q)++xs))::ga dead [])⟩ (j'::r9 dead)) k fps=true)
 (h:am P T n ops id draw K (k+1) os (s.eff o.dst ⟨.own j' (m1+m2) q et,some ((j',some (cs.take (m1*q)++xs))::ga dead [])⟩) (ar ops o ⟨.own j' (m1+m2) q et,some ((j',some (cs.take (m1*q)++xs))::ga dead [])⟩ (j'::r9 dead)::fps)):am P T n ops id draw K k (o::os) s fps:=by
 rw[Bool.and_eq_true]at hq0
 have h63:m1+m2<=9223372036854775807:=by
  exact uk
 refine .run h1 (.gen fun s2 ht2 hrb=>?_) h3 h4 h;have hx2:s2.ev x=s.ev x:=an ht2 (by rw[ho];simp[Op.operands,Call.operands]);have hy2:s2.ev y=s.ev y:=an ht2 (by rw[ho];simp[Op.operands,Call.operands])
 have hbase2:fE s2 x m1 q et dead cs:=by
  exact Dr
 have hnew2:fB s2 j'=true:=(dY (hrb j' (by simp))).trans hnew;intro n S0 w0 g a w K Q hM hdn hK;refine fD (hT _ _ ht) (hT _ _ hte) ho hd hel hq (Nat.le_of_ble_eq_true hq0.1) hbase2 (hy2.trans hy) hxs hm hb h63 (bg hnew2) (kL hnew2) (.inr hcl) hM (hdn d hd) fun g' a' w' hM'=>hK g' a' w' ?_
 rw[hd];cases dead<;>exact hM'
theorem MU (j':Nat) {t:TypeId} {x:Operand} {dv:DV} {d:Nat} (h1:gd ops s o=some true) (ho:o.op= .box t x) (hd:o.dst=some d) (hx:E5 (s.ev x)=some dv) (hj:ai s.b j'=none) (hrv:iJ j'=false) (htb:iU j'=false) (hB:a8 dv.cells=true) (h3:aF n o.dst=true)
 (h4:eT draw ops (ar ops o ⟨.box j' 0,some [(j',some dv.cells)]⟩ [j']) k fps=true) (h:am P T n ops id draw K (k+1) os (s.eff o.dst ⟨.box j' 0,some [(j',some dv.cells)]⟩) (ar ops o ⟨.box j' 0,some [(j',some dv.cells)]⟩ [j']::fps)):am P T n ops id draw K k (o::os) s fps:=
 .run h1 (.gen fun _ ht hrb=>tN ho hd ⟨(hrb j' (by simp)).trans hj,hrv⟩ (by rw[an ht (x:=x) (by rw[ho];simp[Op.operands])];exact hx) hB htb) h3 h4 h
end
section
variable {P:Program} {T:TypeId->Option Ty} {n:Nat} {ops:Array Oper} {id:Nat} {draw:Bool} {K:AS->Prop} {s:AS} {k:Nat} {o:Oper} {os:List Oper} {fps:List FP}
theorem m0 (hT:∀t d,T t=some d->aU P t d) {t:TypeId} {ty:Ty} {x y z:Operand} {l:List UInt8} {i j:Nat} {ik ik':IntKind} (hi:i<=j) (hj:j<=l.length) (h1:gd ops s o=some true) (h2:o.op= .slice t x (some y) (some z) none) (h5:T t=some ty) (h6:ty.isStr=true) (h7:s.ev x= .d (.leaf (.val (vL l)))) (h8:s.ev y= .d (.leaf (.val (.int ik (i:Nat))))) (h9:s.ev z= .d (.leaf (.val (.int ik' (j:Nat)))))
 (h3:aF n o.dst=true) (h4:eT draw ops (ar ops o ⟨.d (dL ((l.take j).drop i)),none⟩ []) k fps=true) (h:am P T n ops id draw K (k+1) os (s.eff o.dst ⟨.d (dL ((l.take j).drop i)),none⟩) (ar ops o ⟨.d (dL ((l.take j).drop i)),none⟩ []::fps)):am P T n ops id draw K k (o::os) s fps:=by
 refine .run h1 (.gen fun s2 ht _=>?_) h3 h4 h;have hx:=(an ht (x:=x) (by simp[h2,Op.operands])).trans h7;have hy:=(an ht (x:=y) (by simp[h2,Op.operands])).trans h8;have hz:=(an ht (x:=z) (by simp[h2,Op.operands])).trans h9;have hu:=qJ (hT _ _ h5) h6;refine af fun n S0 w0 g a w hM=>⟨vL ((l.take j).drop i),w,?_,Below.refl _ _,AV.M.val rfl⟩
 unfold execOp;rw[h2]
 have e1:(Instr.sliceAt t (.string (Bs l)) (some (.int ik i)) (some (.int ik' j)) none).run P w= .ok (vL ((l.take j).drop i)) w:=by
  refine tB ?_;rw[run_slice_string w t (Bs l) ik ik' i j hu (by omega) (by omega) (by rw[aT];omega)]
  simp only[Int.toNat_natCast]
  rw[md];rfl
 simp only[aY hM hx,aY hM hy,aY hM hz,vL,Option.map_some,Option.map_none,Sem.run_bind,e1,Result.andThen_ok]
 rfl
theorem Ml {e:re} {rb:List Nat} {s2:AS} (hT:∀t d,T t=some d->aU P t d) (h0:draw=false) (h1:gd ops s o=some true) (h2:eK T (id*1000+k) s o=some (e,rb)) (h3:aF n o.dst=true) (hw:bi (s.eff o.dst e) s2)
 (h:am P T n ops id draw K (k+1) os s2 (ar ops o ⟨.junk,none⟩ []::fps)):am P T n ops id draw K k (o::os) s fps:=
 .snd h0 h1 (fun S0 w0 g a w K' Q hM hK=>l6 hT (.op h2) n S0 w0 g a w _ Q hM (dH h3) fun g' a' w' hM'=>by
  obtain⟨g2,hM2⟩:=hw _ _ _ _ _ ⟨g',hM'⟩;exact hK g2 a' w' hM2) h
end
abbrev Tk:=Nat × List UInt8 × Nat
def Mf (t:Tk):List AV:=[.val (.int .i64 t.1), .val (vL t.2.1), .val (.int .i64 t.2.2)]
def iB:List Tk->List AV
 | []=>[]
 |t::r=>Mf t++iB r
theorem mR (a:List Tk):(iB a).length=a.length*3:=by
 induction a with
 |nil=>rfl
 |cons t r ih=>simp[iB,Mf,ih];omega
def Lm:Nat->List UInt8->Nat->List Tk->Except (Nat × Int) (List Tk)
 |0,_,_,_=> .error (0,0)
 |_+1,[],at_,acc=> .ok (acc++[(0,[],at_)])
 |f+1,c::r,at_,acc=>if c=32∨c=9 then Lm f r (at_+1) acc
  else if(Pt (c::r)).2=0 then .error (at_,2)
  else if(Pt (c::r)).1=1/\24<(Pt (c::r)).2 then .error (at_,3)
  else Lm f ((c::r).drop (Pt (c::r)).2) (at_+(Pt (c::r)).2) (acc++[((Pt (c::r)).1,(c::r).take (Pt (c::r)).2,at_)])
def yJ:Except (Nat × Int) (List Tk)->RV
 | .ok l=> .tup [.leaf (.sl l.length (iB l)),dN .i64 0,dN .i64 0]
 | .error (a,e)=> .tup [.leaf (.sl 0 []),dN .i64 a,dN .i64 e]
theorem lL {p:UInt8->Bool} {s:List UInt8} {i j:Nat} (hij:i<=j) (hj:j<=s.length) (hq:∀(q:Nat) c,i<=q->q<j->s[q]? =some c->p c=true) (he:j=s.length∨ ∃c,s[j]? =some c/\p c=false):i+di p (s.drop i)=j:=by
 have h1:di p (s.drop i)=j-i:=by
  refine m9 (fun q c h1 h2=>?_) ?_
  ·rw[List.getElem?_drop]at h2
   exact hq (i+q) c (by omega) (by omega) h2
  ·rcases he with he| ⟨c,h1,h2⟩
   ·exact .inl ⟨List.getElem?_eq_none (by rw[List.length_drop];omega),by rw[List.length_drop];omega⟩
   ·exact .inr ⟨c,by rw[List.getElem?_drop,show i+(j-i)=j by omega];exact h1,h2⟩
 omega
theorem lE (s:List UInt8) (i:Nat) (hi:i<=s.length) (hl:s.length<=4611686018427387904):aa Tryz.prog 274 [dL s,dN .i64 i] (.one (dN .i64 ((i+di eF (s.drop i):Nat)))):=by
 have hB:=aT s;generalize hR:i+di eF (s.drop i)=R;refine kV func274 ?_
 refine ay Nat (fun j=>i<=j/\j<=s.length/\ ∀(q:Nat) c,i<=q->q<j->s[q]? =some c->eF c=true) (fun j=>⟨[(0, .d (dL s)),(1, .d (dN .i64 j)),(4, .d (dN .i64 0))],[]⟩) (fun j=>s.length-j) i ⟨Nat.le_refl _,hi,fun q c h1 h2=>by omega⟩
  kw ?_
 rintro j ⟨h1,h2,hq⟩;refine kI ?_
 refine kO3 ?_
 by_cases hlt:j<s.length
 ·have hx:s[j]? =some s[j]:=by simp[hlt]
  have hc:=nH s[j];refine kT ?_
  refine kO3 ?_
  refine LK ?_;cases hb:eF s[j]
  ·rw[hb]at hc
   refine kQ (hc) ?_;rw[<- hR,lL h1 h2 hq (.inr ⟨_,hx,hb⟩)];exact de (T:=TT) rfl rfl
  ·rw[hb]at hc
   refine kQ (hc) ?_
   exact⟨j+1,⟨by omega,hlt,fun q c h3 h4 h5=>by
    by_cases e:q=j
    ·subst e;rw[hx]at h5;cases h5;exact hb
    ·exact hq q c h3 (by omega) h5⟩,by omega,weak ⟨rfl,ak (by omega) (by omega),rfl,trivial⟩ trivial rfl⟩
 ·exact MH
def yD (s:List UInt8):Nat:=match s with
 | []=>0
 |c::_=>if eH c then di jy s else 0
theorem cU (s:List UInt8) (i:Nat) (hi:i<=s.length) (hl:s.length<=4611686018427387904):aa Tryz.prog 116 [dL s,dN .i64 i] (.one (dN .i64 ((i+yD (s.drop i):Nat)))):=by
 have hB:=aT s
 by_cases hend:i=s.length
 ·rw[List.drop_eq_nil_of_le (by omega)]
  refine kU func116 ?_;refine kR ?_;refine OW ?_;exact aD
 have hlt0:i<s.length:=by omega
 have hx0:s[i]? =some s[i]:=by simp
 have hdrop:=List.drop_eq_getElem_cons hlt0;have hc0:=lr s[i];cases hb0:eH s[i]
 ·rw[hb0]at hc0
  have hw:yD (s.drop i)=0:=by rw[hdrop];simp[yD,hb0]
  rw[hw,Nat.add_zero];refine Mp ?_;exact aD
 ·rw[hb0]at hc0
  have hw:yD (s.drop i)=di jy (s.drop i):=by rw[hdrop];simp[yD,hb0]
  rw[hw];generalize hR:i+di jy (s.drop i)=R;refine Mp ?_;refine kW ?_
  refine ay Nat (fun j=>i<=j/\j<=s.length/\ ∀(q:Nat) c,i<=q->q<j->s[q]? =some c->jy c=true) (fun j=>⟨[(0, .d (dL s)),(1, .d (dN .i64 j)),(4, .d (dN .i64 0))],[]⟩) (fun j=>s.length-j) i ⟨Nat.le_refl _,hi,fun q c h1 h2=>by omega⟩
   kw ?_
  rintro j ⟨h1,h2,hq⟩;refine kI ?_
  refine kO3 ?_
  by_cases hlt:j<s.length
  ·have hx:s[j]? =some s[j]:=by simp[hlt]
   have hcl:=lr s[j];have hcd:=nH s[j]
   have hnext:jy s[j]=true-> ∀(q:Nat) c,i<=q->q<j+1->s[q]? =some c->jy c=true:=fun hv q c h3 h4 h5=>by
    by_cases e:q=j
    ·subst e;rw[hx]at h5;cases h5;exact hv
    ·exact hq q c h3 (by omega) h5
   refine kT ?_
   refine kO3 ?_
   refine LK ?_;cases hbl:eH s[j]
   ·rw[hbl]at hcl
    refine kC (hcl) ?_
    refine kO3 ?_
    refine LK ?_;cases hbd:eF s[j]
    ·rw[hbd]at hcd
     refine kC (hcd) ?_
     refine kO4 ?_
     refine LK ?_
     by_cases h95:s[j].toNat=95
     ·refine kT ?_
      refine kW ?_;exact⟨j+1,⟨by omega,hlt,hnext (by simp[jy,h95])⟩,by omega,weak ⟨rfl,ak (by omega) (by omega),rfl,trivial⟩ trivial rfl⟩
     ·refine kE ?_
      refine kW ?_;rw[<- hR,lL h1 h2 hq (.inr ⟨_,hx,by simp[jy,hbl,hbd,h95]⟩)];exact de (T:=TT) rfl rfl
    ·rw[hbd]at hcd
     refine kQ (hcd) ?_;exact⟨j+1,⟨by omega,hlt,hnext (by simp[jy,hbd])⟩,by omega,weak ⟨rfl,ak (by omega) (by omega),rfl,trivial⟩ trivial rfl⟩
   ·rw[hbl]at hcl
    refine kQ (hcl) ?_;exact⟨j+1,⟨by omega,hlt,hnext (by simp[jy,hbl])⟩,by omega,weak ⟨rfl,ak (by omega) (by omega),rfl,trivial⟩ trivial rfl⟩
  ·exact MH
theorem eL (s:List UInt8) (i:Nat) (hi:i<=s.length) (hl:s.length<=4611686018427387903) {r:Nat} (hr:r=i+if 0<di eF (s.drop i)then ON (s.drop i)else 0):aa Tryz.prog 235 [dL s,dN .i64 i] (.one (dN .i64 r)):=by
 have hB:=aT s;have c1:=lE s i hi (by omega);have hn:=xv eF (s.drop i);rw[List.length_drop]at hn;unfold ON at hr;rw[List.getElem?_drop,List.drop_drop]at hr;generalize di eF (s.drop i)=n at *
 by_cases h0:0<n
 ·rw[if_pos h0]at hr
  by_cases h1:i+n<s.length
  ·have hx:s[i+n]? =some s[i+n]:=by simp[h1]
   by_cases h2:s[i+n]=46
   ·have e2:s[i+n].toNat=46:=by rw[h2];rfl
    have hx2:s[i+n]? =some 46:=by rw[hx,h2]
    have c2:=lE s (i+n+1) (by omega) (by omega);have hm:=xv eF (s.drop (i+n+1));rw[List.length_drop]at hm;rw[show i+(n+1)=i+n+1 by omega]at hr;generalize di eF (s.drop (i+n+1))=m at *
    by_cases h3:0<m
    ·rw[if_pos ⟨hx2,h3⟩]at hr
     obtain rfl:r=i+n+1+m:=by omega
     refine MQ ?_;refine kT ?_;refine kG ?_
     refine kO2 ?_
     refine kJ ((i+n+1:Nat)) ?_;refine kC (c2) ?_;exact aD
    ·rw[if_neg (fun h=>h3 h.2)]at hr
     subst hr;refine MQ ?_;refine kE ?_;exact aD
   ·have e2:¬s[i+n].toNat=46:=Ft h2
    rw[if_neg (fun h=>by rw[hx]at h;exact h2 (Option.some.inj h.1))]at hr;subst hr;refine sZ ?_;refine kE ?_;exact aD
  ·rw[if_neg (fun h=>by rw[List.getElem?_eq_none (by omega)]at h;cases h.1)]at hr
   subst hr;refine Ly ?_;refine kT ?_
   refine kO4 ?_
   refine kE ?_;exact aD
 ·rw[if_neg h0]at hr
  obtain rfl:n=0:=by omega
  subst hr;refine Ly ?_;refine kE ?_;exact aD
theorem GM:∀(l:List UInt8) (c:UInt8),0<=Lib.indexByte l c↔c∈l
 | [],c=>by simp[Lib.indexByte]
 |b::l,c=>by
  have ih:=GM l c;have hge:=Lib.indexByte_ge l c
  simp only[Lib.indexByte]
  by_cases h:b=c
  ·subst h
   simp
  ·have hb:(b == c)=false:=by simpa using h
   have h':¬c=b:=fun e=>h e.symm
   rw[hb]
   simp only[Bool.false_eq_true,if_false,List.mem_cons,h',false_or]
   rw[<- ih]
   by_cases h1:Lib.indexByte l c= -1
   ·simp[h1]
   ·have h2:(Lib.indexByte l c == -1)=false:=by simpa using h1
    rw[h2]
    simp only[Bool.false_eq_true,if_false]
    omega
theorem FF (c:UInt8):O6 c=decide (c∈r7):=decide_eq_decide.2 (GM r7 c)
theorem lA (c:UInt8):aa Tryz.prog 237 [dN .u8 c.toNat] (.one (dB (O6 c))):=by
 rw[FF];have hlen:r7.length=19:=rfl;refine kV func237 ?_
 refine ay Nat (fun i=>i<=19/\ ∀(q:Nat) d,q<i->r7[q]? =some d->d≠c) (fun i=>⟨[(0, .d (dN .u8 c.toNat)),(2, .d (dB false)),(3, .d (dN .i64 i))],[]⟩) (fun i=>19-i) 0 ⟨Nat.zero_le _,fun q d h=>absurd h (Nat.not_lt_zero _)⟩
  kw ?_
 rintro i ⟨hi,hq⟩;refine kI ?_;refine kO ?_
 by_cases hlt:i<19
 ·have hx:r7[i]? =some (r7[i]'(by omega)):=by simp
  refine Exists.elim (Exists.intro _ hx:∃d,r7[i]? =some d) fun d hd=>?_
  refine kT ?_;refine kG ?_;refine kO ?_;refine bQ ac (l:=r7) (i:=i) (c:=d) hd rfl rfl rfl rfl rfl rfl rfl rfl ?_;refine kO ?_
  by_cases he:d=c
  ·have e1:d.toNat=c.toNat:=by rw[he]
   refine kT ?_;rw[show decide (c∈r7)=true from decide_eq_true (by rw[<- he];exact List.mem_of_getElem? hd)];exact aD
  ·have e1:¬d.toNat=c.toNat:=Ft he
   refine kY ?_
   exact⟨i+1,⟨hlt,fun q d' h1 h2=>by
    by_cases e:q=i
    ·subst e;rw[hd]at h2;cases h2;exact he
    ·exact hq q d' (by omega) h2⟩,by omega,weak ⟨rfl,rfl,ak (by omega) (by omega),trivial⟩ trivial rfl⟩
 ·refine kE ?_
  rw[show decide (c∈r7)=false from decide_eq_false (fun hm=>by
   obtain⟨q,h⟩:=List.getElem?_of_mem hm;have h1:=(List.getElem?_eq_some_iff.1 h).1;exact hq q c (by omega) h rfl)]
  exact aD
def mh (s:List UInt8):Bool:=match s with
 | []=>false
 |c::_=>decide (s.length<=24) && (eH c && decide (di jy s=s.length))
theorem jE (s:List UInt8) (hl:s.length<=4611686018427387903):aa Tryz.prog 58 [dL s] (.one (dB (mh s))):=by
 have hB:=aT s;cases hs:s with
 |nil=>
  refine kU func58 ?_;exact Tt
 |cons c r=>
  have hn:mh s=(decide (s.length<=24) && (eH c && decide (di jy s=s.length))):=by rw[hs];rfl
  have hne:s≠[]:=by rw[hs];simp
  have h0:s[0]? =some c:=by rw[hs];rfl
  have c1:=lq c;have c2:=Ey x6 s (by omega);rw[<- hs,hn];generalize di jy s=n at *
  by_cases h24:s.length<=24
  ·rw[decide_eq_true h24,Bool.true_and]
   cases hb:eH c
   ·rw[hb]at c1
    refine kU func58 ?_;refine iD ?_;refine yf ?_;refine ze ?_;exact aD
   ·rw[hb]at c1
    by_cases he:n=s.length
    ·rw[decide_eq_true he]
     refine kU func58 ?_;refine iD ?_;refine yf ?_;refine ze ?_;refine CI ?_;refine kT ?_;exact aD
    ·rw[decide_eq_false he]
     refine kU func58 ?_;refine iD ?_;refine yf ?_;refine ze ?_;refine CI ?_;refine kE ?_;exact aD
  ·rw[decide_eq_false h24,Bool.false_and]
   refine kU func58 ?_;refine iD ?_;refine yf ?_;refine kE ?_;exact aD
theorem lC (s:List UInt8) (hl:s.length<=4611686018427387903):aa Tryz.prog 61 [dL s] (.one (dB (mh s))):=by
 have hB:=aT s;cases hs:s with
 |nil=>
  refine kU func61 ?_;exact Tt
 |cons c r=>
  have hn:mh s=(decide (s.length<=24) && decide (yD s=s.length)):=by
   rw[hs];show(decide ((c::r).length<=24) && (eH c && decide (di jy (c::r)=(c::r).length)))=(decide ((c::r).length<=24) && decide ((if eH c=true then di jy (c::r)else 0)=(c::r).length));cases eH c<;>simp
  have hne:s≠[]:=by rw[hs];simp
  have c2:aa Tryz.prog 116 [dL s,dN .i64 0] (.one (dN .i64 (yD s:Nat))):=by
   have:=cU s 0 (Nat.zero_le _) (by omega)
   rwa[List.drop_zero,Nat.zero_add]at this
  rw[<- hs,hn];generalize yD s=n at *
  by_cases h24:s.length<=24
  ·rw[decide_eq_true h24,Bool.true_and]
   by_cases he:n=s.length
   ·rw[decide_eq_true he]
    refine kU func61 ?_;refine iD ?_;refine yf ?_;refine kT ?_;refine CI ?_;refine kT ?_;exact aD
   ·rw[decide_eq_false he]
    refine kU func61 ?_;refine iD ?_;refine yf ?_;refine kT ?_;refine CI ?_;refine kE ?_;exact aD
  ·rw[decide_eq_false h24,Bool.false_and]
   refine kU func61 ?_;refine iD ?_;refine yf ?_;refine kE ?_;exact aD
section
variable {P:Program} {T:TypeId->Option Ty} {n:Nat} {ops:Array Oper} {id:Nat} {draw:Bool} {K:AS->Prop} {s:AS} {k:Nat} {o:Oper} {os:List Oper} {fps:List FP}
theorem qR (j':Nat) {d t et q:Nat} {ty:Ty} (hT:∀t d,T t=some d->aU P t d) (h0:draw=false) (h1:gd ops s o=some true) (ho:o.op= .buildSlice t 0 #[]) (hd:o.dst=some d) (h3:aF n o.dst=true) (ht:T t=some ty) (hel:ty.elem=some (et,q)) (hnew:fB s j'=true)
 (h:am P T n ops id draw K (k+1) os ⟨(d, .own j' 0 q et)::s.t,(j',some [])::s.b⟩ (ar ops o ⟨.junk,none⟩ []::fps)):am P T n ops id draw K k (o::os) s fps:=by
 refine .snd h0 h1 (fun S0 w0 g a w K' Q hM hK=>?_) h;obtain⟨u,hu,_,hel',_⟩:=(hT _ _ ht).und;obtain⟨rfl,hks⟩:=hel' et q hel
 have hr:(execOp a.eval o).run P w= .ok (.value (.slice (some ⟨w.heap.size,0,none⟩) 0 0)) (w.alloc (.cells #[] et)):=by
  unfold execOp;rw[ho]
  simp only[Instr.buildSlice,Sem.run_bind,run_underlying hu w,Result.andThen_ok,bB hks w]
  rw[if_neg (by omega),if_pos (by omega)]
  simp[Instr.fill,show Array.range 0= #[] from by decide]
  rfl
 unfold Oper.wp;rw[hr];show K' (a.put o.dst _) _;rw[hd];refine hK _ _ _ (hM.alloc (dH h3 d hd) (bg hnew).1 (bg hnew).2 ⟨Nat.le_refl _,fun i a v h=>by simp at h⟩ (fun _ v h=>by simp at h) (fun a h=>by cases h) (fun h=>by rw[jp hnew]at h;cases h) fun g' s' hg hb=>?_);refine⟨AS.kn_of hb,fun cs hc=>⟨0,by rw[hg],Nat.le_refl _,by decide,by simp,#[],?_,by simp⟩⟩;rw[hg];exact heap_alloc_new w _
end
end Go.Proofs.YtmkggcjajcdlcaaGreatDoor
