/- Parts of a proof: contracts of the functions that the laws reach. -/
import Derived.Test.YtikbnnljjeefgaaGreatDoorWAm
import Derived.Test.YtikbnnljjeefgaaGreatDoorWZ1
set_option maxHeartbeats 100000000
set_option linter.all false
open Go.Proofs.Tryz
namespace Go.Proofs.YtikbnnljjeefgaaGreatDoor
open Go.RowKit
inductive RT where
 |v (r:RV)
 |own (j n k e:Nat)
def RT.tv:RT→TV
 | .v r=>r.tv
 | .own j n k e=> .own j n k e
abbrev BL:=List (Nat × List AV)
def aF:BL→List (Nat × Option (List AV))
 | []=>[]
 |(j,cs)::r=>(j,some cs)::aF r
def sB (b:BL):AS:=⟨[],aF b⟩
def rE:Nat→List TV→List (Nat × TV)
 |_,[]=>[]
 |k,d::r=>(k,d)::rE (k+1) r
def nQ (S:Nat→Prop) (g:Nat→Nat) (s:AS) (w:World):List TV→List Value→Prop
 | [],[]=>True
 |x::xs,v::vs=>TV.M S g s w x v∧nQ S g s w xs vs
 |_,_=>False
def BX (g:Nat→Nat) (b:BL) (q:Nat):Prop:=∃j cs,(sB b).bx j=some cs∧g j=q
structure Fa (S:Nat→Prop) (g:Nat→Nat) (w:World) (b:BL):Prop where
 tab:∀w',cS (BX g b) w w'→CX w'
 blk:∀q,S q→q<w.heap.size∧ ¬BX g b q∧ ∀off v,w.cell? ⟨q,off,none⟩=some v→iS v=true
 gl:∀k cs,ak GT k=some cs→TV.M (Own S g (sB b)) g (sB b) w (.rp cs) (.pointer (some ⟨k,0,none⟩))
 bm:∀j cs,(sB b).bx j=some cs→mh (Own S g (sB b)) g (sB b) w j cs (g j)
 inj:∀i j ci cj,(sB b).bx i=some ci→(sB b).bx j=some cj→g i=g j→i=j
def uA (S:Nat→Prop) (g:Nat→Nat) (b:BL) (r:RT) (b':BL) (w:World) (e:Ending) (w':World):Prop:=
 ∃v g',e= .returned v∧(∀j cs cs',(sB b).bx j=some cs→(sB b').bx j=some cs'→g' j=g j∧cs.length≤cs'.length) ∧
  (∀j cs',(sB b').bx j=some cs'→(w.heap.size≤g' j∨BX g b (g' j))∧mh (Own S g' (sB b')) g' (sB b') w' j cs' (g' j)) ∧
  (∀i j ci cj,(sB b').bx i=some ci→(sB b').bx j=some cj→g' i=g' j→i=j)∧TV.M (Own S g' (sB b')) g' (sB b') w' r.tv v∧cS (BX g b) w w'
structure az (P:Program) (f:FuncId) (ts:List TV) (b:BL) (r:RT) (b':BL):Prop where
 enter:∀args w,(callFunc f args).run P w= .ok (.enter f args) w
 calls:∀S g w vs,Fa S g w b→nQ (Own S g (sB b)) g (sB b) w ts vs→Calls P f vs.toArray w (uA S g b r b' w)
section
variable {n:Nat} {S0:Nat→Prop} {w0:fN} {g:Nat→Nat} {s:AS} {a:Act} {w w':World}
theorem fZ:∀(b:BL) (j:Nat),ak (aF b) j=none∨ ∃cs,ak (aF b) j=some (some cs)
 | [],_=> .inl rfl
 |(i,cs)::r,j=>by
  by_cases e:i=j
  ·subst e;exact .inr ⟨cs,am _ _ _⟩
  ·simp only[aF,aD _ _ e];exact fZ r j
theorem dy {b:BL} {j:Nat} {cs:List AV}:(sB b).bx j=some cs↔ak (aF b) j=some (some cs):=by
 unfold sB AS.bx
 constructor
 ·intro h;split at h
  ·rename_i x hx;cases h;exact hx
  ·cases h
 ·intro h;simp only[h]
theorem vN {α:Type} (x y:List (Nat × α)) (j:Nat):ak (x++y) j=match ak x j with|some v=>some v|none=>ak y j:=q7 x y j
def FW:Option Nat→TV→List (Nat × TV)→List (Nat × TV)
 |some d,x,t=>(d,x)::t
 |none,_,t=>t
def eI (b':BL):BL→List (Nat × Option (List AV))
 | []=>[]
 |(j,_)::r=>match ak (aF b') j with
  |some _=>eI b' r
  |none=>(j,none)::eI b' r
theorem lU {b':BL}:∀{b:BL} {j:Nat} {cs:List AV},ak (aF b) j=some (some cs)→ak (aF b') j=none→ak (eI b' b) j=some none
 | [],_,_,h,_=>by cases h
 |(i,c)::r,j,cs,h,h'=>by
  simp only[eI]
  by_cases e:i=j
  ·subst e
   rw[h'];exact am _ _ _
  ·simp only[aF,aD _ _ e]at h
   split
   ·exact lU h h'
   ·rw[aD _ _ e];exact lU h h'
theorem jB {b':BL}:∀{b:BL} {j:Nat},ak (aF b) j=none→ak (eI b' b) j=none
 | [],_,_=>rfl
 |(i,c)::r,j,h=>by
  by_cases e:i=j
  ·subst e;simp only[aF,am]at h;cases h
  ·simp only[aF,aD _ _ e]at h
   simp only[eI]
   split
   ·exact jB h
   ·rw[aD _ _ e];exact jB h
theorem TV.M.sub {S:Nat→Prop} {s s':AS} {x:TV} {v:Value} (h:TV.M S g s w x v) (hk:∀j∈fh x,s'.kn j) (hb:∀j cs,s'.bx j=some cs→s.bx j=some cs):TV.M S g s' w x v:=by
 cases x with
 |d x=>exact h
 |tup ts=>exact h
 |box j o=>exact⟨hk j (by simp[fh]),fun cs hc=>h.2 cs (hb j cs hc)⟩
 |rp cs=>exact h
 |own j n k e0=>exact⟨hk j (by simp[fh]),fun cs hc=>h.2 cs (hb j cs hc)⟩
 |clo fn fs cs=>obtain⟨us,vs,e,h1,h2⟩:=h;exact⟨us,vs,e,h1.weak hb (fun j hj=>hk j (by simp[fh,hj])),h2.weak hb (fun j hj=>hk j (by simp[fh,hj]))⟩
 |mp es=>exact h
 |nil=>exact h
 |und=>exact h
 |junk=>trivial
 |dfr=>trivial
 |vw j o n k=>exact⟨hk j (by simp[fh]),fun cs hc=>h.2 cs (hb j cs hc)⟩
theorem MG.callT (h:MG n S0 w0 g s a w) {b b':BL} (hb:rR s (aF b)) (hwfc:tM (aF b) (aF b)=true) (hcl:∀j cs,s.bx j=some cs→j ∉ b.map (·.1)→dp j=false)
 (hnew:∀j cs,(sB b').bx j=some cs→ak (aF b) j=none→ak s.b j=none∧jW j=false):
 ∃S,Fa S g w b∧Own S g (sB b)=Own S0 g s∧ ∀(r:RT) (v:Value) (g':Nat→Nat) (w':World),
  (∀j cs cs',(sB b).bx j=some cs→(sB b').bx j=some cs'→g' j=g j∧cs.length≤cs'.length) →
  (∀j cs',(sB b').bx j=some cs'→(w.heap.size≤g' j∨BX g b (g' j))∧mh (Own S g' (sB b')) g' (sB b') w' j cs' (g' j)) →
  (∀i j ci cj,(sB b').bx i=some ci→(sB b').bx j=some cj→g' i=g' j→i=j)→TV.M (Own S g' (sB b')) g' (sB b') w' r.tv v→cS (BX g b) w w' →
  ∀(dst:Option Nat),(∀d,dst=some d→d<n) →
  ∃g2,MG n S0 w0 g2 ⟨FW dst r.tv s.t,aF b'++eI b' b++s.b⟩ (a.put dst v) w':=by
 have inb:∀j cs,(sB b).bx j=some cs→s.bx j=some cs:=fun j cs hj=>hb.at (dy.1 hj)
 have bxown:∀q,BX g b q→Own S0 g s q:=fun q ⟨j,cs,hj,e⟩=> .inr ⟨j,cs,inb j cs hj,e⟩
 have s0no:∀q,S0 q→ ¬BX g b q:=fun q hq ⟨j,cs,hj,e⟩=>by
  have h1:=h.cl q hq;rcases(h.bm j cs (inb j cs hj)).1 with h2|h2
  ·rw[e]at h2;exact absurd h1.1 (Nat.not_lt.2 h2)
  ·rw[e]at h2;exact h1.2.1 h2
 have notin:∀i ci,s.bx i=some ci→ak (aF b) i=none→ ¬BX g b (g i):=fun i ci hi hn ⟨j,cs,hj,e⟩=>by
  have:=h.inj j i cs ci (inb j cs hj) hi e;subst this;rw[dy.1 hj]at hn;cases hn
 refine⟨fun q=>Own S0 g s q∧ ¬BX g b q,?_,?_,?_⟩
 ·refine⟨fun w' hw=>h.tg w' (h.grow.go hw (fun q ⟨j,cs,hj,e⟩=>by rw[← e];exact(h.bm j cs (inb j cs hj)).1)),fun q hq=>⟨h.own_lt hq.1,hq.2,?_⟩,fun k cs hk=>?_,fun j cs hj=>?_,fun i j ci cj hi hj e=>h.inj i j ci cj (inb i ci hi) (inb j cj hj) e⟩
  ·intro off v hv
   rcases hq.1 with hs| ⟨j,cs,hj,e⟩
   ·obtain⟨h1,hx,h2⟩:=h.cl q hs
    exact h2 off v (by rw[show w.cell? ⟨q,off,none⟩=w0.w.cell? ⟨q,off,none⟩ from World.cell?_of_block (h.grow.block q h1 hx)]at hv;exact hv)
   ·subst e
    have hjn:j ∉ b.map (·.1):=fun hm=>by
     have:∀(b:BL),j∈b.map (·.1)→ ∃cs,ak (aF b) j=some (some cs):=by
      intro b
      induction b with
      |nil=>intro hm;cases hm
      |cons p r ih=>
       obtain⟨i,c⟩:=p;intro hm
       by_cases e:i=j
       ·subst e;exact⟨c,am _ _ _⟩
       ·obtain⟨c',hc'⟩:=ih (by simpa[show ¬j=i from fun e'=>e e'.symm]using hm)
        exact⟨c',by simp only[aF,aD _ _ e];exact hc'⟩
     obtain⟨c,hc⟩:=this b hm;exact hq.2 ⟨j,c,dy.2 hc,rfl⟩
    have hwb:dp j=false:=hcl j cs hj hjn;obtain⟨_,arr,e1,h1,_,h3,_⟩:=h.bm j cs hj
    simp only[World.cell?,h1,Option.isSome_none,Bool.false_eq_true,if_false]at hv
    exact h3 hwb v (Array.mem_toList_iff.2 (Array.mem_of_getElem? hv))
  ·have e:Own (fun q=>Own S0 g s q∧ ¬BX g b q) g (sB b)=Own S0 g s:=by
    funext q
    apply propext
    constructor
    ·rintro(h1|h1)
     ·exact h1.1
     ·exact bxown q h1
    ·intro h1
     by_cases h2:BX g b q
     ·exact .inr h2
     ·exact .inl ⟨h1,h2⟩
   rw[e];exact h.gl k cs hk
  ·have e:Own (fun q=>Own S0 g s q∧ ¬BX g b q) g (sB b)=Own S0 g s:=by
    funext q
    apply propext
    constructor
    ·rintro(h1|h1)
     ·exact h1.1
     ·exact bxown q h1
    ·intro h1
     by_cases h2:BX g b q
     ·exact .inr h2
     ·exact .inl ⟨h1,h2⟩
   rw[e];obtain⟨_,arr,e1,p1,p2,p3,p4,p5⟩:=h.bm j cs (inb j cs hj);exact⟨arr,e1,p1,p2,p3,fun hl i a v ha hv=>(p4 hl i a v ha hv).sub (fun q hq=>tM.at hwfc (dy.1 hj) hl q (nh ha q hq)) inb,p5⟩
 ·funext q
  apply propext
  constructor
  ·rintro(h1|h1)
   ·exact h1.1
   ·exact bxown q h1
  ·intro h1
   by_cases h2:BX g b q
   ·exact .inr h2
   ·exact .inl ⟨h1,h2⟩
 ·intro r v g' w' hkeep hbm hinj hres hbx dst hdst
  generalize hs2:(AS.mk (FW dst r.tv s.t) (aF b'++eI b' b++s.b))=s2;have hb2:s2.b=aF b'++(eI b' b++s.b):=by rw[← hs2,List.append_assoc]
  have lk:∀i,ak s2.b i=match ak (aF b') i with|some v=>some v|none=>(match ak (eI b' b) i with|some v=>some v|none=>ak s.b i):=fun i=>by
   rw[hb2,vN,vN];cases ak (aF b') i<;>cases ak (eI b' b) i<;>rfl
  have al:∀i ci,s2.bx i=some ci→(sB b').bx i=some ci∨((sB b').bx i=none∧ak (aF b') i=none∧ak (aF b) i=none∧s.bx i=some ci):=by
   intro i ci hi;unfold AS.bx at hi;rw[lk i]at hi;rcases fZ b' i with h1| ⟨cs,h1⟩
   ·right
    simp only[h1]at hi
    rcases fZ b i with h2| ⟨cs,h2⟩
    ·rw[jB h2]at hi
     refine⟨?_,h1,h2,?_⟩
     ·unfold sB AS.bx;simp only[h1]
     ·unfold AS.bx;exact hi
    ·rw[lU h2 h1]at hi
     cases hi
   ·left
    simp only[h1]at hi
    cases hi;exact dy.2 h1
  have la:∀i ci,(sB b').bx i=some ci→s2.bx i=some ci:=by
   intro i ci hi;unfold AS.bx;rw[lk i,dy.1 hi]
  have lo:∀i ci,s.bx i=some ci→ak (aF b') i=none→ak (aF b) i=none→s2.bx i=some ci:=by
   intro i ci hi h1 h2;unfold AS.bx;rw[lk i,h1,jB h2];exact hi
  generalize hg2:(fun i=>match ak (aF b') i with|some _=>g' i|none=>g i)=g2;have g2n:∀i ci,(sB b').bx i=some ci→g2 i=g' i:=fun i ci hi=>by rw[← hg2];simp only[dy.1 hi]
  have g2o:∀i,ak (aF b') i=none→g2 i=g i:=fun i hi=>by rw[← hg2];simp only[hi]
  have old:∀i ci,(sB b').bx i=some ci→s.kn i→ ∃cs,(sB b).bx i=some cs:=by
   intro i ci hi hk;rcases fZ b i with h1| ⟨cs,h1⟩
   ·obtain⟨x,hx⟩:=hk
    rw[(hnew i ci hi h1).1]at hx;cases hx
   ·exact⟨cs,dy.2 h1⟩
  have eO:Own S0 g2 s2=Own (fun q=>Own S0 g s q∧ ¬BX g b q) g' (sB b'):=by
   funext q
   apply propext
   constructor
   ·rintro(h1| ⟨i,ci,hi,e⟩)
    ·exact .inl ⟨.inl h1,s0no q h1⟩
    ·rcases al i ci hi with h1| ⟨h1,h2,h3,h4⟩
     ·exact .inr ⟨i,ci,h1,by rw[← g2n i ci h1];exact e⟩
     ·rw[g2o i h2]at e
      subst e;exact .inl ⟨.inr ⟨i,ci,h4,rfl⟩,notin i ci h4 h3⟩
   ·rintro(⟨h1| ⟨i,ci,hi,e⟩,h2⟩| ⟨i,ci,hi,e⟩)
    ·exact .inl h1
    ·have hbn:ak (aF b) i=none:=by
      rcases fZ b i with h3| ⟨cs,h3⟩
      ·exact h3
      ·exact absurd ⟨i,cs,dy.2 h3,e⟩ h2
     have hbn':ak (aF b') i=none:=by
      rcases fZ b' i with h3| ⟨cs,h3⟩
      ·exact h3
      ·obtain⟨x,hx⟩:=AS.kn_of hi
       rw[(hnew i cs (dy.2 h3) hbn).1]at hx;cases hx
     exact .inr ⟨i,ci,lo i ci hi hbn' hbn,by rw[g2o i hbn'];exact e⟩
    ·exact .inr ⟨i,ci,la i ci hi,by rw[g2n i ci hi];exact e⟩
  have hA:ce (Own S0 g s) w w':=⟨hbx.size,fun q hq hn=>hbx.block q hq (fun hx=>hn (bxown q hx))⟩
  have hS:∀q,q<w.heap.size→Own S0 g2 s2 q→Own S0 g s q:=by
   intro q hq h1;rw[eO]at h1;rcases h1 with h1| ⟨i,ci,hi,e⟩
   ·exact h1.1
   ·rcases(hbm i ci hi).1 with h2|h2
    ·omega
    ·rw[e]at h2;exact bxown q h2
  have hF:jc s s2 g g2 w w':=by
   refine⟨fun j hj=>?_,fun j cs2 hk hj=>?_⟩
   ·obtain⟨x,hx⟩:=hj
    unfold AS.kn;rw[lk j]
    split
    ·exact⟨_,rfl⟩
    ·split
     ·exact⟨_,rfl⟩
     ·exact⟨x,hx⟩
   ·rcases al j cs2 hj with h1| ⟨h1,h2,h3,h4⟩
    ·obtain⟨cs,hcs⟩:=old j cs2 h1 hk
     obtain⟨h5,h6⟩:=hkeep j cs cs2 hcs h1;refine⟨cs,inb j cs hcs,h6,by rw[g2n j cs2 h1,h5],fun arr e he=>?_⟩;obtain⟨a2,f2,k1,k2⟩:=hbx.shp (g j) (Array.getElem?_eq_some_iff.1 he).1 ⟨j,cs,hcs,rfl⟩ arr e (0,0) he;obtain⟨_,a3,e3,k3,_⟩:=hbm j cs2 h1;rw[h5,k1]at k3;cases k3;exact⟨_,k1,k2⟩
    ·refine⟨cs2,h4,Nat.le_refl _,g2o j h2,fun arr e he=>⟨arr,?_,rfl⟩⟩
     exact(hbx.block (g j) (Array.getElem?_eq_some_iff.1 he).1 (notin j cs2 h4 h3)).trans he
  have hkn:∀j,(sB b').kn j→s2.kn j:=fun j ⟨x,hx⟩=>by
   have hx:ak (aF b') j=some x:=hx;unfold AS.kn;rw[lk j,hx];exact⟨x,rfl⟩
  have hback:∀j cs,(sB b').kn j→s2.bx j=some cs→(sB b').bx j=some cs:=fun j cs ⟨x,hx⟩ hj=>by
   rcases al j cs hj with h1| ⟨_,h2,_⟩
   ·exact h1
   ·have hx:ak (aF b') j=some x:=hx
    rw[h2]at hx;cases hx
  refine⟨g2,fun k=>?_,fun i ci hi=>?_,fun i j ci cj hi hj e=>?_,h.grow.go hbx (fun q ⟨j,cs,hj,e⟩=>by rw[← e];exact(h.bm j cs (inb j cs hj)).1),by
   rw[vj,show s2.tv DK=s.tv DK by
    rw[← hs2];cases dst with
    |none=>rfl
    |some d=>exact pj (hdst d rfl) h.nk]
   exact h.df.agree hF,by cases dst<;>simpa[Act.put]using h.sz,h.cl,h.tg,fun k cs hk=>(h.gl k cs hk).agree hA hS hF,fun i q ci h1 h2 hi=>?_,h.nk⟩
  ·have hold:∀q,TV.M (Own S0 g2 s2) g2 s2 w' (s.tv q) (a.tmps.getD q Go.undef):=fun q=>(h.tm q).agree hA hS hF
   cases dst with
   |none=>
    have:s2.tv k=s.tv k:=by rw[← hs2];rfl
    rw[this];exact hold k
   |some d=>
    by_cases hk:d=k
    ·subst hk
     have e1:s2.tv d=r.tv:=by rw[← hs2];simp[AS.tv,FW,am]
     rw[e1];have e2:(a.put (some d) v).tmps.getD d Go.undef=v:=by simp[Act.put,h.sz,hdst d rfl]
     rw[e2,eO];generalize r.tv=x at hres;cases x with
     |d x=>exact hres
     |tup ts=>exact hres
     |box j o=>exact⟨hkn j hres.1,fun cs hc=>by have:=hback j cs hres.1 hc;rw[g2n j cs this];exact hres.2 cs this⟩
     |rp cs=>exact hres
     |own j m q e0=>exact⟨hkn j hres.1,fun cs hc=>by have:=hback j cs hres.1 hc;rw[g2n j cs this];exact hres.2 cs this⟩
     |clo fn fs cs=>
      have hc:∀{xs:List CV} {vs:List Value},o5 g' (sB b') xs vs→o5 g2 s2 xs vs:=by
       intro xs
       induction xs with
       |nil=>intro vs h;cases vs with
        |nil=>trivial
        |cons=>exact h.elim
       |cons c xs ih=>intro vs h;cases vs with
        |nil=>exact h.elim
        |cons v vs=>
         refine⟨?_,ih h.2⟩;cases c with
         |val u=>exact h.1
         |box j o=>exact⟨hkn j h.1.1,fun cs hc=>by have:=hback j cs h.1.1 hc;rw[g2n j cs this];exact h.1.2 cs this⟩
      obtain⟨us,vs,e,h1,h2⟩:=hres;exact⟨us,vs,e,hc h1,hc h2⟩
     |mp es=>exact hres
     |nil=>exact hres
     |und=>exact hres
     |junk=>trivial
     |dfr=>trivial
     |vw j o m q=>exact⟨hkn j hres.1,fun cs hc=>by have:=hback j cs hres.1 hc;rw[g2n j cs this];exact hres.2 cs this⟩
    ·have e1:s2.tv k=s.tv k:=by rw[← hs2];simp[AS.tv,FW,aD _ _ hk]
     rw[e1];have e2:(a.put (some d) v).tmps.getD k Go.undef=a.tmps.getD k Go.undef:=by simp[Act.put,Array.getElem?_setIfInBounds_ne hk]
     rw[e2];exact hold k
  ·rcases al i ci hi with h1| ⟨h1,h2,h3,h4⟩
   ·rw[g2n i ci h1]
    obtain⟨h5,h6⟩:=hbm i ci h1
    refine⟨?_,by
     rw[eO];obtain⟨arr,e1,p1,p2,p3,p4,p5⟩:=h6;refine⟨arr,e1,p1,p2,p3,fun hl q c v hc hv=>?_,p5⟩;have hq:=p4 hl q c v hc hv;cases c with
     |ow j m k e=>exact⟨hkn j hq.1,fun cs hc=>by have:=hback j cs hq.1 hc;rw[g2n j cs this];exact hq.2 cs this⟩
     |bp j o=>exact⟨hkn j hq.1,fun cs hc=>by have:=hback j cs hq.1 hc;rw[g2n j cs this];exact hq.2 cs this⟩
     |val=>trivial
     |sl=>trivial
     |nl=>trivial⟩
    rcases h5 with h5| ⟨j,cs,hj,e⟩
    ·exact .inl (Nat.le_trans h.grow.size h5)
    ·rw[← e];exact(h.bm j cs (inb j cs hj)).1
   ·rw[g2o i h2]
    obtain⟨h5,h6⟩:=h.bm i ci h4;exact⟨h5,h6.agree (hbx.block _ h6.lt (notin i ci h4 h3)) hA hS hF⟩
  ·have cross:∀i j ci cj,(sB b').bx i=some ci→ak (aF b) j=none→s.bx j=some cj→ak (aF b') j=none→g' i=g j→False:=by
    intro i j ci cj hi hn hj hn' e;rcases(hbm i ci hi).1 with h1|h1
    ·have:=(h.bm j cj hj).2.lt;omega
    ·rw[e]at h1;exact notin j cj hj hn h1
   rcases al i ci hi with h1| ⟨h1,h2,h3,h4⟩<;>rcases al j cj hj with h1'| ⟨h1',h2',h3',h4'⟩
   ·rw[g2n i ci h1,g2n j cj h1']at e;exact hinj i j ci cj h1 h1' e
   ·rw[g2n i ci h1,g2o j h2']at e;exact(cross i j ci cj h1 h3' h4' h2' e).elim
   ·rw[g2o i h2,g2n j cj h1']at e;exact(cross j i cj ci h1' h3 h4 h2 e.symm).elim
   ·rw[g2o i h2,g2o j h2']at e;exact h.inj i j ci cj h4 h4' e
  ·rcases al i ci hi with h3| ⟨h3,h4,h5,h6⟩
   ·rw[g2n i ci h3]
    rcases fZ b i with h4| ⟨cs,h4⟩
    ·rw[(hnew i ci h3 h4).2]at h1;cases h1
    ·rw[(hkeep i cs ci (dy.2 h4) h3).1]
     exact h.gp i q cs h1 h2 (inb i cs (dy.2 h4))
   ·rw[g2o i h4];exact h.gp i q ci h1 h2 h6
end
section
variable {P:Program} {T:TypeId→Option Ty} {n:Nat} {S0:Nat→Prop} {w0:fN}
theorem nQ.length {S:Nat→Prop} {g:Nat→Nat} {s:AS} {w:World}:∀{ts:List TV} {vs:List Value},nQ S g s w ts vs→ts.length=vs.length
 | [],[],_=>rfl
 |_::ts,_::vs,h=>by simp[nQ.length h.2]
 | [],_::_,h=>h.elim
 |_::_,[],h=>h.elim
theorem nQ.at {S:Nat→Prop} {g:Nat→Nat} {s:AS} {w:World}:∀{ts:List TV} {vs:List Value},nQ S g s w ts vs→ ∀(k i:Nat),TV.M S g s w (match ak (rE k ts) i with|some v=>v|none=> .junk) (if i<k then undef else vs.getD (i-k) undef)
 | [],[],_,k,i=>trivial
 |d::ds,v::vs,h,k,i=>by
  simp only[rE]
  by_cases e:k=i
  ·subst e
   rw[am]
   simp only[Nat.lt_irrefl,if_false,Nat.sub_self]
   exact h.1
  ·rw[aD _ _ e]
   have:=nQ.at h.2 (k+1) i
   by_cases h1:i<k
   ·rw[if_pos (by omega)]at this;rw[if_pos h1];exact this
   ·rw[if_neg (by omega)]at this
    rw[if_neg h1];have e2:i-k=(i-(k+1))+1:=by omega
    rw[e2]
    simpa using this
 | [],_::_,h,_,_=>h.elim
 |_::_,[],h,_,_=>h.elim
def Ga (T:TypeId→Option Ty) (s:AS) (rs:List ResultVar) (r:RT) (b':BL):Prop:=
 (match r with
  | .v r=>∃l,jy T s rs=some l∧xb l=r
  | .own j n k e=>∃t,rs=[.tmp t]∧s.tv t= .own j n k e∧rZ (s.tv DK)=true)∧rR s (aF b')
def fk (b b':BL):Prop:=∀j cs cs',(sB b).bx j=some cs→(sB b').bx j=some cs'→cs.length≤cs'.length
theorem fk.refl (b:BL):fk b b:=fun j cs cs' h h'=>by rw[h]at h';cases h';exact Nat.le_refl _
theorem fk.nil (b:BL):fk [] b:=fun j cs cs' h=>by cases h
theorem fk.one {j:Nat} {cs cs':List AV} (h:cs.length≤cs'.length):fk [(j,cs)] [(j,cs')]:=fun i c c' h1 h2=>by
 have h1:=dy.1 h1;have h2:=dy.1 h2
 simp only[aF]at h1 h2
 by_cases e:j=i
 ·subst e;rw[am]at h1 h2;cases h1;cases h2;exact h
 ·rw[aD _ _ e]at h1;cases h1
def pH (b':BL):BL→Bool
 | []=>true
 |(j,_)::r=>(jW j || !(ak (aF b') j).isSome) && pH b' r
theorem xL {b':BL}:∀{b:BL} {j:Nat} {cs cs':List AV},pH b' b=true→ak (aF b) j=some (some cs)→ak (aF b') j=some (some cs')→jW j=true
 | [],_,_,_,_,h,_=>by cases h
 |(i,c)::r,j,cs,cs',hr,h,h'=>by
  simp only[pH,Bool.and_eq_true]at hr
  by_cases e:i=j
  ·subst e
   have:=hr.1;rw[h']at this
   simpa using this
  ·simp only[aF,aD _ _ e]at h;exact xL hr.2 h h'
def wX (r:RT) (b':BL):Bool:=tM (aF b') (aF b') && match r with
 | .own j _ _ _=>match ak (aF b') j with
  |some _=>true
  |none=>false
 | .v _=>true
theorem Bx {ts:List TV}:∀{k i:Nat},k+ts.length≤i→ak (rE k ts) i=none:=by
 induction ts with
 |nil=>intro k i _;rfl
 |cons d ds ih=>
  intro k i h
  simp only[List.length_cons]at h
  rw[rE,aD _ _ (by omega)];exact ih (by omega)
def oS (g:Nat→Nat) (w:World) (b:BL):fN:=⟨w,BX g b,[],fun j=>if jW j then some (g j)else none⟩
theorem yF {S:Nat→Prop} {g g1:Nat→Nat} {w w1:World} {b b':BL} {s:AS} {a:Act} {r:RT} {v:Value} (hrv:pH b' b=true) (hwfc:tM (aF b') (aF b')=true) (hlen:fk b b') (hwk:rR s (aF b')) (hm:MG n S (oS g w b) g1 s a w1)
 (hv:TV.M (Own S g1 (sB b')) g1 (sB b') w1 r.tv v):uA S g b r b' w (.returned v) w1:=by
 have hbx:∀j cs,(sB b').bx j=some cs→s.bx j=some cs:=fun j cs hj=>hwk.at (dy.1 hj)
 have hOs:∀q,q<w1.heap.size→Own S g1 (sB b') q→Own S g1 s q:=by
  rintro q _ (h0| ⟨j,cs,hj,e⟩)
  ·exact .inl h0
  ·exact .inr ⟨j,cs,hbx j cs hj,e⟩
 refine⟨v,g1,rfl,fun j cs cs' hj hj'=>⟨?_,hlen j cs cs' hj hj'⟩,fun j cs' hj=>?_,fun i j ci cj hi hj e=>hm.inj i j ci cj (hbx i ci hi) (hbx j cj hj) e,hv,hm.grow⟩
 ·have hr:=xL hrv (dy.1 hj) (dy.1 hj')
  exact hm.gp j (g j) cs' hr (by simp only[oS,hr,if_true]) (hbx j cs' hj')
 ·obtain⟨h1,arr,e1,p1,p2,p3,p4,p5⟩:=hm.bm j cs' (hbx j cs' hj)
  exact⟨h1,arr,e1,p1,p2.agree (ce.refl _ _) hOs,p3,fun hl i c v hc hv=>(p4 hl i c v hc hv).sub (fun q hq=>tM.at hwfc (dy.1 hj) hl q (nh hc q hq)) hbx,p5⟩
theorem xe {S:Nat→Prop} {g:Nat→Nat} {w:World} {vs:List Value} {ts:List TV} {b:BL} {N:Nat} (hS:Fa S g w b) (hv:nQ (Own S g (sB b)) g (sB b) w ts vs) (hsz:ts.length≤N) (hnk:N≤DK):
 M N S (oS g w b) ⟨rE 0 ts,aF b⟩ ⟨vs.toArray++Array.replicate (N-vs.toArray.size) undef,[]⟩ w:=by
 have hl:=nQ.length hv;refine⟨g,fun k=>?_,fun j cs hj=>⟨.inr ⟨j,cs,hj,rfl⟩,(hS.bm j cs hj).sameB rfl⟩,hS.inj,cS.refl _ _,?_,by simp;omega,fun q hq=>?_,fun w' hw'=>hS.tab w' hw',hS.gl,fun j q cs h1 h2 _=>?_,hnk⟩
 ·have:=nQ.at hv 0 k
  simp only[Nat.not_lt_zero,if_false,Nat.sub_zero]at this
  have e2:(vs.toArray++Array.replicate (N-vs.toArray.size) undef).getD k undef=vs.getD k undef:=by
   simp only[Array.getD_eq_getD_getElem?,Array.getElem?_append,List.getD_eq_getElem?_getD]
   by_cases h1:k<vs.length
   ·simp[h1]
   ·simp[h1]
    cases h2:(Array.replicate (N-vs.length) undef)[k-vs.length]? with
    |none=>rfl
    |some v=>rw[Array.getElem?_replicate]at h2;split at h2<;>simp_all
  dsimp only;rw[e2];exact this.sameB rfl
 ·have e0:(AS.mk (rE 0 ts) (aF b)).tv DK= .junk:=by simp only[AS.tv,Bx (k:=0) (ts:=ts) (i:=DK) (by omega)]
  rw[e0];rfl
 ·obtain⟨h1,h2,h3⟩:=hS.blk q hq
  exact⟨h1,h2,h3⟩
 ·simp only[oS,h1,if_true,Option.some.injEq]at h2
  exact h2
structure ic (P:Program) (f:FuncId) (ts:List TV) (b:BL) (r:RT) (b':BL):Prop where
 enter:∀args w,(callFunc f args).run P w= .ok (.enter f args) w
 body:∃fn c,P.funcs[f]? =some fn∧fn.body=some c∧ ∀(S:Nat→Prop) (g:Nat→Nat) (w:World) (vs:List Value),Fa S g w b→nQ (Own S g (sB b)) g (sB b) w ts vs→c.wp P (bodyPost P fn (uA S g b r b' w)) { tmps:=vs.toArray++Array.replicate (fn.ntmps-vs.toArray.size) undef,defers:=[] } w
theorem ic.toT {f:FuncId} {ts:List TV} {b:BL} {r:RT} {b':BL} (h:ic P f ts b r b'):az P f ts b r b':=by
 obtain⟨fn,c,hf,hb,hw⟩:=h.body;exact⟨h.enter,fun S g w vs hS hv=>calls_of_wp hf hb (hw S g w vs hS hv)⟩
theorem q6 (hT:∀t d,T t=some d→bG P t d) (hmix:P.follows .mixedOrders=true) {f:FuncId} {fn:Func} {c:Code} {ts:List TV} {b:BL} {r:RT} {b':BL} (hf:P.funcs[f]? =some fn) (hb:fn.body=some c) (hn:(fn.name == "runtime.NumGoroutine")=false) (hsz:(Nat.ble ts.length fn.ntmps && Nat.ble fn.ntmps DK)=true)
 (hrv:pH b' b=true) (hkn:wX r b'=true) (hlen:fk b b')
 (h:fU P T fn.ntmps c (fun e s=>match e with| .exit _=>False|_=>Ga T s fn.results.toList r b') ⟨rE 0 ts,aF b⟩):ic P f ts b r b':=by
 unfold wX at hkn;rw[Bool.and_eq_true]at hkn hsz;obtain⟨hwfc,hkn⟩:=hkn;obtain⟨hsz,hnk⟩:=hsz;have hsz:=Nat.le_of_ble_eq_true hsz;have hnk:=Nat.le_of_ble_eq_true hnk;refine⟨fun args w=>?_,fn,c,hf,hb,fun S g w vs hS hv=>?_⟩
 ·have hn':¬fn.name= "runtime.NumGoroutine" :=by simpa using hn
  simp[callFunc,Sem.run_bind,hf,hn',hb]
 ·refine wp_mono (ob (S0:=S) (w0:=oS g w b) hT hmix c _ _ _ w h (xe hS hv hsz hnk)) fun e a w1 hq=>?_
  have fin:∀s,Ga T s fn.results.toList r b'→M fn.ntmps S (oS g w b) s a w1→a.defers=[]∧ ∃v,(results fn a.tmps).run P w1= .ok v w1∧uA S g b r b' w (.returned v) w1:=by
   rintro s ⟨hres,hwk⟩ ⟨g1,hm⟩;have hbx:∀j cs,(sB b').bx j=some cs→s.bx j=some cs:=fun j cs hj=>hwk.at (dy.1 hj)
   have hOs:∀q,q<w1.heap.size→Own S g1 (sB b') q→Own S g1 s q:=by
    rintro q _ (h0| ⟨j,cs,hj,e⟩)
    ·exact .inl h0
    ·exact .inr ⟨j,cs,hbx j cs hj,e⟩
   have rest:∀v,TV.M (Own S g1 (sB b')) g1 (sB b') w1 r.tv v→uA S g b r b' w (.returned v) w1:=fun v hv=>yF hrv hwfc hlen hwk hm hv
   cases r with
   |v r=>
    obtain⟨l,h1,rfl⟩:=hres;refine⟨(xT.no (jg h1)).1 hm.df,?_⟩;obtain⟨vs',hr,hl',hv'⟩:=iM hT hm fn.results.toList l h1;refine⟨if h:vs'.toArray.size=1 then vs'.toArray[0]else .tuple vs'.toArray,?_,rest _ ?_⟩
    ·unfold results
     rw[Sem.run_bind,Array.mapM_eq_mapM_toList,Sem.run_map]
     erw[hr]
     simp only[Result.andThen_ok]
     rfl
    ·have hv2:∀(i:Nat) (x:DV) (u:Value),l[i]? =some x→vs'[i]? =some u→DV.M (Own S g1 (sB b')) w1 x u:=fun i x u h1 h2=>(hv' i x u h1 h2).agree (ce.refl _ _) hOs
     cases l with
     |nil=>
      rw[dif_neg (by simp at hl' ⊢;omega)];exact⟨vs',rfl,hl',hv2⟩
     |cons d l=>
      cases l with
      |nil=>
       have:vs'.toArray.size=1:=by simpa using hl'.symm
       rw[dif_pos this];exact hv2 0 d _ rfl (by simp)
      |cons d' l=>
       rw[dif_neg (by simp at hl' ⊢;omega)];exact⟨vs',rfl,hl',hv2⟩
   |own j m k e=>
    obtain⟨t,h1,h2,h3⟩:=hres;refine⟨(xT.no h3).1 hm.df,a.tmps.getD t undef,?_,rest _ ?_⟩
    ·unfold results
     rw[Sem.run_bind,Array.mapM_eq_mapM_toList,Sem.run_map,h1];rfl
    ·have hm2:=hm.tm t
     rw[h2]at hm2;refine⟨?_,fun cs hc=>hm2.2 cs (hbx j cs hc)⟩;dsimp only at hkn
     split at hkn
     ·rename_i x hx;exact⟨x,hx⟩
     ·cases hkn
  cases e with
  |normal=>obtain⟨s,h1,h2⟩:=hq;exact fin s h1 h2
  |ret=>obtain⟨s,h1,h2⟩:=hq;exact fin s h1 h2
  |exit i=>obtain⟨s,h1,h2⟩:=hq;exact h1.elim
  |goto l=>exact hq.elim
  |panic c=>exact hq.elim
  |outgrown=>exact hq.elim
theorem ai (hT:∀t d,T t=some d→bG P t d) (hmix:P.follows .mixedOrders=true) {f:FuncId} {fn:Func} {c:Code} {ts:List TV} {b:BL} {r:RT} {b':BL} (hf:P.funcs[f]? =some fn) (hb:fn.body=some c) (hn:(fn.name == "runtime.NumGoroutine")=false) (hsz:(Nat.ble ts.length fn.ntmps && Nat.ble fn.ntmps DK)=true)
 (hrv:pH b' b=true) (hkn:wX r b'=true) (hlen:fk b b')
 (h:fU P T fn.ntmps c (fun e s=>match e with| .exit _=>False|_=>Ga T s fn.results.toList r b') ⟨rE 0 ts,aF b⟩):az P f ts b r b':=(q6 hT hmix hf hb hn hsz hrv hkn hlen h).toT
def JL:CV→TV
 | .val v=> .d (.leaf (.val v))
 | .box j o=> .box j o
def IN:TV→TV
 | .nil=> .d (.leaf (.sl 0 []))
 |x=>x
def t8 (s:AS) (f:Operand) (args:List Operand):Option (FuncId × List TV):=
 match s.ev f with
 | .d (.leaf (.val (.func (.func fid) ⟨[]⟩ ⟨[]⟩)))=>some (fid,args.map fun x=>IN (s.ev x))
 | .clo (.func fid) fs cs=>some (fid,fs.map JL++(args.map fun x=>IN (s.ev x))++cs.map JL)
 |_=>none
def p8:List CV→Bool
 | []=>true
 | .val v::r=>v.oneCell' && p8 r
 | .box _ _::r=>p8 r
def rH (s:AS) (f:Operand):Bool:=match s.ev f with
 | .clo _ fs cs=>p8 fs && p8 cs
 |_=>true
theorem JM {S:Nat→Prop} {g:Nat→Nat} {s:AS} {w:World} {x:TV} {v:Value} (h:TV.M S g s w x v):TV.M S g s w (IN x) v:=by
 cases x<;>first|exact h|skip
 have:v= .slice none 0 0:=h;rw[this];exact AV.M.emp (Nat.le_refl _) (by omega) (fun _=>rfl)
theorem mf {S:Nat→Prop} {g:Nat→Nat} {s:AS} {w:World}:∀{xs ys:List TV} {us vs:List Value},nQ S g s w xs us→nQ S g s w ys vs→nQ S g s w (xs++ys) (us++vs)
 | [],_,[],_,_,k=>k
 |_::_,_,_::_,_,h,k=>⟨h.1,mf h.2 k⟩
 | [],_,_::_,_,h,_=>h.elim
 |_::_,_,[],_,h,_=>h.elim
theorem Ac {g:Nat→Nat} {s:AS} {a:Act} {w:World} (hM:MG n S0 w0 g s a w):∀(l:List Operand),nQ (Own S0 g s) g s w (l.map fun x=>IN (s.ev x)) (l.map a.eval)
 | []=>trivial
 |x::l=>⟨JM (hM.ev x),Ac hM l⟩
theorem qY {S:Nat→Prop} {g:Nat→Nat} {s:AS} {w:World}:∀{xs:List CV} {vs:List Value},p8 xs=true→o5 g s xs vs→nQ S g s w (xs.map JL) vs
 | [],[],_,_=>trivial
 | .val u::xs,v::vs,h1,h=>by
  simp only[p8,Bool.and_eq_true]at h1
  have e:v=u:=h.1;subst e;exact⟨AV.M.val h1.1,qY h1.2 h.2⟩
 | .box j o::xs,v::vs,h1,h=>⟨h.1,qY h1 h.2⟩
 | [],_::_,_,h=>h.elim
 |_::_,[],_,h=>h.elim
theorem tO {S:Nat→Prop} {g:Nat→Nat} {s s':AS} {w:World} (hb:∀j cs,s'.bx j=some cs→s.bx j=some cs):∀{xs:List TV} {vs:List Value},(∀j∈xs.flatMap fh,s'.kn j)→nQ S g s w xs vs→nQ S g s' w xs vs
 | [],[],_,_=>trivial
 |x::xs,v::vs,hk,h=>⟨h.1.sub (fun j hj=>hk j (List.mem_flatMap.2 ⟨x,by simp,hj⟩)) hb,tO hb (fun j hj=>hk j (by rw[List.flatMap_cons];exact List.mem_append_right _ hj)) h.2⟩
 | [],_::_,_,h=>h.elim
 |_::_,[],_,h=>h.elim
def nB (s:AS) (b:BL):BL→Bool
 | []=>true
 |(j,_)::r=>(match ak (aF b) j with|some _=>true|none=>iD s j) && nB s b r
theorem vd {s:AS} {b:BL}:∀{b':BL} {j:Nat} {cs:List AV},nB s b b'=true→ak (aF b') j=some (some cs)→ak (aF b) j=none→ak s.b j=none∧jW j=false
 | [],_,_,_,h,_=>by cases h
 |(i,c)::r,j,cs,hr,h,hn=>by
  simp only[nB,Bool.and_eq_true]at hr
  by_cases e:i=j
  ·subst e
   have:=hr.1;rw[hn]at this;exact dh this
  ·simp only[aF,aD _ _ e]at h;exact vd hr.2 h hn
theorem E2 {b:BL} {l:List Nat} (h:Cv (aF b) l=true):∀j∈l,(sB b).kn j:=fun j hj=>tV h j hj
theorem yO {s:AS} {l:List Nat} (h:eB l s.b=true):∀j cs,s.bx j=some cs→j ∉ l→dp j=false:=fun j cs hj hjn=>by
 unfold AS.bx at hj
 split at hj
 ·rename_i x hx;cases hj;exact j3 h j _ hjn hx
 ·cases hj
theorem oU {o:Oper} {f:Operand} {fid:FuncId} {args:Array Operand} {tys:Array TypeId} {ts:List TV} {b:BL} {r:RT} {b':BL} {s:AS} (hc:az P fid ts b r b') (ho:o.op= .call ⟨.value f,args,tys⟩) (hcl:t8 s f args.toList=some (fid,ts)) (h1:rH s f=true)
 (hk:(Cv (aF b) (ts.flatMap fh) && tM (aF b) (aF b))=true) (hb:rR s (aF b)) (hcn:∀j cs,s.bx j=some cs→j ∉ b.map (·.1)→dp j=false) (hnew:nB s b b'=true):
 cK P o s ⟨r.tv,some (aF b'++eI b' b)⟩:=by
 intro n S0 w0 g a w K Q hM hdn hK;rw[Bool.and_eq_true]at hk;obtain⟨hk,hwfc⟩:=hk;obtain⟨S,hpre,hO,hpost⟩:=hM.callT (b:=b) (b':=b') hb hwfc hcn (fun j cs hj hn=>vd hnew (dy.1 hj) hn);have inb:∀j cs,(sB b).bx j=some cs→s.bx j=some cs:=fun j cs hj=>hb.at (dy.1 hj)
 obtain⟨vs,hvs,hrun⟩:∃vs,nQ (Own S0 g s) g s w ts vs∧(execOp a.eval o).run P w= .ok (.enter fid vs.toArray) w:=by
  have hargs:=Ac hM args.toList;have hf:=hM.ev f;unfold t8 at hcl
  split at hcl
  ·rename_i fid' hfe
   simp only[Option.some.injEq,Prod.mk.injEq]at hcl
   obtain⟨rfl,rfl⟩:=hcl;refine⟨_,hargs,?_⟩;unfold execOp;rw[ho];rw[hfe]at hf
   simp only[resolve,bP (show AV.M _ _ _ _ from hf),Deferred.ofValue,Sem.run_bind,Sem.run_pure,Result.andThen_ok,invoke]
   have:=hc.enter (args.map a.eval) w;have e:(List.map a.eval args.toList).toArray=args.map a.eval:=Array.ext' (by simp);rw[e]
   simpa using this
  ·rename_i fid' fs cs hfe
   simp only[Option.some.injEq,Prod.mk.injEq]at hcl
   obtain⟨rfl,rfl⟩:=hcl;rw[hfe]at hf;obtain⟨us,vs,e,h2,h3⟩:=hf;unfold rH at h1;rw[hfe]at h1
   simp only[Bool.and_eq_true]at h1
   refine⟨us++List.map a.eval args.toList++vs,mf (mf (qY h1.1 h2) hargs) (qY h1.2 h3),?_⟩;unfold execOp;rw[ho]
   simp only[resolve,e,Deferred.ofValue,Sem.run_bind,Sem.run_pure,Result.andThen_ok,invoke]
   have e2:(us++List.map a.eval args.toList++vs).toArray=us.toArray++args.map a.eval++vs.toArray:=Array.ext' (by simp);have:=hc.enter (us.toArray++args.map a.eval++vs.toArray) w;rw[e2]
   simpa using this
  ·cases hcl
 have hcall:=hc.calls S g w vs hpre (by rw[hO];exact tO inb (E2 hk) hvs);unfold Oper.wp;rw[hrun];show Calls P fid _ w _;refine hcall.mono ?_;rintro en w1 ⟨v,g',rfl,h2,h3,h4,h5,h6⟩;show K (a.put o.dst v) w1;obtain⟨g2,hm⟩:=hpost r v g' w1 h2 h3 h4 h5 h6 o.dst hdn;refine hK g2 _ _ ?_;cases ho2:o.dst<;>(rw[ho2]at hm;exact hm)
variable {ops:Array Oper} {id:Nat} {draw:Bool} {K:AS→Prop} {s:AS} {k:Nat} {o:Oper} {os:List Oper} {fps:List FP}
theorem Ik {α:Type} {x y:Code} {Q:AX→AS→Prop} (σ:α→AS) (φ:α→Prop) (hy:∀a,φ a→ ∀s',aV s' (σ a)→fU P T n y Q s') (hx:∀R:AX→AS→Prop,(∀a,φ a→ ∀s',aV s' (σ a)→R .normal s')→R .ret=Q .ret→fU P T n x R s):fU P T n (.seq x y) Q s:=av (hx _ hy rfl)
theorem rd {s s':AS} {f:Operand} {args:List Operand} (hf:s'.ev f=s.ev f) (ha:∀x∈args,s'.ev x=s.ev x):t8 s' f args=t8 s f args:=by
 have e:(args.map fun x=>IN (s'.ev x))=args.map fun x=>IN (s.ev x):=List.map_congr_left fun x hx=>by rw[ha x hx]
 unfold t8;rw[hf,e]
theorem nL {s s':AS}:∀{b:BL},(∀j∈b.map (·.1),ak s'.b j=ak s.b j)→rR s (aF b)→rR s' (aF b)
 | [],_,_=>trivial
 |(j,cs)::r,hl,h=>⟨by rw[cO (hl j (by simp))];exact h.1,nL (b:=r) (fun i hi=>hl i (by simp at hi ⊢;exact .inr hi)) h.2⟩
theorem lX {s s':AS} {b:BL}:∀{b':BL},(∀j∈b'.map (·.1),ak s'.b j=ak s.b j)→nB s' b b'=nB s b b'
 | [],_=>rfl
 |(j,cs)::r,hl=>by
  rw[nB,nB,lX (b':=r) (fun i hi=>hl i (by simp at hi ⊢;exact .inr hi)),f7 (hl j (by simp))]
theorem bD {f:Operand} {fid:FuncId} {args:Array Operand} {tys:Array TypeId} {ts:List TV} {b:BL} {r:RT} {b':BL} (hc:az P fid ts b r b') (h1:gd ops s o=some true) (ho:o.op= .call ⟨.value f,args,tys⟩) (hcl:t8 s f args.toList=some (fid,ts)) (hone:rH s f=true)
 (hk:(Cv (aF b) (ts.flatMap fh) && tM (aF b) (aF b))=true) (hb:rR s (aF b)) (hcn:eB [] s.b=true) (hnew:nB s b b'=true) (h3:bd n o.dst=true) (h4:gN draw ops (aM ops o ⟨r.tv,some (aF b'++eI b' b)⟩ (b.map (·.1)++b'.map (·.1))) k fps=true)
 (h:aw P T n ops id draw K (k+1) os (s.eff o.dst ⟨r.tv,some (aF b'++eI b' b)⟩) (aM ops o ⟨r.tv,some (aF b'++eI b' b)⟩ (b.map (·.1)++b'.map (·.1))::fps)):aw P T n ops id draw K k (o::os) s fps:=by
 refine .run h1 (.genC (lC hcn) fun s2 hc2 ht hrb=>?_) h3 h4 h;have hf:s2.ev f=s.ev f:=aL ht (by rw[ho];simp[Op.operands,Call.operands]);have hcl2:=rd (s':=s2) (s:=s) (f:=f) (args:=args.toList) hf (fun x hx=>aL ht (by rw[ho];simp[Op.operands,Call.operands];exact .inr (by simpa using hx)));have hone2:rH s2 f=true:=by unfold rH at hone ⊢;rw[hf];exact hone
 exact oU hc ho (hcl2.trans hcl) hone2 hk (nL (fun j hj=>hrb j (List.mem_append_left _ hj)) hb) (fun j cs hj _=>hc2 j cs hj) ((lX fun j hj=>hrb j (List.mem_append_right _ hj)).trans hnew)
theorem aa.toT {f:FuncId} {ds:List DV} {r:RV} (h:aa P f ds r):az P f (ds.map .d) [] (.v r) []:=by
 refine⟨h.enter,fun S g w vs hS hv=>?_⟩
 have hO:Own S g (sB [])=S:=by
  funext q
  simp[Own,sB,aF,AS.bx,ak]
 have hX:BX g []=fun _=>False:=by
  funext q
  simp[BX,sB,aF,AS.bx,ak]
 have hS':dO S w:=by
  refine⟨fun w' hw=>hS.tab w' (by rw[hX];exact .of_below hw),fun q hq=>⟨(hS.blk q hq).1,(hS.blk q hq).2.2⟩,fun k cs hk=>?_⟩;have:=hS.gl k cs hk;rw[hO]at this;exact this
 have hv':VM S w ds vs:=by
  rw[hO]at hv
  have:∀(ds:List DV) (vs:List Value),nQ S g (sB []) w (ds.map .d) vs→VM S w ds vs:=by
   intro ds
   induction ds with
   |nil=>intro vs h;cases vs with
    |nil=>trivial
    |cons=>exact h.elim
   |cons d ds ih=>intro vs h;cases vs with
    |nil=>exact h.elim
    |cons v vs=>exact⟨h.1,ih vs h.2⟩
  exact this ds vs hv
 refine(h.calls S w vs hS' hv').mono fun e w' ⟨v,he,hm,hb⟩=>⟨v,g,he,fun j cs cs' h=>(by cases h),fun j cs' h=>(by cases h),fun i j ci cj h=>(by cases h),?_,by rw[hX];exact .of_below hb⟩
 rw[hO];cases r with
 |one d=>exact hm
 |tup l=>exact hm
end
section
variable {P:Program} {T:TypeId→Option Ty} {n:Nat} {ops:Array Oper} {id:Nat} {draw:Bool} {K:AS→Prop} {s:AS} {k:Nat} {o:Oper} {os:List Oper} {fps:List FP}
theorem kD {f:Operand} {fid:FuncId} {args:Array Operand} {tys:Array TypeId} {ts:List TV} {b:BL} {r:RT} {b':BL} (hc:az P fid ts b r b') (h:aw P T n ops id draw K (k+1) os (s.eff o.dst ⟨r.tv,some (aF b'++eI b' b)⟩) (aM ops o ⟨r.tv,some (aF b'++eI b' b)⟩ (b.map (·.1)++b'.map (·.1))::fps)) (h1:gd ops s o=some true:=by rfl) (ho:o.op= .call ⟨.value f,args,tys⟩:=by rfl) (hcl:t8 s f args.toList=some (fid,ts):=by rfl) (hone:rH s f=true:=by rfl)
    (hk:(Cv (aF b) (ts.flatMap fh) && tM (aF b) (aF b))=true:=by rfl) (hb:rR s (aF b):=by first|exact⟨rfl,trivial⟩|exact⟨rfl,rfl,trivial⟩|exact trivial) (hcn:eB [] s.b=true:=by rfl) (hnew:nB s b b'=true:=by rfl) (h3:bd n o.dst=true:=by rfl) (h4:gN draw ops (aM ops o ⟨r.tv,some (aF b'++eI b' b)⟩ (b.map (·.1)++b'.map (·.1))) k fps=true:=by rfl):aw P T n ops id draw K k (o::os) s fps:=bD hc h1 ho hcl hone hk hb hcn hnew h3 h4 h
theorem kZ {q:Prop} {f:Operand} {fid:FuncId} {args:Array Operand} {tys:Array TypeId} {ts:List TV} {b:BL} {r:RT} {b':BL} (hc:az P fid ts b r b') (h:q) (h1:gd ops s o=some true:=by rfl) (ho:o.op= .call ⟨.value f,args,tys⟩:=by rfl) (hcl:t8 s f args.toList=some (fid,ts):=by rfl) (hone:rH s f=true:=by rfl)
    (hk:(Cv (aF b) (ts.flatMap fh) && tM (aF b) (aF b))=true:=by rfl) (hb:rR s (aF b):=by first|exact⟨rfl,trivial⟩|exact⟨rfl,rfl,trivial⟩|exact trivial) (hcn:eB [] s.b=true:=by rfl) (hnew:nB s b b'=true:=by rfl) (h3:bd n o.dst=true:=by rfl) (h4:gN draw ops (aM ops o ⟨r.tv,some (aF b'++eI b' b)⟩ (b.map (·.1)++b'.map (·.1))) k fps=true:=by rfl) (e:q→aw P T n ops id draw K (k+1) os (s.eff o.dst ⟨r.tv,some (aF b'++eI b' b)⟩) (aM ops o ⟨r.tv,some (aF b'++eI b' b)⟩ (b.map (·.1)++b'.map (·.1))::fps):=by intro h;(repeat(first|refine ia rfl rfl rfl rfl ?_|refine dw rfl rfl rfl ?_|refine .done ?_|refine av (T:=TT) ?_|refine an (T:=TT) rfl ?_|refine b8 (T:=TT) ?_|refine ff (T:=TT) rfl ?_|refine bK (T:=TT) rfl ?_));exact h):aw P T n ops id draw K k (o::os) s fps:=bD hc h1 ho hcl hone hk hb hcn hnew h3 h4 (e h)
end
section
variable {P:Program} {T:TypeId→Option Ty} {n:Nat}
theorem aw.mono {ops:Array Oper} {id:Nat} {draw:Bool} {K K':AS→Prop} (hK:∀s,K s→K' s) {k:Nat} {os:List Oper} {s:AS} {fps:List FP} (h:aw P T n ops id draw K k os s fps):aw P T n ops id draw K' k os s fps:=by
 induction h with
 |done h=>exact .done (hK _ h)
 |run h1 h2 h3 h4 _ ih=>exact .run h1 h2 h3 h4 ih
 |skip h1 h2 h3 _ ih=>exact .skip h1 h2 h3 ih
 |app h0 h1 h2 h3 h4 h5 h6 h7 h8 h9 h10 h11 h12 h13 h14 h15 _ ih=>exact .app h0 h1 h2 h3 h4 h5 h6 h7 h8 h9 h10 h11 h12 h13 h14 h15 ih
 |snd h0 h1 h2 _ ih=>exact .snd h0 h1 h2 ih
 |snd3 h0 h1 h2 _ ih=>exact .snd3 h0 h1 h2 ih
variable {ops:Array Oper} {id:Nat} {draw:Bool} {K:AS→Prop} {s:AS} {k:Nat} {o:Oper} {os:List Oper} {fps:List FP}
theorem bI (j':Nat) {d:Nat} {x y:Operand} {t et q m1 m2:Nat} {ty te:Ty} {dead:Option Nat} {cs xs:List AV} (hT:∀t d,T t=some d→bG P t d) (hm:0<m2) (hb:(m1+m2)*te.bytes≤140737488355328) (hxs:xs.length=m2*q) (h0:draw=false) (h1:gd ops s o=some true) (ho:o.op= .call ⟨.builtin .append,#[x,y],#[t,t]⟩) (hd:o.dst=some d) (h3:bd n o.dst=true) (ht:T t=some ty) (hel:ty.elem=some (et,q)) (hte:T et=some te) (hq:te.size=q) (hq0:(Nat.ble 1 q && Nat.ble 1 te.bytes)=true)
 (hbase:fM s x m1 q et dead cs) (hy:s.ev y= .d (.leaf (.sl m2 xs))) (hnew:iD s j'=true) (hcl:(gC te.zero && gC xs && kM dead)=true)
 (h:aw P T n ops id draw K (k+1) os ⟨(d, .own j' (m1+m2) q et)::s.t,(j',some (cs.take (m1*q)++xs))::gQ dead s.b⟩ (aM ops o ⟨.junk,none⟩ []::fps)):aw P T n ops id draw K k (o::os) s fps:=by
 refine .snd h0 h1 (fun S0 w0 g a w K' Q hM hK=>?_) h;rw[Bool.and_eq_true]at hq0
 have h63:m1+m2≤9223372036854775807:=by
  have:=Nat.le_mul_of_pos_right (m1+m2) (Nat.le_of_ble_eq_true hq0.2);omega
 exact mK (hT _ _ ht) (hT _ _ hte) ho hd hel hq (Nat.le_of_ble_eq_true hq0.1) hbase hy hxs hm hb h63 (dh hnew) (lq hnew) (.inr hcl) hM (fm h3 d hd) hK
def tz:Option Nat→List Nat
 |some j=>[j]
 |none=>[]
end
section
variable {P:Program} {T:TypeId→Option Ty} {n:Nat} {ops:Array Oper} {id:Nat} {draw:Bool} {K:AS→Prop} {s:AS} {k:Nat} {o:Oper} {os:List Oper} {fps:List FP}
theorem iP (hT:∀t d,T t=some d→bG P t d) {t:TypeId} {ty:Ty} {x y z:Operand} {l:List UInt8} {i j:Nat} {ik ik':IntKind} (hi:i≤j) (hj:j≤l.length) (h1:gd ops s o=some true) (h2:o.op= .slice t x (some y) (some z) none) (h5:T t=some ty) (h6:ty.isStr=true) (h7:s.ev x= .d (.leaf (.val (vL l)))) (h8:s.ev y= .d (.leaf (.val (.int ik (i:Nat))))) (h9:s.ev z= .d (.leaf (.val (.int ik' (j:Nat)))))
 (h3:bd n o.dst=true) (h4:gN draw ops (aM ops o ⟨.d (dL ((l.take j).drop i)),none⟩ []) k fps=true) (h:aw P T n ops id draw K (k+1) os (s.eff o.dst ⟨.d (dL ((l.take j).drop i)),none⟩) (aM ops o ⟨.d (dL ((l.take j).drop i)),none⟩ []::fps)):aw P T n ops id draw K k (o::os) s fps:=by
 refine .run h1 (.gen fun s2 ht _=>?_) h3 h4 h;have hx:=(aL ht (x:=x) (by simp[h2,Op.operands])).trans h7;have hy:=(aL ht (x:=y) (by simp[h2,Op.operands])).trans h8;have hz:=(aL ht (x:=z) (by simp[h2,Op.operands])).trans h9;have hu:=j4 (hT _ _ h5) h6;refine aj fun n S0 w0 g a w hM=>⟨vL ((l.take j).drop i),w,?_,Below.refl _ _,AV.M.val rfl⟩
 unfold execOp;rw[h2]
 have e1:(Instr.sliceAt t (.string (Bs l)) (some (.int ik i)) (some (.int ik' j)) none).run P w= .ok (vL ((l.take j).drop i)) w:=by
  unfold Instr.sliceAt
  simp only[Sem.run_bind,run_underlying hu w,Result.andThen_ok]
  rw[run_slice_string w t (Bs l) ik ik' i j hu (by omega) (by omega) (by rw[aB];omega)]
  simp only[Int.toNat_natCast]
  rw[jJ];rfl
 simp only[bw hM hx,bw hM hy,bw hM hz,vL,Option.map_some,Option.map_none,Sem.run_bind,e1,Result.andThen_ok]
 rfl
theorem vn {e:rA} {rb:List Nat} {s2:AS} (hT:∀t d,T t=some d→bG P t d) (h0:draw=false) (h1:gd ops s o=some true) (h2:fO T (id*1000+k) s o=some (e,rb)) (h3:bd n o.dst=true) (hw:aV (s.eff o.dst e) s2)
 (h:aw P T n ops id draw K (k+1) os s2 (aM ops o ⟨.junk,none⟩ []::fps)):aw P T n ops id draw K k (o::os) s fps:=
 .snd h0 h1 (fun S0 w0 g a w K' Q hM hK=>mc hT (.op h2) n S0 w0 g a w _ Q hM (fm h3) fun g' a' w' hM'=>by
  obtain⟨g2,hM2⟩:=hw _ _ _ _ _ ⟨g',hM'⟩;exact hK g2 a' w' hM2) h
end
abbrev Tk:=Nat × List UInt8 × Nat
def iB (t:Tk):List AV:=[.val (.int .i64 t.1), .val (vL t.2.1), .val (.int .i64 t.2.2)]
def co:List Tk→List AV
 | []=>[]
 |t::r=>iB t++co r
theorem qP (a b:List Tk):co (a++b)=co a++co b:=by
 induction a with
 |nil=>rfl
 |cons t r ih=>simp[co,ih]
theorem ig (a:List Tk):(co a).length=a.length*3:=by
 induction a with
 |nil=>rfl
 |cons t r ih=>simp[co,iB,ih];omega
def dl:Nat→List UInt8→Nat→List Tk→Except (Nat × Int) (List Tk)
 |0,_,_,_=> .error (0,0)
 |_+1,[],at_,acc=> .ok (acc++[(0,[],at_)])
 |f+1,c::r,at_,acc=>if c=32∨c=9 then dl f r (at_+1) acc
  else if(gO (c::r)).2=0 then .error (at_,2)
  else if(gO (c::r)).1=1∧24<(gO (c::r)).2 then .error (at_,3)
  else dl f ((c::r).drop (gO (c::r)).2) (at_+(gO (c::r)).2) (acc++[((gO (c::r)).1,(c::r).take (gO (c::r)).2,at_)])
def jO:Except (Nat × Int) (List Tk)→RV
 | .ok l=> .tup [.leaf (.sl l.length (co l)),dN .i64 0,dN .i64 0]
 | .error (a,e)=> .tup [.leaf (.sl 0 []),dN .i64 a,dN .i64 e]
theorem Gz (s:List UInt8):jD s≤s.length:=by
 unfold jD
 split
 ·rename_i h
  have h1:=(List.getElem?_eq_some_iff.1 h.1).1;have h2:=gH cH (s.drop (bf cH s+1));rw[List.length_drop]at h2;omega
 ·exact gH _ _
theorem F8:∀(n:Nat) (s:List UInt8) (i:Nat),s.length≤n→eT s i≤i+s.length:=by
 intro n
 induction n using Nat.strongRecOn with
 |_ n ih=>
  intro s i h
  match s,h with
  | [],_=>simp[eT]
  | [c],_=>simp only[eT];split <;>simp
  |c::d::r,h=>
   simp at h
   simp only[eT]
   split
   ·simp
   ·split
    ·omega
    ·split
     ·split
      ·omega
      ·have:=ih (n-2) (by omega) r (i+2) (by omega)
       simp
       omega
     ·have:=ih (n-1) (by omega) (d::r) (i+1) (by simp;omega)
      simp at this ⊢
      omega
theorem vh:∀s:List UInt8,(gO s).2≤s.length
 | []=>Nat.le_refl _
 |c::r=>by
  rw[gO]
  split
  ·exact gH _ _
  ·split
   ·exact Gz _
   ·split
    ·have:=F8 r.length r 1 (Nat.le_refl _)
     show eT r 1≤r.length+1;omega
    ·split
     ·simp
     ·split <;>simp
def JY (J:Nat):List Tk→TV
 | []=> .nil
 |a::r=> .own J (a::r).length 3 68
def IM:List Tk→Option (List AV)
 | []=>none
 |a::r=>some (co (a::r))
theorem EC (J:Nat) (l:List Tk) (t:Tk):JY J (l++[t])= .own J (l.length+1) 3 68:=by
 cases l with
 |nil=>rfl
 |cons a r=>simp[JY]
theorem wq (l:List Tk) (t:Tk):IM (l++[t])=some (co l++iB t):=by
 have h:∀m:List Tk,m≠[]→IM m=some (co m):=fun m hm=>by
  cases m with
  |nil=>exact absurd rfl hm
  |cons a r=>rfl
 rw[h _ (by simp),qP]
 simp[co]
theorem ls (l:List Tk):(co l).take (l.length*3)=co l:=List.take_of_length_le (by rw[ig];exact Nat.le_refl _)
theorem pl (s:List UInt8) (acc:List Tk) (t:Tk) (m:Nat):(⟨[(0, .d (dL s)),(2, .nil),(3, .d (dN .i64 0)),(4, .d (dN .i64 0)),(5,JY 13001 (acc++[t])),(6, .d (dN .i64 m))],[(13001,IM (acc++[t]))]⟩:AS)=⟨[(0, .d (dL s)),(2, .nil),(3, .d (dN .i64 0)),(4, .d (dN .i64 0)),(5, .own 13001 (acc.length+1) 3 68),(6, .d (dN .i64 m))],[(13001,some ((co acc).take (acc.length*3)++iB t))]⟩:=by rw[EC,wq,ls]
theorem oH (s:List UInt8) (hl:s.length≤65536):aa Tryz.prog 38 [dL s] (jO (dl (s.length+1) s 0 [])):=by
 have hB:=aB s;generalize hR:dl (s.length+1) s 0 []=R;refine kU func38 ?_;refine kR ?_;refine kI ?_
 refine kO2 ?_
 refine kY ?_
 refine aS (Nat × List Tk) (fun x=>x.1≤s.length∧x.2.length≤x.1∧ ∃f,s.length-x.1<f∧dl f (s.drop x.1) x.1 x.2=R) (fun x=>⟨[(0, .d (dL s)),(2, .nil),(3, .d (dN .i64 0)),(4, .d (dN .i64 0)),(5,JY 13001 x.2),(6, .d (dN .i64 x.1))],[(13001,IM x.2)]⟩) (fun x=>s.length-x.1) (0,[]) ⟨Nat.zero_le _,Nat.le_refl _,s.length+1,by dsimp only;omega,hR⟩
  (weak ⟨rfl,rfl,rfl,rfl,rfl,rfl,trivial⟩ trivial rfl) ?_
 rintro⟨i,acc⟩ ⟨h1,h2,f,hf,h3⟩;dsimp only at h1 h2 hf h3 ⊢;cases f with
 |zero=>exact absurd hf (Nat.not_lt_zero _)
 |succ f=>
 refine kI ?_
 refine kO3 ?_
 by_cases hlt:i<s.length
 ·have hx:s[i]? =some s[i]:=by simp[hlt]
  have hdrop:=List.drop_eq_getElem_cons hlt;generalize hc:s[i]=c at *;refine kT ?_;refine kG ?_
  refine kO2 ?_
  refine ap ab (i:=i) (c:=c) hx rfl rfl rfl rfl rfl rfl rfl rfl ?_
  by_cases hsp:c=32∨c=9
  ·rw[hdrop,dl,if_pos hsp]at h3
   by_cases c32:c=32
   ·have e32:c.toNat=32:=by rw[c32];rfl
    refine kX ?_
    exact⟨(i+1,acc),⟨hlt,by dsimp only;omega,f,by dsimp only;omega,h3⟩,by dsimp only;omega,by
     cases acc
     ·exact weak ⟨rfl,rfl,rfl,rfl,rfl,aG (by omega) (by omega),trivial⟩ trivial rfl
     ·exact weak ⟨rfl,rfl,rfl,rfl,rfl,aG (by omega) (by omega),trivial⟩ ⟨rfl,trivial⟩ rfl⟩
   ·have e32:¬c.toNat=32:=dU c32
    have e9:c.toNat=9:=by rw[hsp.resolve_left c32];rfl
    refine kE ?_
    refine kO3 ?_
    refine ap ab (i:=i) (c:=c) hx rfl rfl rfl rfl rfl rfl rfl rfl ?_;refine kX ?_
    exact⟨(i+1,acc),⟨hlt,by dsimp only;omega,f,by dsimp only;omega,h3⟩,by dsimp only;omega,by
     cases acc
     ·exact weak ⟨rfl,rfl,rfl,rfl,rfl,aG (by omega) (by omega),trivial⟩ trivial rfl
     ·exact weak ⟨rfl,rfl,rfl,rfl,rfl,aG (by omega) (by omega),trivial⟩ ⟨rfl,trivial⟩ rfl⟩
  ·have e32:¬c.toNat=32:=dU (fun e=>hsp (.inl e))
   have e9:¬c.toNat=9:=dU (fun e=>hsp (.inr e));have hdl:(s.drop i).length=s.length-i:=List.length_drop;have cn:=AY c (s.drop (i+1)) (by rw[← hdrop];omega);have hnl:=vh (s.drop i);rw[hdrop,dl,if_neg hsp]at h3;rw[← hdrop]at h3 cn;generalize hN:gO (s.drop i)=N at *;obtain⟨k,n⟩:=N;dsimp only at h3 cn hnl
   have hk64:k≤5:=by
    have h:=congrArg Prod.fst hN;rw[hdrop,gO]at h;dsimp only at h
    revert h
    repeat' split
    all_goals(intro h;dsimp only at h;omega)
   cases acc with
   |nil=>
    refine kE ?_
    refine kO3 ?_
    refine ap ab (i:=i) (c:=c) hx rfl rfl rfl rfl rfl rfl rfl rfl ?_;refine kE ?_;refine kG ?_
    refine kO2 ?_
    refine iN ab (i:=i) (by omega) rfl rfl rfl rfl rfl rfl rfl rfl ?_;refine kC (cn) ?_;refine kG ?_;refine kO ?_
    by_cases hn0:n=0
    ·rw[if_pos hn0]at h3
     refine kT ?_;rw[← h3];exact kF
    rw[if_neg hn0]at h3;refine kE ?_;refine kG ?_;refine kO ?_;have htx:(s.take (i+n)).drop i=(s.drop i).take n:=by rw[List.drop_take];congr 1;omega
    have hcase:(k=1∧24<n)∨(k=1∧ ¬24<n)∨ ¬k=1:=by omega
    rcases hcase with⟨hk,h24⟩| ⟨hk,h24⟩|hk
    ·rw[if_pos ⟨hk,h24⟩]at h3
     refine kT ?_
     refine kO2 ?_
     refine kT ?_;rw[← h3];exact kF
    ·rw[if_neg (fun h=>h24 h.2),List.drop_drop]at h3
     refine kT ?_
     refine kO2 ?_
     refine kE ?_;refine kG ?_
     iterate 6 refine kO ?_
     refine kJ ((i+n:Nat)) ?_;refine iP ab (l:=s) (i:=i) (j:=i+n) (by omega) (by omega) rfl rfl rfl rfl rfl rfl rfl rfl rfl ?_;rw[← htx]at h3
     refine kO3 ?_
     refine bI 13002 (m1:=0) (m2:=1) ab (by decide) (by decide) rfl rfl rfl rfl rfl rfl rfl rfl rfl rfl rfl (.nil rfl rfl) rfl rfl rfl ?_;refine kW ?_
     exact⟨(i+n,[]++[(k,(s.take (i+n)).drop i,i)]),⟨by dsimp only;omega,by simp;omega,f,by dsimp only;omega,h3⟩,by dsimp only;omega,by
      exact Eq.mpr (congrArg (aV _) (pl s ([]:List Tk) (k,(s.take (i+n)).drop i,i) (i+n))) (aV.trans (b:=⟨[(0, .d (dL s)),(2, .nil),(3, .d (dN .i64 0)),(4, .d (dN .i64 0)),(5, .own 13002 (([]:List Tk).length+1) 3 68),(6, .d (dN .i64 ((i+n:Nat))))],[(13002,some ((co ([]:List Tk)).take (([]:List Tk).length*3)++iB (k,(s.take (i+n)).drop i,i)))]⟩) (weak ⟨rfl,rfl,rfl,rfl,rfl,aG (by omega) (by omega),trivial⟩ ⟨rfl,trivial⟩ rfl) ((ax (q:=5) (j:=13002) (j':=13001) (m:=([]:List Tk).length+1) (k:=3) (e:=68) (cs:=(co ([]:List Tk)).take (([]:List Tk).length*3)++iB (k,(s.take (i+n)).drop i,i)) rfl rfl rfl rfl).trans (weak ⟨rfl,rfl,rfl,rfl,rfl,rfl,trivial⟩ ⟨rfl,trivial⟩ rfl)))⟩
    ·rw[if_neg (fun h=>hk h.1),List.drop_drop]at h3
     refine kE ?_;refine kG ?_
     iterate 6 refine kO ?_
     refine kJ ((i+n:Nat)) ?_;refine iP ab (l:=s) (i:=i) (j:=i+n) (by omega) (by omega) rfl rfl rfl rfl rfl rfl rfl rfl rfl ?_;rw[← htx]at h3
     refine kO3 ?_
     refine bI 13002 (m1:=0) (m2:=1) ab (by decide) (by decide) rfl rfl rfl rfl rfl rfl rfl rfl rfl rfl rfl (.nil rfl rfl) rfl rfl rfl ?_;refine kW ?_
     exact⟨(i+n,[]++[(k,(s.take (i+n)).drop i,i)]),⟨by dsimp only;omega,by simp;omega,f,by dsimp only;omega,h3⟩,by dsimp only;omega,by
      exact Eq.mpr (congrArg (aV _) (pl s ([]:List Tk) (k,(s.take (i+n)).drop i,i) (i+n))) (aV.trans (b:=⟨[(0, .d (dL s)),(2, .nil),(3, .d (dN .i64 0)),(4, .d (dN .i64 0)),(5, .own 13002 (([]:List Tk).length+1) 3 68),(6, .d (dN .i64 ((i+n:Nat))))],[(13002,some ((co ([]:List Tk)).take (([]:List Tk).length*3)++iB (k,(s.take (i+n)).drop i,i)))]⟩) (weak ⟨rfl,rfl,rfl,rfl,rfl,aG (by omega) (by omega),trivial⟩ ⟨rfl,trivial⟩ rfl) ((ax (q:=5) (j:=13002) (j':=13001) (m:=([]:List Tk).length+1) (k:=3) (e:=68) (cs:=(co ([]:List Tk)).take (([]:List Tk).length*3)++iB (k,(s.take (i+n)).drop i,i)) rfl rfl rfl rfl).trans (weak ⟨rfl,rfl,rfl,rfl,rfl,rfl,trivial⟩ ⟨rfl,trivial⟩ rfl)))⟩
   |cons a r=>
    refine kE ?_
    refine kO3 ?_
    refine ap ab (i:=i) (c:=c) hx rfl rfl rfl rfl rfl rfl rfl rfl ?_;refine kE ?_;refine kG ?_
    refine kO2 ?_
    refine iN ab (i:=i) (by omega) rfl rfl rfl rfl rfl rfl rfl rfl ?_;refine kC (cn) ?_;refine kG ?_;refine kO ?_
    by_cases hn0:n=0
    ·rw[if_pos hn0]at h3
     refine kT ?_;rw[← h3];exact kF
    rw[if_neg hn0]at h3;refine kE ?_;refine kG ?_;refine kO ?_;have htx:(s.take (i+n)).drop i=(s.drop i).take n:=by rw[List.drop_take];congr 1;omega
    have hcase:(k=1∧24<n)∨(k=1∧ ¬24<n)∨ ¬k=1:=by omega
    rcases hcase with⟨hk,h24⟩| ⟨hk,h24⟩|hk
    ·rw[if_pos ⟨hk,h24⟩]at h3
     refine kT ?_
     refine kO2 ?_
     refine kT ?_;rw[← h3];exact kF
    ·rw[if_neg (fun h=>h24 h.2),List.drop_drop]at h3
     refine kT ?_
     refine kO2 ?_
     refine kE ?_;refine kG ?_
     iterate 6 refine kO ?_
     refine kJ ((i+n:Nat)) ?_;refine iP ab (l:=s) (i:=i) (j:=i+n) (by omega) (by omega) rfl rfl rfl rfl rfl rfl rfl rfl rfl ?_;rw[← htx]at h3
     refine kO3 ?_
     refine bI 13002 (m1:=(a::r).length) (m2:=1) ab (by decide) (by show((a::r).length+1)*32≤_;omega) rfl rfl rfl rfl rfl rfl rfl rfl rfl rfl rfl (.own rfl rfl) rfl rfl rfl ?_;refine kW ?_
     exact⟨(i+n,(a::r)++[(k,(s.take (i+n)).drop i,i)]),⟨by dsimp only;omega,by rw[List.length_append];dsimp only[List.length_cons,List.length_nil]at h2 ⊢;omega,f,by dsimp only;omega,h3⟩,by dsimp only;omega,by
      exact Eq.mpr (congrArg (aV _) (pl s (a::r) (k,(s.take (i+n)).drop i,i) (i+n))) (aV.trans (b:=⟨[(0, .d (dL s)),(2, .nil),(3, .d (dN .i64 0)),(4, .d (dN .i64 0)),(5, .own 13002 ((a::r).length+1) 3 68),(6, .d (dN .i64 ((i+n:Nat))))],[(13002,some ((co (a::r)).take ((a::r).length*3)++iB (k,(s.take (i+n)).drop i,i)))]⟩) (weak ⟨rfl,rfl,rfl,rfl,rfl,aG (by omega) (by omega),trivial⟩ ⟨rfl,trivial⟩ rfl) ((ax (q:=5) (j:=13002) (j':=13001) (m:=(a::r).length+1) (k:=3) (e:=68) (cs:=(co (a::r)).take ((a::r).length*3)++iB (k,(s.take (i+n)).drop i,i)) rfl rfl rfl rfl).trans (weak ⟨rfl,rfl,rfl,rfl,rfl,rfl,trivial⟩ ⟨rfl,trivial⟩ rfl)))⟩
    ·rw[if_neg (fun h=>hk h.1),List.drop_drop]at h3
     refine kE ?_;refine kG ?_
     iterate 6 refine kO ?_
     refine kJ ((i+n:Nat)) ?_;refine iP ab (l:=s) (i:=i) (j:=i+n) (by omega) (by omega) rfl rfl rfl rfl rfl rfl rfl rfl rfl ?_;rw[← htx]at h3
     refine kO3 ?_
     refine bI 13002 (m1:=(a::r).length) (m2:=1) ab (by decide) (by show((a::r).length+1)*32≤_;omega) rfl rfl rfl rfl rfl rfl rfl rfl rfl rfl rfl (.own rfl rfl) rfl rfl rfl ?_;refine kW ?_
     exact⟨(i+n,(a::r)++[(k,(s.take (i+n)).drop i,i)]),⟨by dsimp only;omega,by rw[List.length_append];dsimp only[List.length_cons,List.length_nil]at h2 ⊢;omega,f,by dsimp only;omega,h3⟩,by dsimp only;omega,by
      exact Eq.mpr (congrArg (aV _) (pl s (a::r) (k,(s.take (i+n)).drop i,i) (i+n))) (aV.trans (b:=⟨[(0, .d (dL s)),(2, .nil),(3, .d (dN .i64 0)),(4, .d (dN .i64 0)),(5, .own 13002 ((a::r).length+1) 3 68),(6, .d (dN .i64 ((i+n:Nat))))],[(13002,some ((co (a::r)).take ((a::r).length*3)++iB (k,(s.take (i+n)).drop i,i)))]⟩) (weak ⟨rfl,rfl,rfl,rfl,rfl,aG (by omega) (by omega),trivial⟩ ⟨rfl,trivial⟩ rfl) ((ax (q:=5) (j:=13002) (j':=13001) (m:=(a::r).length+1) (k:=3) (e:=68) (cs:=(co (a::r)).take ((a::r).length*3)++iB (k,(s.take (i+n)).drop i,i)) rfl rfl rfl rfl).trans (weak ⟨rfl,rfl,rfl,rfl,rfl,rfl,trivial⟩ ⟨rfl,trivial⟩ rfl)))⟩
 ·refine kE ?_
  obtain rfl:i=s.length:=by omega
  rw[List.drop_eq_nil_of_le (Nat.le_refl _),dl]at h3;refine kN ?_;refine av (T:=TT) ?_;refine bK (T:=TT) rfl ?_;refine cV ?_;refine kI ?_
  refine kO2 ?_
  refine fo (v':= .int .i64 ((s.length:Nat))) rfl rfl rfl rfl ?_ ?_
  ·exact congrArg (Value.int .i64) (by rw[hB])
  refine kO2 ?_
  cases acc with
  |nil=>
   refine bI 15002 (m1:=0) (m2:=1) ab (by decide) (by decide) rfl rfl rfl rfl rfl rfl rfl rfl rfl rfl rfl (.nil rfl rfl) rfl rfl rfl ?_;refine vn ab rfl rfl rfl rfl (cG (q:=2) rfl rfl) ?_;rw[← h3];exact kF
  |cons a r=>
   refine bI 15002 (m1:=(a::r).length) (m2:=1) ab (by decide) (by show((a::r).length+1)*32≤_;omega) rfl rfl rfl rfl rfl rfl rfl rfl rfl rfl rfl (.own rfl rfl) rfl rfl rfl ?_
   have hV:jO R= .tup [.leaf (.sl ((a::r).length+1) ((co (a::r)).take ((a::r).length*3)++iB (0,[],s.length))),dN .i64 0,dN .i64 0]:=by
    rw[← h3,jO,ls,qP,List.length_append];rfl
   refine vn ab rfl rfl rfl rfl (cG (q:=2) rfl rfl) ?_;rw[hV];exact kF
theorem jr {p:UInt8→Bool} {s:List UInt8} {i j:Nat} (hij:i≤j) (hj:j≤s.length) (hq:∀(q:Nat) c,i≤q→q<j→s[q]? =some c→p c=true) (he:j=s.length∨ ∃c,s[j]? =some c∧p c=false):i+bf p (s.drop i)=j:=by
 have h1:bf p (s.drop i)=j-i:=by
  refine nc (fun q c h1 h2=>?_) ?_
  ·rw[List.getElem?_drop]at h2
   exact hq (i+q) c (by omega) (by omega) h2
  ·rcases he with he| ⟨c,h1,h2⟩
   ·exact .inl ⟨List.getElem?_eq_none (by rw[List.length_drop];omega),by rw[List.length_drop];omega⟩
   ·exact .inr ⟨c,by rw[List.getElem?_drop,show i+(j-i)=j by omega];exact h1,h2⟩
 omega
theorem lH (s:List UInt8) (i:Nat) (hi:i≤s.length) (hl:s.length≤4611686018427387904):aa Tryz.prog 114 [dL s,dN .i64 i] (.one (dN .i64 ((i+bf cH (s.drop i):Nat)))):=by
 have hB:=aB s;generalize hR:i+bf cH (s.drop i)=R;refine kV func114 ?_
 refine aS Nat (fun j=>i≤j∧j≤s.length∧ ∀(q:Nat) c,i≤q→q<j→s[q]? =some c→cH c=true) (fun j=>⟨[(0, .d (dL s)),(1, .d (dN .i64 j)),(4, .d (dN .i64 0))],[]⟩) (fun j=>s.length-j) i ⟨Nat.le_refl _,hi,fun q c h1 h2=>by omega⟩
  (weak ⟨rfl,rfl,rfl,trivial⟩ trivial rfl) ?_
 rintro j ⟨h1,h2,hq⟩;refine kI ?_
 refine kO3 ?_
 by_cases hlt:j<s.length
 ·have hx:s[j]? =some s[j]:=by simp[hlt]
  have hc:=mz s[j];refine kT ?_
  refine kO3 ?_
  refine ap ab (i:=j) (c:=s[j]) hx rfl rfl rfl rfl rfl rfl rfl rfl ?_;cases hb:cH s[j]
  ·rw[hb]at hc
   refine kQ (hc) ?_;rw[← hR,jr h1 h2 hq (.inr ⟨_,hx,hb⟩)];exact bu (T:=TT) rfl rfl
  ·rw[hb]at hc
   refine kQ (hc) ?_
   exact⟨j+1,⟨by omega,hlt,fun q c h3 h4 h5=>by
    by_cases e:q=j
    ·subst e;rw[hx]at h5;cases h5;exact hb
    ·exact hq q c h3 (by omega) h5⟩,by omega,weak ⟨rfl,aG (by omega) (by omega),rfl,trivial⟩ trivial rfl⟩
 ·refine kE ?_
  refine kW ?_;rw[← hR,jr h1 h2 hq (.inl (by omega))];exact bu (T:=TT) rfl rfl
def xR (s:List UInt8):Nat:=match s with
 | []=>0
 |c::_=>if ez c then bf gJ s else 0
theorem xP (s:List UInt8) (i:Nat) (hi:i≤s.length) (hl:s.length≤4611686018427387904):aa Tryz.prog 72 [dL s,dN .i64 i] (.one (dN .i64 ((i+xR (s.drop i):Nat)))):=by
 have hB:=aB s
 by_cases hend:i=s.length
 ·rw[List.drop_eq_nil_of_le (by omega)]
  refine kU func72 ?_;refine kR ?_;refine kI ?_
  refine kO3 ?_
  refine kT ?_;exact kF
 have hlt0:i<s.length:=by omega
 have hx0:s[i]? =some s[i]:=by simp
 have hdrop:=List.drop_eq_getElem_cons hlt0;have hc0:=lP s[i];cases hb0:ez s[i]
 ·rw[hb0]at hc0
  have hw:xR (s.drop i)=0:=by rw[hdrop];simp[xR,hb0]
  rw[hw,Nat.add_zero];refine kU func72 ?_;refine kR ?_;refine kI ?_
  refine kO3 ?_
  refine kE ?_
  refine kO3 ?_
  refine ap ab (i:=i) (c:=s[i]) hx0 rfl rfl rfl rfl rfl rfl rfl rfl ?_;refine kC (hc0) ?_;exact kF
 ·rw[hb0]at hc0
  have hw:xR (s.drop i)=bf gJ (s.drop i):=by rw[hdrop];simp[xR,hb0]
  rw[hw];generalize hR:i+bf gJ (s.drop i)=R;refine kU func72 ?_;refine kR ?_;refine kI ?_
  refine kO3 ?_
  refine kE ?_
  refine kO3 ?_
  refine ap ab (i:=i) (c:=s[i]) hx0 rfl rfl rfl rfl rfl rfl rfl rfl ?_;refine kQ (hc0) ?_
  refine aS Nat (fun j=>i≤j∧j≤s.length∧ ∀(q:Nat) c,i≤q→q<j→s[q]? =some c→gJ c=true) (fun j=>⟨[(0, .d (dL s)),(1, .d (dN .i64 j)),(4, .d (dN .i64 0))],[]⟩) (fun j=>s.length-j) i ⟨Nat.le_refl _,hi,fun q c h1 h2=>by omega⟩
   (weak ⟨rfl,rfl,rfl,trivial⟩ trivial rfl) ?_
  rintro j ⟨h1,h2,hq⟩;refine kI ?_
  refine kO3 ?_
  by_cases hlt:j<s.length
  ·have hx:s[j]? =some s[j]:=by simp[hlt]
   have hcl:=lP s[j];have hcd:=mz s[j]
   have hnext:gJ s[j]=true→ ∀(q:Nat) c,i≤q→q<j+1→s[q]? =some c→gJ c=true:=fun hv q c h3 h4 h5=>by
    by_cases e:q=j
    ·subst e;rw[hx]at h5;cases h5;exact hv
    ·exact hq q c h3 (by omega) h5
   refine kT ?_
   refine kO3 ?_
   refine ap ab (i:=j) (c:=s[j]) hx rfl rfl rfl rfl rfl rfl rfl rfl ?_;cases hbl:ez s[j]
   ·rw[hbl]at hcl
    refine kC (hcl) ?_
    refine kO3 ?_
    refine ap ab (i:=j) (c:=s[j]) hx rfl rfl rfl rfl rfl rfl rfl rfl ?_;cases hbd:cH s[j]
    ·rw[hbd]at hcd
     refine kC (hcd) ?_
     refine kO4 ?_
     refine ap ab (i:=j) (c:=s[j]) hx rfl rfl rfl rfl rfl rfl rfl rfl ?_
     by_cases h95:s[j].toNat=95
     ·refine kT ?_
      refine kW ?_;exact⟨j+1,⟨by omega,hlt,hnext (by simp[gJ,h95])⟩,by omega,weak ⟨rfl,aG (by omega) (by omega),rfl,trivial⟩ trivial rfl⟩
     ·refine kE ?_
      refine kW ?_;rw[← hR,jr h1 h2 hq (.inr ⟨_,hx,by simp[gJ,hbl,hbd,h95]⟩)];exact bu (T:=TT) rfl rfl
    ·rw[hbd]at hcd
     refine kQ (hcd) ?_;exact⟨j+1,⟨by omega,hlt,hnext (by simp[gJ,hbd])⟩,by omega,weak ⟨rfl,aG (by omega) (by omega),rfl,trivial⟩ trivial rfl⟩
   ·rw[hbl]at hcl
    refine kQ (hcl) ?_;exact⟨j+1,⟨by omega,hlt,hnext (by simp[gJ,hbl])⟩,by omega,weak ⟨rfl,aG (by omega) (by omega),rfl,trivial⟩ trivial rfl⟩
  ·refine kE ?_
   refine kW ?_;rw[← hR,jr h1 h2 hq (.inl (by omega))];exact bu (T:=TT) rfl rfl
end Go.Proofs.YtikbnnljjeefgaaGreatDoor
