/- Parts of a proof: contracts of the functions that the laws reach. -/
import Derived.Test.YtnchbpoopnjghaaGreatDoorQZ9
set_option maxHeartbeats 100000000
set_option linter.all false
open Go.Proofs.Tryz
namespace Go.Proofs.YtnchbpoopnjghaaGreatDoor
open Go.RowKit
theorem nv (x:Rx) (hx:j3 x):aa Tryz.prog 19 [dR x] (.one (dB (decide (qH x 120<=120) && oB x))):=by
 have c1:=JT x hx 120 D_;have c2:=Jj x hx;have hn:=sh x 120;obtain⟨o1,na1,xs1,nb1,ys1,nm1,n1,cs1,hA⟩:=aY x;rw[show dR x= .agg (ab o1 na1 xs1 nb1 ys1 nm1 n1 cs1) from congrArg DV.agg hA]at c1 c2 ⊢;generalize qH x 120=k at *
 by_cases hk:k<=120
 ·rw[T_ hk,Bool.true_and]
  refine kV func19 ?_;refine kC (c1) ?_;refine kX ?_;refine kC (c2) ?_;exact aj
 ·rw[F_ hk,Bool.false_and]
  refine kV func19 ?_;refine kC (c1) ?_;refine kE ?_;exact aj
inductive Ds:Rx->Prop
 |mk {op:Int} {na:Bool} {xs:List Nat} {nb:Bool} {ys:List Nat} {nm:List UInt8} {args:List Rx}:xs.length<=510->ys.length<=510->nm.length<=65536->(∀x∈args,Ds x)->Ds (.mk op na xs nb ys nm args)
theorem Ds.of_lt:∀x,oB x=true->Ds x:=by
 refine eM fun op na xs nb ys nm args ih hlt=>?_
 rw[oB,B_,B_,B_,decide_eq_true_eq,decide_eq_true_eq,decide_eq_true_eq]at hlt;obtain⟨hla,⟨l1,l2⟩,l3⟩:=hlt;exact .mk O_ O_ O_ fun y hy=>ih y hy (rN hla y hy)
theorem nF {na nb:Bool} {xs ys:List Nat} {q:Rat} (e:ED na xs nb ys=aQ q) (e1:xs=digs q.num.natAbs) (e2:ys=digs (q.den:Int).natAbs) (hv:fQ na xs nb ys=true):mw na xs nb ys=gg q:=by
 have e3:na=decide (q.num<0):=by
  have:=congrArg (fun l:List AV=>l[0]?) e;exact CS
 have e4:nb=decide ((q.den:Int)<0):=by
  have:=congrArg (fun l:List AV=>l[2]?) e;exact CS
 unfold mw;rw[if_pos hv]
 congr 1
 have t1:bI na xs=q.num:=by
  rw[e1,e3,zj]
  by_cases h:q.num<0
  ·rw[T_ h,if_pos rfl];omega
  ·rw[F_ h,if_neg D_];omega
 have t2:bI nb ys=q.den:=by
  rw[e2,e4,zj,F_ O_,if_neg D_];omega
 rw[t1,t2,Rat.num_divInt_den]
theorem zf {na nb:Bool} {xs ys:List Nat} (hw:Wd xs) (hw':Wd ys) (h1:xs.length<=510) (h2:ys.length<=510):
 ∃t,aa Tryz.prog 111 [Lq na xs nb ys] (.tup [dL t,dB (mw na xs nb ys).isSome])/\ ∀u,mw na xs nb ys=some u->t=u:=by
 cases hv:fQ na xs nb ys with
 |false=>
  have hd:mw na xs nb ys=none:=if_neg (by rw[hv];decide);rw[hd];refine⟨[],?_,fun u h=>by cases h⟩;refine kV func111 ?_;refine ac (mY hw hw' (V_ h1 D_) (V_ h2 D_) hv) rfl rfl rfl rfl rfl rfl rfl ?_;exact aj
 |true=>
  obtain⟨q,e,e1,e2⟩:=pu hw hw' hv;have sq:b8 510 q:=⟨Sz.of_digs (by rw[<- e1];exact h1),Sz.of_digs (by rw[<- e2];exact h2)⟩;rw[nF e e1 e2 hv,show Lq na xs nb ys=dQ q from congrArg DV.agg e];exact zH sq D_
theorem FG {na nb:Bool} {xs ys:List Nat} (hw:Wd xs) (hw':Wd ys) (h1:xs.length<=510) (h2:ys.length<=510):
 ∃t,aa Tryz.prog 125 [Lq na xs nb ys] (.tup [dL t,dB (mw na xs nb ys).isSome])/\ ∀u,mw na xs nb ys=some u->t=u:=by
 cases hv:fQ na xs nb ys with
 |false=>
  have hd:mw na xs nb ys=none:=if_neg (by rw[hv];decide);rw[hd];refine⟨[],?_,fun u h=>by cases h⟩;refine kV func125 ?_;refine ac (qe hw hw' (V_ h1 D_) (V_ h2 D_) hv) rfl rfl rfl rfl rfl rfl rfl ?_;exact aj
 |true=>
  obtain⟨q,e,e1,e2⟩:=pu hw hw' hv;have sq:b8 510 q:=⟨Sz.of_digs (by rw[<- e1];exact h1),Sz.of_digs (by rw[<- e2];exact h2)⟩;rw[nF e e1 e2 hv,show Lq na xs nb ys=dQ q from congrArg DV.agg e];exact iU sq D_
def oW (na:Bool) (xs:List Nat) (nb:Bool) (ys:List Nat):Bool:=!na && (!nb && (decide (xs.length=0) && decide (ys.length=0)))
theorem A7 {na nb:Bool} {xs ys:List Nat} (h:oW na xs nb ys=true):na=false/\nb=false/\xs=[]/\ys=[]:=by
 unfold oW at h
 simp only[B_,Bool.not_eq_true',decide_eq_true_eq]at h
 exact⟨h.1,h.2.1,E_ h.2.2.1,E_ h.2.2.2⟩
def qN (op:Int) (d p m:Bool) (nm:List UInt8) (n:Nat):Bool:=if op=1 then d && (decide (nm=[]) || m) && decide (n=0)else if op=2 then p && m && decide (n=0)else if op=3 then p && decide (nm=[]) && decide (n=1)
 else if op=4∨op=5∨op=6∨op=7 then p && decide (nm=[]) && decide (n=2)else false
theorem JO {op:Int} {na:Bool} {xs:List Nat} {nb:Bool} {ys:List Nat} {nm:List UInt8} {args:List Rx} {t:List UInt8} {d m:Bool} (hdec:aa Tryz.prog 111 [Lq na xs nb ys] (.tup [dL t,dB d])) (hm:aa Tryz.prog 52 [dL nm] (.one (dB m))):
 aa Tryz.prog 129 [dR (.mk op na xs nb ys nm args)] (.one (dB (qN op d (oW na xs nb ys) m nm args.length))):=by
 obtain⟨b,hbb⟩:∃b,qN op d (oW na xs nb ys) m nm args.length=b:=⟨_,rfl⟩;have b1:op=1->b=(d && (decide (nm=[]) || m) && decide (args.length=0)):=fun h=>by rw[<- hbb,qN,if_pos h]
 have b2:op=2->b=(oW na xs nb ys && m && decide (args.length=0)):=fun h=>by rw[<- hbb,qN,if_neg O_,if_pos h]
 have b3:op=3->b=(oW na xs nb ys && decide (nm=[]) && decide (args.length=1)):=fun h=>by rw[<- hbb,qN,if_neg O_,if_neg O_,if_pos h]
 have b4:op=4∨op=5∨op=6∨op=7->b=(oW na xs nb ys && decide (nm=[]) && decide (args.length=2)):=fun h=>by rw[<- hbb,qN,if_neg O_,if_neg O_,if_neg O_,if_pos h]
 have b0:op≠1->op≠2->op≠3->op≠4->op≠5->op≠6->op≠7->b=false:=fun h1 h2 h3 h4 h5 h6 h7=>by rw[<- hbb,qN,if_neg h1,if_neg h2,if_neg h3,if_neg O_]
 rw[hbb];clear hbb;show aa Tryz.prog _ [.agg (ab op na xs nb ys nm args.length (fG args))] _;generalize hp:oW na xs nb ys=p at *;refine kU func129 ?_;refine kR ?_;refine lL ⟨[(1, .box 0 0),(3, .d (dB p))],[(0,some (ab op na xs nb ys nm args.length (fG args)))]⟩ (fun s' hw2=>?_) (fun R hR _=>?_)
 ·refine dh hw2 rfl ?_
  by_cases o1:op=1
  ·have hb:=b1 o1
   clear b1 b2 b3 b4 b0;subst o1;refine kW ?_;refine kC (hdec) ?_;cases d
   ·exact pW
   ·refine kG ?_
    refine kO4 ?_
    by_cases hnm:nm=[]
    ·refine ax rfl rfl rfl rfl rfl rfl rfl (aU (a:=nm) (b:=[]) hnm) ?_
     iterate 10 refine kO ?_
     by_cases hl:args.length=0
     ·exact I5
     ·exact Ib
    ·refine He ?_
     refine kO3 ?_
     refine kC (hm) ?_;cases m
     ·exact JI
     ·iterate 6 refine kO ?_
      exact Qy
  by_cases o2:op=2
  ·have hb:=b2 o2
   clear b1 b2 b3 b4 b0;subst o2;cases p
   ·exact pW
   ·refine kW ?_
    refine kC (hm) ?_;cases m
    ·exact pW
    ·refine kO5 ?_
     exact Qy
  by_cases o3:op=3
  ·have hb:=b3 o3
   clear b1 b2 b3 b4 b0;subst o3;cases p
   ·exact pW
   ·iterate 4 refine kG ?_
    refine kO4 ?_
    by_cases hnm:nm=[]
    ·refine Qr ?_
     by_cases hl:args.length=1
     ·exact I5
     ·exact Ib
    ·refine He ?_
     exact JI
  by_cases o4:op=4
  ·have hb:=b4 O_
   clear b1 b2 b3 b4 b0;subst o4;cases p
   ·exact pW
   ·iterate 5 refine kG ?_
    exact EC
  by_cases o5:op=5
  ·have hb:=b4 O_
   clear b1 b2 b3 b4 b0;subst o5;cases p
   ·exact pW
   ·iterate 6 refine kG ?_
    exact EC
  by_cases o6:op=6
  ·have hb:=b4 O_
   clear b1 b2 b3 b4 b0;subst o6;cases p
   ·exact pW
   ·iterate 7 refine kG ?_
    exact EC
  by_cases o7:op=7
  ·have hb:=b4 O_
   clear b1 b2 b3 b4 b0;subst o7;cases p
   ·exact pW
   ·iterate 8 refine kG ?_
    exact EC
  obtain rfl:b=false:=b0 o1 o2 o3 o4 o5 o6 o7;refine kG ?_;refine kB false ?_ ?_
  ·exact F_ o1
  refine kG ?_;refine kB false ?_ ?_
  ·exact F_ o2
  refine kG ?_;refine kB false ?_ ?_
  ·exact F_ o3
  refine kG ?_;refine kB false ?_ ?_
  ·exact F_ o4
  refine kG ?_;refine kB false ?_ ?_
  ·exact F_ o5
  refine kG ?_;refine kB false ?_ ?_
  ·exact F_ o6
  refine kG ?_;refine kB false ?_ ?_
  ·exact F_ o7
  exact aj
 ·clear b1 b2 b3 b4 b0
  subst hp;cases na
  ·cases nb
   ·refine kG ?_
    iterate 18 refine kO ?_
    by_cases l1:xs.length=0
    ·refine kT ?_
     iterate 7 refine kO ?_
     by_cases l2:ys.length=0
     ·refine kT ?_
      refine kW ?_;rw[show oW false xs false ys=true by unfold oW;rw[T_ l1,T_ l2];rfl]at hR;exact hR _ kw
     ·refine kE ?_
      refine kW ?_;rw[show oW false xs false ys=false by unfold oW;rw[T_ l1,F_ l2];rfl]at hR;exact hR _ kw
    ·refine kE ?_
     refine kW ?_;rw[show oW false xs false ys=false by unfold oW;rw[F_ l1];rfl]at hR;exact hR _ kw
   ·refine kW ?_
    exact hR _ kw
  ·refine kW ?_
   exact hR _ kw
mutual
def sQ:Rx->Bool
 | .mk op na xs nb ys nm args=>qN op (mw na xs nb ys).isSome (oW na xs nb ys) (pO nm) nm args.length && lD args
def lD:List Rx->Bool
 | []=>true
 |y::r=>sQ y && lD r
end
theorem nU:∀l:List Rx,lD l=l.all sQ
 | []=>by simp[lD]
 |y::r=>by rw[lD,nU r,List.all_cons]
theorem ux:∀(x:Rx),j3 x->Ds x->aa Tryz.prog 89 [dR x] (.one (dB (sQ x))):=by
 refine eM fun op na xs nb ys nm args ih hx hlt=>?_
 obtain⟨_,_,hw,hw',hnm,hlen,hargs⟩:=hx;obtain⟨l1,l2,l3,hla⟩:=hlt;obtain⟨t,hdec,_⟩:=zf (na:=na) (nb:=nb) hw hw' l1 l2;have hm:=lQ nm O_;have hsh:=JO (op:=op) (args:=args) hdec hm;rw[sQ,nU];generalize qN op (mw na xs nb ys).isSome (oW na xs nb ys) (pO nm) nm args.length=s0 at *;have hsh:aa Tryz.prog 129 [.agg (ab op na xs nb ys nm args.length (fG args))] (.one (dB s0)):=hsh;refine BO ?_;cases s0 with
 |false=>
  rw[Bool.false_and];refine kV func89 ?_;refine kC (hsh) ?_;exact aj
 |true=>
  rw[Bool.true_and];refine kV func89 ?_;refine kQ (hsh) ?_
  refine aq Nat (fun i=>i<=args.length/\ ∀(q:Nat) y,q<i->args[q]? =some y->sQ y=true) (fun i=>⟨[(1, .box 0 0),(2, .d (dB false)),(3, .d (dN .i64 i))],[(0,some (ab op na xs nb ys nm args.length (fG args)))]⟩) (fun i=>args.length-i) 0 ⟨Nat.zero_le _,fun q y h=>absurd h (Nat.not_lt_zero _)⟩
   kw ?_
  rintro i ⟨hi,hq⟩;refine kI ?_
  refine kO4 ?_
  by_cases hlt:i<args.length
  ·refine kT ?_
   obtain⟨o1,na1,xs1,nb1,ys1,nm1,n1,cs1,hA⟩:=aY args[i];have hx:args[i]? =some args[i]:=by simp[hlt]
   have hat:∀(j:Nat) (a:AV),(ab o1 na1 xs1 nb1 ys1 nm1 n1 cs1)[j]? =some a->(fG args)[i*7+j]? =some a:=fun j a h=>eX args i args[i] hx j a (by rw[hA];exact h)
   have c:=ih args[i] (List.getElem_mem hlt) (hargs _ (List.getElem_mem hlt)) (hla _ (List.getElem_mem hlt));rw[show dR args[i]= .agg (ab o1 na1 xs1 nb1 ys1 nm1 n1 cs1) from congrArg DV.agg hA]at c;refine E7 ?_;refine kO ?_;cases hb:sQ args[i]
   ·rw[hb]at c
    refine kQ (c) ?_
    rw[show args.all sQ=false by
     cases h:args.all sQ
     ·rfl
     ·rw[I_.1 h _ (List.getElem_mem hlt)]at hb;cases hb]
    exact bK (T:=TT) rfl rfl
   ·exact O3
  ·refine kE ?_
   refine kW ?_
   rw[show args.all sQ=true by
    rw[I_];intro y hy;obtain⟨q,h⟩:=W_ hy;exact hq q y (by have:=(G_.1 h).1;omega) h]
   exact bK (T:=TT) rfl rfl
def iH (x:Rx):Int:=if sQ x=true then(if uq x<=40 then 0 else 3)else 1
theorem jw (x:Rx) (hx:j3 x) (hl:Ds x) (hs:f8 x<=1000000):aa Tryz.prog 48 [dR x] (.one (dN .i64 (iH x))):=by
 have c1:=ux x hx hl;have c2:=Kh x hx hs;obtain⟨o1,na1,xs1,nb1,ys1,nm1,n1,cs1,hA⟩:=aY x;rw[show dR x= .agg (ab o1 na1 xs1 nb1 ys1 nm1 n1 cs1) from congrArg DV.agg hA]at c1 c2 ⊢;unfold iH;cases hb:sQ x with
 |false=>
  rw[hb]at c1;rw[if_neg D_];refine kU func48 ?_;exact kx
 |true=>
  rw[hb]at c1;rw[if_pos rfl]
  by_cases hd:uq x<=40
  ·rw[if_pos hd]
   refine kU func48 ?_;exact Ju
  ·rw[if_neg hd]
   refine kU func48 ?_;refine iQ ?_;refine kC (c2) ?_;refine kT ?_;exact aj
theorem xW:∀e,qB e->sQ (rx e)=true
 | .num v u,h=>by
  obtain⟨h1,h2,h3⟩:=h;show(qN 1 (mw (decide (v.num<0)) (digs v.num.natAbs) (decide ((v.den:Int)<0)) (digs (v.den:Int).natAbs)).isSome _ (pO u) u 0 && lD [])=true;rw[nF (q:=v) rfl rfl rfl (l7 v),h1,lD];rcases h3 with h|h<;>simp[qN,h]
 | .nam s,h=>by
  show(qN 2 _ (oW false [] false []) (pO s) s 0 && lD [])=true;have h:pO s=true:=h;rw[h,lD];rfl
 | .neg a,h=>by
  show(qN 3 (mw false [] false []).isSome (oW false [] false []) (pO []) [] 1 && lD [rx a])=true;rw[lD,lD,xW a h];rfl
 | .bin k a b,h=>by
  show(qN k.code (mw false [] false []).isSome (oW false [] false []) (pO []) [] 2 && lD [rx a,rx b])=true;rw[lD,lD,lD,xW a h.1,xW b h.2];cases k<;>rfl
theorem RA:∀(x:Rx),j3 x->Ds x->sQ x=true-> ∃e,x=rx e/\qB e:=by
 refine eM fun op na xs nb ys nm args ih hx hlt hf=>?_
 obtain⟨_,_,hw,hw',_,hlen,hargs⟩:=hx;obtain⟨l1,l2,l3,hla⟩:=hlt;rw[sQ,nU,B_]at hf;obtain⟨hsh,hall⟩:=hf;have hall:∀y∈args,∃e,y=rx e/\qB e:=fun y hy=>ih y hy (hargs y hy) (hla y hy) (I_.1 hall y hy)
 unfold qN at hsh
 split at hsh
 ·rename_i ho
  subst ho
  simp only[B_,Bool.or_eq_true,decide_eq_true_eq]at hsh
  obtain⟨⟨h1,h2⟩,h3⟩:=hsh;obtain rfl:=E_ h3;cases hv:fQ na xs nb ys with
  |false=>rw[mw,if_neg (by rw[hv];decide)]at h1;cases h1
  |true=>
   obtain⟨q,e,e1,e2⟩:=pu hw hw' hv;have sq:b8 510 q:=⟨Sz.of_digs (by rw[<- e1];exact l1),Sz.of_digs (by rw[<- e2];exact l2)⟩;rw[nF e e1 e2 hv]at h1
   have e3:na=decide (q.num<0):=by
    have:=congrArg (fun l:List AV=>l[0]?) e;exact CS
   have e4:nb=decide ((q.den:Int)<0):=by
    have:=congrArg (fun l:List AV=>l[2]?) e;exact CS
   subst e3 e4 e1 e2;exact⟨.num q nm,rfl,h1,sq,h2⟩
 ·split at hsh
  ·rename_i ho
   subst ho
   simp only[B_,decide_eq_true_eq]at hsh
   obtain⟨⟨h1,h2⟩,h3⟩:=hsh;obtain rfl:=E_ h3;obtain⟨rfl,rfl,rfl,rfl⟩:=A7 h1;exact⟨.nam nm,rfl,h2⟩
  ·split at hsh
   ·rename_i ho
    subst ho
    simp only[B_,decide_eq_true_eq]at hsh
    obtain⟨⟨h1,rfl⟩,h3⟩:=hsh;obtain⟨rfl,rfl,rfl,rfl⟩:=A7 h1
    match args,h3,hall with
    | [a],_,hall=>
     obtain⟨ea,rfl,oa⟩:=hall a S_;exact⟨.neg ea,rfl,oa⟩
   ·split at hsh
    ·rename_i ho
     simp only[B_,decide_eq_true_eq]at hsh
     obtain⟨⟨h1,rfl⟩,h3⟩:=hsh;obtain⟨rfl,rfl,rfl,rfl⟩:=A7 h1
     match args,h3,hall with
     | [a,b],_,hall=>
      obtain⟨ea,rfl,oa⟩:=hall a S_;obtain⟨eb,rfl,ob⟩:=hall b S_;rcases ho with rfl|rfl|rfl|rfl
      ·exact⟨.bin .add ea eb,rfl,oa,ob⟩
      ·exact⟨.bin .sub ea eb,rfl,oa,ob⟩
      ·exact⟨.bin .mul ea eb,rfl,oa,ob⟩
      ·exact⟨.bin .div ea eb,rfl,oa,ob⟩
    ·cases hsh
section
open Go.ChangeShapes Go.WideShapes Go.ChangeAt Go.RowKit Go.Joins
theorem yH {H:Type} {enc:TypeId × Value->H} {W:World} {P:Program} {L:List TypeId} (hL:tZ P L=true) {t:TypeId} (ht:t∈L) {fs:Array Field} (hu:P.underlying t=some (.struct fs)) {r:Reach} {b0:Nat} {v:Value} {d:DataW H} {p:List MemPlace} (hv:Value.okWide P W r b0 t v) (h:DataW.Trod enc P W 0 (fun _=>true) true t v d p):
 ∃n cs,DV.M (fun _=>False) W (.agg cs) v/\Sh P n t cs:=by
 obtain⟨cs,rfl,_⟩:=okWide_struct hu hv;obtain⟨n,xs,h1,h2⟩:=Ep hL ht h;exact⟨n,xs,R6 h1,h2⟩
end
section
open Go.ChangeShapes Go.WideShapes Go.ChangeAt Go.RowKit Go.Joins
def nA (l:List Int):List AV:=l.map fun z=>AV.val (.int .i64 z)
def uk (l:List Int):DV:= .leaf (.sl l.length (nA l))
theorem LZ {l:List Int} {i:Nat} {z:Int} (h:l[i]? =some z):(nA l)[i*1]? =some (.val (.int .i64 z)):=by simp[nA,h]
theorem bH {l:List Int} {i:Nat} {z:Int} (h:l[i]? =some z):∀(j:Nat) (a:AV),[AV.val (.int .i64 z)][j]? =some a->(nA l)[i*1+j]? =some a:=fun j a hj=>by
 cases j with
 |zero=>simp at hj;subst hj;exact LZ h
 |succ j=>simp at hj
def pR (k:Int):Option Kd:=if 1<=k/\k<=17 then ov[k.toNat-1]? else none
def RU (s:List UInt8):Int:=if ov.findIdx (fun r=>decide (r.nm=s))<17 then(ov.findIdx (fun r=>decide (r.nm=s)):Int)+1 else 0
structure Cn where
 k:Int
 ps:List Int
 cs:List Int
 vs:List Rx
 s:Int
def aC (c:Cn):List AV:=[.val (.int .i64 c.k), .sl c.ps.length (nA c.ps), .sl c.cs.length (nA c.cs), .sl c.vs.length (fG c.vs), .val (.int .i64 c.s)]
def dC (c:Cn):DV:= .agg (aC c)
def SU (z:Int):Prop:= -9223372036854775808<=z/\z<=9223372036854775807
structure Vi (c:Cn):Prop where
 k:SU c.k
 ps:∀z∈c.ps,SU z
 cs:∀z∈c.cs,SU z
 vs:∀x∈c.vs,j3 x
 s:SU c.s
def TB:List TypeId:=[30,27,40,38,36,4,34,135,3,9,28]
theorem K5:tZ Tryz.prog TB=true:=by kernel_rfl
theorem DE {n:Nat} {cs:List AV} (h:Sh Tryz.prog n 27 cs):∃l:List Int,cs=[.sl l.length (nA l)]/\ ∀z∈l,SU z:=by
 cases n with
 |zero=>exact h.elim
 |succ n=>
  simp only[Sh,underlying27]at h
  obtain⟨rows,rfl,_,hr⟩:=h
  have key:∀rows:List (List AV),(∀r∈rows,Sh Tryz.prog n 3 r/\r.length=Tryz.prog.cellsOf 3)-> ∃l:List Int,rows.length=l.length/\rows.flatten=nA l/\ ∀z∈l,SU z:=by
   intro rows
   induction rows with
   |nil=>intro _;exact⟨[],rfl,rfl,fun x hx=>by cases hx⟩
   |cons r rows ih=>
    intro hr;obtain⟨l,h1,h2,h3⟩:=ih (fun r hm=>hr r (by simp[hm]));obtain⟨i,h4,h5⟩:=xc (hr r S_).1;refine⟨i::l,by simp[h1],by rw[List.flatten_cons,h2,h4];rfl,fun x hx=>?_⟩;rcases f_.1 hx with rfl|hx
    ·exact h5
    ·exact h3 x hx
  obtain⟨l,h1,h2,h3⟩:=key rows hr;exact⟨l,by rw[h1,h2],h3⟩
set_option maxRecDepth 100000 in
theorem KV {n:Nat} {cs:List AV} (h:Sh Tryz.prog n 28 cs):∃l:List Rx,cs=[.sl l.length (fG l)]/\ ∀x∈l,j3 x:=by
 cases n with
 |zero=>exact h.elim
 |succ n=>
  simp only[Sh,underlying28]at h
  obtain⟨rows,rfl,_,hr⟩:=h
  have key:∀rows:List (List AV),(∀r∈rows,Sh Tryz.prog n 40 r/\r.length=Tryz.prog.cellsOf 40)-> ∃l:List Rx,rows.length=l.length/\rows.flatten=fG l/\ ∀x∈l,j3 x:=by
   intro rows
   induction rows with
   |nil=>intro _;exact⟨[],rfl,rfl,fun x hx=>by cases hx⟩
   |cons r rows ih=>
    intro hr;obtain⟨l,h1,h2,h3⟩:=ih (fun r hm=>hr r (by simp[hm]));obtain⟨x,h4,h5⟩:=Er n _ (hr r S_).1;refine⟨x::l,by simp[h1],by rw[List.flatten_cons,h2,h4];rfl,fun y hy=>?_⟩;rcases f_.1 hy with rfl|hy
    ·exact h5
    ·exact h3 y hy
  obtain⟨l,h1,h2,h3⟩:=key rows hr;exact⟨l,by rw[h1,h2],h3⟩
set_option maxRecDepth 100000 in
theorem Nu {n:Nat} {cs:List AV} (h:Sh Tryz.prog n 30 cs):∃c:Cn,cs=aC c/\Vi c:=by
 cases n with
 |zero=>exact h.elim
 |succ n=>
  simp only[Sh,underlying30,List.forall_mem_cons,List.not_mem_nil,false_imp_iff,implies_true,and_true]at h
  obtain⟨hl,h0,h1,h2,h3,h4⟩:=h;rw[show Tryz.prog.cellsOf 30=5 by kernel_rfl]at hl;rw[show Tryz.prog.cellsOf 3=1 by kernel_rfl]at h0 h4;rw[show Tryz.prog.cellsOf 27=1 by kernel_rfl]at h1 h2;rw[show Tryz.prog.cellsOf 28=1 by kernel_rfl]at h3
  match cs,hl with
  | [c0,c1,c2,c3,c4],_=>
   obtain⟨k,e0,hk⟩:=xc h0;obtain⟨p,e1,hp⟩:=DE h1;obtain⟨q,e2,hq⟩:=DE h2;obtain⟨v,e3,hv⟩:=KV h3;obtain⟨s,e4,hs⟩:=xc h4
   simp at e0 e1 e2 e3 e4
   exact⟨⟨k,p,q,v,s⟩,by rw[e0,e1,e2,e3,e4];rfl,hk,hp,hq,hv,hs⟩
set_option maxRecDepth 100000 in
theorem Gl {H:Type} {enc:TypeId × Value->H} {W:World} {r:Reach} {b0:Nat} {v:Value} {d:DataW H} {p:List MemPlace} (hv:Value.okWide Tryz.prog W r b0 30 v) (h:DataW.Trod enc Tryz.prog W 0 (fun _=>true) true 30 v d p):
 ∃c:Cn,DV.M (fun _=>False) W (dC c) v/\Vi c:=by
 obtain⟨n,cs,h1,h2⟩:=yH K5 D_ underlying30 hv h;obtain⟨c,rfl,h3⟩:=Nu h2;exact⟨c,h1,h3⟩
end
theorem y7 {x:UInt8} {b a t:List UInt8} (hx:x ∉ a) {i:Nat} (hi:i<a.length):Lib.occAt (a++t) (x::b) i=false:=by
 cases h:Lib.occAt (a++t) (x::b) i with
 |false=>rfl
 |true=>
  have:=Lib.occAt_head rfl h;rw[List.getElem?_append_left hi]at this;exact absurd (M_ this) hx
theorem Rj {a t:List UInt8} (hx:(61:UInt8) ∉ a) (ht:t=[]∨ ∃t',t=32::t') {i:Nat} (hi:i<a.length):Lib.occAt (a++t) [32,61,32] i=false:=by
 cases h:Lib.occAt (a++t) [32,61,32] i with
 |false=>rfl
 |true=>
  have:=Lib.occAt_second rfl h
  by_cases h1:i+1<a.length
  ·rw[List.getElem?_append_left h1]at this
   exact absurd (M_ this) hx
  ·rw[g_ O_,show i+1-a.length=0 by omega]at this
   rcases ht with rfl| ⟨t',rfl⟩<;>simp at this
theorem EZ {a b r:List UInt8} (h:∀i,i<a.length->Lib.occAt (a++(b++r)) b i=false):Lib.index (a++(b++r)) b=(a.length:Nat):=by
 refine Lib.index_first S_ ?_ h;unfold Lib.occAt;rw[List.drop_left];exact List.isPrefixOf_iff_prefix.2 ⟨r,rfl⟩
theorem y3 {b s:List UInt8} (hb:b≠[]) (h:∀i,i<s.length->Lib.occAt s b i=false):Lib.index s b= -1:=by
 refine Lib.index_none fun j hj=>?_
 by_cases hlt:j<s.length
 ·exact h j hlt
 ·cases ho:Lib.occAt s b j with
  |false=>rfl
  |true=>
   rcases Lib.occAt_room ho with h1|h1
   ·have:=List.length_pos_iff.2 hb;omega
   ·exact absurd h1 hb
theorem Rf {b s:List UInt8} (hb:b≠[]) (h:∀i,i<s.length->Lib.occAt s b i=false):Lib.cut s b=(s,[],false):=by
 unfold Lib.cut;rw[y3 hb h,if_neg D_]
theorem Mi {a:List UInt8} (hx:(61:UInt8) ∉ a):Lib.cut a [32,61,32]=(a,[],false):=Rf S_ fun i hi=>by have:=Rj (t:=[]) hx (.inl rfl) hi;simpa using this
theorem vc {s b:List UInt8} {i:Nat} (hb:b≠[]) (h:Lib.index s b=i):Lib.split s b=s.take i::Lib.split (s.drop (i+b.length)) b:=by
 unfold Lib.split;rw[Lib.count_hit hb h,Nat.add_comm,Lib.splitK,h,if_neg (by rw[beq_iff_eq];omega),Int.toNat_natCast,Nat.add_zero]
theorem ma {s b:List UInt8} (h:Lib.index s b= -1):Lib.split s b=[s]:=by
 unfold Lib.split;rw[Lib.count_miss h];rfl
theorem nY (x y b:List UInt8) (r:List (List UInt8)):Lib.join (x::y::r) b=x++(b++Lib.join (y::r) b):=by
 rw[Lib.join_cons,Lib.join_cons]
 simp[Lib.joinTail]
theorem tO {x:UInt8} {b:List UInt8}:∀(l:List (List UInt8)),l≠[]->(∀y∈l,x ∉ y)->Lib.split (Lib.join l (x::b)) (x::b)=l
 | [],h,_=>absurd rfl h
 | [y],_,hx=>by
  rw[Lib.join_one];exact ma (y3 S_ fun i hi=>by have:=y7 (b:=b) (t:=[]) (hx y S_) hi;simpa using this)
 |y::z::r,_,hx=>by
  have hy:=hx y S_;rw[nY,vc S_ (EZ fun _ hi=>y7 hy hi),List.take_left,<- e_,List.drop_left' S_,tO (z::r) S_ fun w hw=>hx w (by simp[f_.1 hw])]
def ua (m z:Int):Bool:=decide (0<=z) && decide (z<m)
def Rs:List Int->Bool
 | [p,q,r,s]=>!decide (p=q) && (!decide (r=s) && (!(decide (p=r) && decide (q=s)) && !(decide (p=s) && decide (q=r))))
 |_=>false
def AK (b:Bool) (s:Int):Bool:=if b=true then decide (s=1) || decide (s= -1)else decide (s=0)
def GA (c:Cn) (P Q:Int):Bool:=match pR c.k with
 |none=>false
 |some r=>(decide ((c.ps.length:Int)=r.p) && c.ps.all (ua P)) && ((decide ((c.cs.length:Int)=r.c) && c.cs.all (ua Q)) && (decide ((c.vs.length:Int)=r.n) && (c.vs.all (fun x=>decide (iH x=0)) && (AK r.s c.s &&
  (if 5<=c.k/\c.k<=8 then Rs c.ps else decide c.ps.Nodup && decide c.cs.Nodup)))))
theorem nw {c:Cn} {r:Kd} (h:pR c.k=some r) (P Q:Int):GA c P Q=((decide ((c.ps.length:Int)=r.p) && c.ps.all (ua P)) && ((decide ((c.cs.length:Int)=r.c) && c.cs.all (ua Q)) && (decide ((c.vs.length:Int)=r.n) && (c.vs.all (fun x=>decide (iH x=0)) && (AK r.s c.s &&
 (if 5<=c.k/\c.k<=8 then Rs c.ps else decide c.ps.Nodup && decide c.cs.Nodup)))))):=by unfold GA;rw[h]
theorem rz {c:Cn} (h:pR c.k=none) (P Q:Int):GA c P Q=false:=by unfold GA;rw[h]
def SQ (k:Int):List UInt8:=if k=17 then [111,117,116,115,105,100,101]else [108,101,102,116]
def SK (k:Int):List UInt8:=if k=17 then [105,110,115,105,100,101]else [114,105,103,104,116]
def Nl (z:Int):List UInt8:=112::fmt z
def Q3 (z:Int):List UInt8:=99::fmt z
def Mm (c:Cn):List (List UInt8):=if c.s=1 then [SQ c.k]else if c.s= -1 then [SK c.k]else []
def Vj (r:Kd) (c:Cn):List (List UInt8):=r.nm::(c.ps.map Nl++c.cs.map Q3++Mm c)
def KM (ts:List (List UInt8)):List UInt8:=if ts=[]then []else [32,61,32]++Lib.join ts [44,32]
def GN (r:Kd) (c:Cn) (ts:List (List UInt8)):List UInt8:=Lib.join (Vj r c) [32]++KM ts
def PU (x:UInt8) (w:List UInt8):Option Int:=match w with
 | []=>none
 |c::t=>if c=x then(match Lib.atoiAll t with| .ok v=>some v|_=>none)else none
theorem EA:ov.length=17:=rfl
theorem m5 {k:Int} {r:Kd} (h:pR k=some r):1<=k/\k<=17/\ov[k.toNat-1]? =some r:=by
 unfold pR at h
 split at h
 ·rename_i hk;exact⟨hk.1,hk.2,h⟩
 ·cases h
structure Vp (d:Cn) (r:Kd) (P Q:Int):Prop where
 k:pR d.k=some r
 pl:(d.ps.length:Int)=r.p
 p:∀z∈d.ps,0<=z/\z<P
 cl:(d.cs.length:Int)=r.c
 c:∀z∈d.cs,0<=z/\z<Q
 vl:(d.vs.length:Int)=r.n
 v:∀x∈d.vs,iH x=0
 s:AK r.s d.s=true
 e:(if 5<=d.k/\d.k<=8 then Rs d.ps else decide d.ps.Nodup && decide d.cs.Nodup)=true
theorem wB {c:Cn} {P Q:Int}:GA c P Q=true↔ ∃r,Vp c r P Q:=by
 cases hk:pR c.k with
 |none=>exact⟨fun h=>(by rw[rz hk]at h;cases h),fun⟨r,h⟩=>(by rw[h.k]at hk;cases hk)⟩
 |some r=>
  rw[nw hk]
  simp only[B_,I_,ua]
  exact⟨fun⟨⟨h1,h2⟩,⟨h3,h4⟩,h5,h6,h7,h8⟩=>⟨r,hk,h_ h1,fun z hz=>⟨h_ (h2 z hz).1,h_ (h2 z hz).2⟩,h_ h3,fun z hz=>⟨h_ (h4 z hz).1,h_ (h4 z hz).2⟩,h_ h5,fun x hx=>h_ (h6 x hx),h7,h8⟩,fun⟨r',h⟩=>by
   have:=h.k;rw[hk]at this;cases this;exact⟨⟨T_ h.pl,fun z hz=>⟨T_ (h.p z hz).1,T_ (h.p z hz).2⟩⟩,⟨T_ h.cl,fun z hz=>⟨T_ (h.c z hz).1,T_ (h.c z hz).2⟩⟩,T_ h.vl,fun x hx=>T_ (h.v x hx),h.s,h.e⟩⟩
theorem Ff {b:Bool} {s:Int} (h:AK b s=true):s=1∨s= -1∨s=0:=by
 unfold AK at h
 split at h
 ·simp at h;omega
 ·simp at h;omega
section
variable {P:Program} {T:TypeId->Option Ty} {n:Nat} {ops:Array Oper} {id:Nat} {draw:Bool} {K:AS->Prop} {s:AS} {k:Nat} {o:Oper} {os:List Oper} {fps:List FP}
theorem Jc {t e:TypeId} {x y:Operand} {m i q:Nat} {ik:IntKind} {cs cs':List AV} (hcs:∀(j:Nat) (a:AV),cs'[j]? =some a->cs[i*q+j]? =some a) (hu:P.underlying t=some (.array m e)) (hs:(P.info? e).map (·.size)=some q) (hi:i<m) (h1:gd ops s o=some true) (ho:o.op= .indexAddr t x y) (hx:s.ev x= .rp cs) (hy:s.ev y= .d (.leaf (.val (.int ik (i:Nat)))))
 (h3:aL n o.dst=true) (h4:fg draw ops (aA ops o ⟨.rp cs',none⟩ []) k fps=true) (h:ar P T n ops id draw K (k+1) os (s.eff o.dst ⟨.rp cs',none⟩) (aA ops o ⟨.rp cs',none⟩ []::fps)):ar P T n ops id draw K k (o::os) s fps:=
 .run h1 (.gen fun s2 ht _=>ak (tv:= .rp cs') fun n S0 w0 g a w hM=>by
  have hx2:=(aw ht (x:=x) (by simp[ho,Op.operands])).trans hx;have hy2:=(aw ht (x:=y) (by simp[ho,Op.operands])).trans hy;have h:=hM.ev x;rw[hx2]at h;obtain⟨b,off,f,e1,h1,h2,h3,h4⟩:=h;refine⟨.pointer (some ⟨b,off+i*q,none⟩),w,?_,Below.refl _ _,b,off+i*q,fun j=>f (i*q+j),rfl,h1,h2,fun j c hq=>?_,fun j c hq=>?_⟩
  ·refine P1 ?_
   have e2:(0:Int)<=i/\(i:Int)<m:=O_
   simp only[e2,and_self,if_true,Y_,bJ hs w,R_,a_,b7,Int.toNat_natCast]
  ·rw[Nat.add_assoc];exact h3 (i*q+j) c (hcs j c hq)
  ·exact h4 (i*q+j) c (hcs j c hq)) h3 h4 h
end
abbrev L8:=List UInt8
theorem D2 (x y:L8):decide (x<=y)=!Op.bytesLess y x:=by
 rw[bytesLess_eq];show decide (¬y<x)=_;rw[decide_not]
def zM (l:List L8):Prop:=l.Pairwise fun a b=>Op.bytesLess a b=true
theorem C4:∀{a b:List L8},zM a->zM b->(∀x,x∈a↔x∈b)->a=b
 | [],[],_,_,_=>rfl
 | [],y::b,_,_,h=>absurd ((h y).2 S_) S_
 |x::a,[],_,_,h=>absurd ((h x).1 S_) S_
 |x::a,y::b,ha,hb,h=>by
  have ha:=List.pairwise_cons.1 ha;have hb:=List.pairwise_cons.1 hb
  have e:x=y:=by
   rcases f_.1 ((h x).1 S_)with e|hx
   ·exact e
   ·rcases f_.1 ((h y).2 S_)with e|hy
    ·exact e.symm
    ·have:=fk (ha.1 y hy) (hb.1 x hx)
     rw[jE]at this;cases this
  subst e
  congr 1
  refine C4 ha.2 hb.2 fun z=>⟨fun hz=>?_,fun hz=>?_⟩
  ·rcases f_.1 ((h z).1 (List.mem_cons_of_mem _ hz))with rfl|hz'
   ·have:=ha.1 z hz;rw[jE]at this;cases this
   ·exact hz'
  ·rcases f_.1 ((h z).2 (List.mem_cons_of_mem _ hz))with rfl|hz'
   ·have:=hb.1 z hz;rw[jE]at this;cases this
   ·exact hz'
def ic:List L8->L8->List L8
 | [],x=>[x]
 |y::r,x=>if Op.bytesLess y x=true then y::ic r x else if y=x then y::r else x::y::r
theorem t6:∀{l:List L8} {x z:L8},z∈ic l x↔z=x∨z∈l
 | [],x,z=>by simp[ic]
 |y::r,x,z=>by
  have ih:=t6 (l:=r) (x:=x) (z:=z);unfold ic
  split
  ·simp only[f_,ih]
   constructor
   ·rintro(h|h|h)
    ·exact .inr (.inl h)
    ·exact .inl h
    ·exact .inr (.inr h)
   ·rintro(h|h|h)
    ·exact .inr (.inl h)
    ·exact .inl h
    ·exact .inr (.inr h)
  ·split
   ·rename_i e
    subst e
    simp only[f_]
    constructor
    ·exact fun h=> .inr h
    ·rintro(h|h)
     ·exact .inl h
     ·exact h
   ·simp only[f_]
theorem yU:∀{l:List L8} {x:L8},zM l->zM (ic l x)
 | [],x,_=>List.pairwise_singleton _ _
 |y::r,x,h=>by
  have h':=List.pairwise_cons.1 h;unfold ic
  split
  ·rename_i hy
   refine List.pairwise_cons.2 ⟨fun z hz=>?_,yU h'.2⟩;rcases t6.1 hz with rfl|hz
   ·exact hy
   ·exact h'.1 z hz
  ·split
   ·exact h
   ·rename_i h1 h2
    have hxy:Op.bytesLess x y=true:=by
     cases hb:Op.bytesLess x y
     ·exact absurd (oD (by simpa using h1) hb) h2
     ·rfl
    refine List.pairwise_cons.2 ⟨fun z hz=>?_,h⟩;rcases f_.1 hz with rfl|hz
    ·exact hxy
    ·exact fk hxy (h'.1 z hz)
def iz (l:List L8):List L8:=l.foldl ic []
theorem oE:∀(l acc:List L8),zM acc->zM (l.foldl ic acc)/\ ∀z,z∈l.foldl ic acc↔z∈acc∨z∈l
 | [],acc,h=>⟨h,fun z=>by simp⟩
 |x::l,acc,h=>by
  obtain⟨h1,h2⟩:=oE l (ic acc x) (yU h);refine⟨h1,fun z=>?_⟩;rw[List.foldl_cons,h2,t6,f_]
  constructor
  ·rintro((h|h)|h)
   ·exact .inr (.inl h)
   ·exact .inl h
   ·exact .inr (.inr h)
  ·rintro(h|h|h)
   ·exact .inl (.inr h)
   ·exact .inl (.inl h)
   ·exact .inr h
theorem Ch (l:List L8):zM (iz l):=(oE l [] List.Pairwise.nil).1
theorem gW (l:List L8) (z:L8):z∈iz l↔z∈l:=by
 rw[iz,(oE l [] List.Pairwise.nil).2]
 simp
theorem DC:∀{l:List L8} {x:L8} {k:Nat},k<=l.length->(∀(q:Nat) y,q<k->l[q]? =some y->Op.bytesLess y x=true)->(∀y,l[k]? =some y->Op.bytesLess y x=false)->ic l x=if l[k]? =some x then l else l.take k++x::l.drop k
 | [],x,k,hk,_,_=>by
  obtain rfl:k=0:=by simpa using hk
  rfl
 |y::r,x,0,_,_,h=>by
  have hy:=h y rfl;unfold ic;rw[if_neg (by rw[hy];decide)]
  by_cases e:y=x
  ·subst e;simp
  ·simp[e]
 |y::r,x,k+1,hk,hq,h=>by
  have ih:=DC (l:=r) (x:=x) (k:=k) (by simpa using hk) (fun q z h1 h2=>hq (q+1) z O_ (by simpa using h2)) (fun z hz=>h z (by simpa using hz));unfold ic;rw[if_pos (hq 0 y O_ rfl),ih]
  simp only[List.getElem?_cons_succ,List.take_succ_cons,List.drop_succ_cons]
  split <;>rfl
theorem xA (l:List L8) (x:L8):Lib.compact (l++[x])=Lib.compact l++if l.getLast? =some x then []else [x]:=by
 unfold Lib.compact;have hlen:(l++[x]).length=l.length+1:=S_
 rw[hlen,Lib.compactUpTo_succ]
 have hg:∀j,j<l.length->(l++[x]).toArray[j]! =l.toArray[j]!:=fun j hj=>by
  rw[getElem!_pos _ j (by simp;omega),getElem!_pos _ j (by simpa using hj)]
  simp[List.getElem_append_left hj]
 congr 1
 ·unfold Lib.compactUpTo
  have hk:∀j∈List.range l.length,Lib.keeps (l++[x]).toArray j=Lib.keeps l.toArray j:=fun j hj=>by
   have hj:=List.mem_range.1 hj;unfold Lib.keeps;rw[hg j hj];cases j with
   |zero=>simp
   |succ j=>rw[show j+1-1=j from rfl,hg j O_]
  rw[List.filter_congr hk];refine List.map_congr_left fun j hj=>?_
  exact hg j (List.mem_range.1 (List.mem_filter.1 hj).1)
 ·have hx:(l++[x]).toArray[l.length]! =x:=by
   rw[getElem!_pos _ _ S_]
   simp
  rw[hx]
  by_cases h0:l=[]
  ·subst h0
   rfl
  ·have hp:0<l.length:=List.length_pos_iff.2 h0
   have hlast:l.getLast? =some ((l++[x]).toArray[l.length-1]!):=by
    rw[hg _ O_,getElem!_pos _ _ (by simpa using by omega),List.getLast?_eq_getElem?]
    simp[hp]
   rw[hlast];unfold Lib.keeps;rw[hx]
   by_cases e:(l++[x]).toArray[l.length-1]! =x
   ·rw[if_neg,if_pos (by rw[e])]
    rw[decide_eq_true_eq];rintro(h|h)
    ·omega
    ·exact h e.symm
   ·rw[if_pos,if_neg (fun h=>e (Option.some.inj h))]
    rw[decide_eq_true_eq];exact .inr fun h=>e h.symm
theorem Bc:∀(n:Nat) (l:List L8),l.length=n->l.Pairwise (fun a b=>Op.bytesLess b a=false)->zM (Lib.compact l)/\ ∀z,z∈Lib.compact l↔z∈l:=by
 intro n
 induction n with
 |zero=>
  intro l hl _;obtain rfl:=E_ hl;exact⟨List.Pairwise.nil,fun z=>Iff.rfl⟩
 |succ n ih=>
  intro l hl hp;obtain⟨l,x,rfl⟩:∃l' x,l=l'++[x]:=⟨l.dropLast,l.getLast (by intro e;rw[e]at hl;cases hl),(List.dropLast_concat_getLast _).symm⟩;have hl':l.length=n:=by simpa using hl
  obtain⟨hp1,_,hp2⟩:=List.pairwise_append.1 hp;obtain⟨h1,h2⟩:=ih l hl' hp1;rw[xA]
  by_cases e:l.getLast? =some x
  ·rw[if_pos e,c_]
   refine⟨h1,fun z=>?_⟩;rw[h2,List.mem_append,d_]
   constructor
   ·exact .inl
   ·rintro(h|rfl)
    ·exact h
    ·exact List.mem_of_getLast? e
  ·rw[if_neg e]
   refine⟨List.pairwise_append.2 ⟨h1,List.pairwise_singleton _ _,fun a ha b hb=>?_⟩,fun z=>?_⟩
   ·rw[d_.1 hb]
    have ha:=(h2 a).1 ha
    obtain⟨y,hy⟩:∃y,l.getLast? =some y:=by
     cases hl:l.getLast? with
     |none=>rw[List.getLast?_eq_none_iff.1 hl]at ha;cases ha
     |some y=>exact⟨y,rfl⟩
    have hyl:=List.mem_of_getLast? hy
    have hyx:Op.bytesLess y x=true:=by
     cases hb2:Op.bytesLess y x
     ·exact absurd (by rw[hy,oD hb2 (hp2 y hyl x S_)]) e
     ·rfl
    by_cases ey:a=y
    ·rw[ey];exact hyx
    ·have hay:Op.bytesLess y a=false:=by
      obtain⟨l2,rfl⟩:∃l2,l=l2++[y]:=by
       refine⟨l.dropLast,?_⟩;have:=List.getLast?_eq_some_iff.1 hy;obtain⟨ys,rfl⟩:=this
       simp
      rcases List.mem_append.1 ha with ha|ha
      ·exact(List.pairwise_append.1 hp1).2.2 a ha y S_
      ·exact absurd (d_.1 ha) ey
     have hya:Op.bytesLess a y=true:=by
      cases hb3:Op.bytesLess a y
      ·exact absurd (oD hb3 hay) ey
      ·rfl
     exact fk hya hyx
   ·rw[List.mem_append,h2,List.mem_append]
theorem mN (l:List L8):Lib.compact (l.mergeSort fun x y=>decide (x<=y))=iz l:=by
 have hs:(l.mergeSort fun x y=>decide (x<=y)).Pairwise (fun a b=>Op.bytesLess b a=false):=by
  have:=List.pairwise_mergeSort (le:=fun x y:L8=>decide (x<=y)) (fun a b c h1 h2=>?_) (fun a b=>?_) l
  ·refine this.imp fun {a b} h=>?_
   rw[D2]at h
   simpa using h
  ·rw[D2]at h1 h2 ⊢
   simp only[Bool.not_eq_true']at h1 h2 ⊢
   cases hb:Op.bytesLess c a
   ·rfl
   ·cases h3:Op.bytesLess a b
    ·rw[oD h3 h1,h2]at hb;cases hb
    ·rw[fk hb h3]at h2;cases h2
  ·rw[D2,D2]
   cases h1:Op.bytesLess b a
   ·rfl
   ·cases h2:Op.bytesLess a b
    ·rfl
    ·have:=fk h1 h2;rw[jE]at this;cases this
 obtain⟨h1,h2⟩:=Bc _ _ rfl hs;refine C4 h1 (Ch l) fun z=>?_
 rw[h2,gW,(List.mergeSort_perm l _).mem_iff]
mutual
def ju:Rx->List L8
 | .mk op _ _ _ _ nm args=>iz ((if op=2 then [nm]else [])++fH args)
def fH:List Rx->List L8
 | []=>[]
 |y::r=>ju y++fH r
end
theorem mQ:∀l:List Rx,l.length<=eQ l
 | []=>Nat.zero_le _
 |y::r=>by
  have:=mQ r;cases y
  simp only[eQ,f8,List.length_cons]
  omega
theorem Gu {na nb:Bool} {xs ys:List Nat}:aa Tryz.prog 126 [Lq na xs nb ys] (.one (dB (oW na xs nb ys))):=by
 show aa Tryz.prog _ [.agg (ED na xs nb ys)] _
 by_cases h1:xs.length=0
 ·by_cases h2:ys.length=0
  ·have e:oW na xs nb ys=(!na && !nb):=by unfold oW;rw[T_ h1,T_ h2];simp
   rw[e];cases na<;>cases nb
   all_goals
    refine kU func126 ?_;refine kR ?_;refine kI ?_
    refine kO4 ?_
    refine kT ?_
    refine kO5 ?_
    refine kT ?_;exact kF
  ·have e:oW na xs nb ys=false:=by unfold oW;rw[F_ h2];simp
   rw[e];refine kU func126 ?_;refine kR ?_;refine qv ?_
   refine kO5 ?_
   refine kE ?_;exact aj
 ·have e:oW na xs nb ys=false:=by unfold oW;rw[F_ h1];simp
  rw[e];refine kU func126 ?_;refine zp ?_;refine kE ?_;exact aj
theorem Ml (args:List Rx):(args.any fun y=>!sQ y)=!(args.all sQ):=by
 rw[List.all_eq_not_any_not,Bool.not_not]
theorem xP:∀(x:Rx),j3 x->Ds x->f8 x<=1000000->aa Tryz.prog 87 [dR x] (.one (dB (sQ x))):=by
 refine eM fun op na xs nb ys nm args ih hx hlt hs=>?_
 obtain⟨_,_,hw,hw',hnm,hlen,hargs⟩:=hx;obtain⟨l1,l2,l3,hla⟩:=hlt;rw[f8]at hs;have hge:=mQ args;obtain⟨t,hdec,_⟩:=FG (na:=na) (nb:=nb) hw hw' l1 l2;have hm:=f3 nm O_;have hno:=Gu (na:=na) (nb:=nb) (xs:=xs) (ys:=ys);have hcf:=eT (fid:=127) (p:=fun y=>!sQ y) args (fun y hy=>gm (ih y hy (hargs y hy) (hla y hy) (by have:=lp hy;omega))) O_ (Ml args);rw[sQ,nU];have hA0:args.length=0->args.all sQ=true:=fun h=>by rw[E_ h];rfl
 refine BO ?_;generalize args.all sQ=A at *;generalize args.length=L at *;generalize(mw na xs nb ys).isSome=d at *;generalize oW na xs nb ys=p at *;generalize pO nm=m at *;have hdec:aa Tryz.prog 125 [.agg (ED na xs nb ys)] (.tup [dL t,dB d]):=hdec;have hno:aa Tryz.prog 126 [.agg (ED na xs nb ys)] (.one (dB p)):=hno
 by_cases o1:op=1
 ·subst o1
  by_cases hl:L=0
  ·rw[hA0 hl,Bool.and_true,qN,if_pos rfl,T_ hl,Bool.and_true]
   generalize hz:decide (nm=[])=z;refine g8 ?_;refine EI ?_;refine kO ?_;refine uD ?_;refine kW ?_;refine kC (hdec) ?_;cases d
   ·exact aj
   ·refine kG ?_
    refine kO4 ?_
    cases z
    ·refine Um ?_
     refine kO3 ?_
     refine kC (hm) ?_;cases m
     ·exact aj
     ·exact aj
    ·refine ax rfl rfl rfl rfl rfl rfl rfl (aU (a:=nm) (b:=[]) (h_ hz)) ?_
     exact aj
  ·rw[qN,if_pos rfl,F_ hl,Bool.and_false,Bool.false_and]
   refine g8 ?_;refine EI ?_;refine x9 ?_;exact aj
 by_cases o2:op=2
 ·subst o2
  by_cases hl:L=0
  ·rw[hA0 hl,Bool.and_true,qN,if_neg D_,if_pos rfl,T_ hl,Bool.and_true]
   refine g8 ?_;refine KK ?_;refine kO ?_;refine uD ?_;refine kW ?_;refine kC (hno) ?_;cases p
   ·exact aj
   ·refine kW ?_
    refine kC (hm) ?_;cases m
    ·exact aj
    ·exact aj
  ·rw[qN,if_neg D_,if_pos rfl,F_ hl,Bool.and_false,Bool.false_and]
   refine g8 ?_;refine KK ?_;refine x9 ?_;exact aj
 by_cases o3:op=3
 ·subst o3
  by_cases hl:L=1
  ·rw[qN,if_neg D_,if_neg D_,if_pos rfl,T_ hl,Bool.and_true]
   generalize hz:decide (nm=[])=z;refine g8 ?_;refine G4 ?_;exact yF
  ·rw[qN,if_neg D_,if_neg D_,if_pos rfl,F_ hl,Bool.and_false,Bool.false_and]
   refine g8 ?_;refine G4 ?_;refine x9 ?_;exact aj
 by_cases o4:op=4
 ·subst o4
  by_cases hl:L=2
  ·refine Dq ?_
   generalize hz:decide (nm=[])=z;refine g8 ?_;refine JP ?_;exact yF
  ·refine M1 ?_
   refine g8 ?_;refine JP ?_;refine x9 ?_;exact aj
 by_cases o5:op=5
 ·subst o5
  by_cases hl:L=2
  ·refine Dq ?_
   generalize hz:decide (nm=[])=z;refine g8 ?_;refine Jk ?_;exact yF
  ·refine M1 ?_
   refine g8 ?_;refine Jk ?_;refine x9 ?_;exact aj
 by_cases o6:op=6
 ·subst o6
  by_cases hl:L=2
  ·refine Dq ?_
   generalize hz:decide (nm=[])=z;refine g8 ?_;refine Ik ?_;exact yF
  ·refine M1 ?_
   refine g8 ?_;refine Ik ?_;refine x9 ?_;exact aj
 by_cases o7:op=7
 ·subst o7
  by_cases hl:L=2
  ·refine Dq ?_
   generalize hz:decide (nm=[])=z;refine g8 ?_;refine KN ?_;exact yF
  ·refine M1 ?_
   refine g8 ?_;refine KN ?_;refine x9 ?_;exact aj
 rw[qN,if_neg o1,if_neg o2,if_neg o3,if_neg O_,Bool.false_and]
 by_cases hlo:op<1
 ·refine kU func87 ?_
  refine pr ?_;refine kB true ?_ ?_
  ·exact T_ hlo
  exact aj
 ·refine kU func87 ?_
  refine pr ?_;refine kB false ?_ ?_
  ·exact F_ hlo
  refine kO3 ?_
  refine kT ?_;exact aj
theorem io (x:Rx) (hx:j3 x) (hl:Ds x) (hs:f8 x<=1000000):aa Tryz.prog 44 [dR x] (.one (dN .i64 (iH x))):=by
 have c1:=xP x hx hl hs;have c2:=mo x hx hs;obtain⟨o1,na1,xs1,nb1,ys1,nm1,n1,cs1,hA⟩:=aY x;rw[show dR x= .agg (ab o1 na1 xs1 nb1 ys1 nm1 n1 cs1) from congrArg DV.agg hA]at c1 c2 ⊢;unfold iH;cases hb:sQ x with
 |false=>
  rw[hb]at c1;rw[if_neg D_];refine kU func44 ?_;exact kx
 |true=>
  rw[hb]at c1;rw[if_pos rfl]
  by_cases hd:uq x<=40
  ·rw[if_pos hd]
   refine kU func44 ?_;exact Ju
  ·rw[if_neg hd]
   refine kU func44 ?_;refine iQ ?_;refine kC (c2) ?_;refine kT ?_;exact aj
section
open Go.RowKit Go.Sort Go.Lib
def av (l:List L8):List AV:=l.map fun x=> .val (vL x)
theorem sM {w:World} {B q:Nat} {arr:Array Value} {e:TypeId} {fz:Nat × Nat} (h:w.heap[B]? =some (.cells arr e fz)) (d:List L8) (os:Array Obj):
 (grow (putRow encStr (Sort.ahead w q) B 0 d.toArray) os).heap[B]? =some (.cells (putCells encStr 0 d.toArray arr) e fz):=by
 have hB:=(A_.1 h).1;unfold grow putRow mapBlock;show(((Sort.ahead w q).heap.modify B _)++os)[B]? =_;rw[Array.getElem?_append_left (by simpa using hB),Array.getElem?_modify,if_pos rfl];show(w.heap[B]?).map _=_;rw[h];rfl
theorem zr {w:World} {B q k:Nat} (hk:k<w.heap.size) (hne:k≠B) (d:List L8) (os:Array Obj):
 (grow (putRow encStr (Sort.ahead w q) B 0 d.toArray) os).heap[k]? =w.heap[k]?:=by
 unfold grow putRow mapBlock;show(((Sort.ahead w q).heap.modify B _)++os)[k]? =_;rw[Array.getElem?_append_left (by simpa using hk),Array.getElem?_modify,if_neg (fun h=>hne h.symm)];rfl
theorem EQ {d:List L8} {arr:Array Value} (hl:d.length<=arr.size) (i:Nat):(putCells encStr 0 d.toArray arr)[i]? =if i<d.length then(d[i]?).map vL else arr[i]?:=by
 unfold putCells;rw[Array.getElem?_mapIdx]
 by_cases h:i<d.length
 ·rw[if_pos h]
  have h2:i<arr.size:=O_
  simp[h,h2]
  rfl
 ·rw[if_neg h]
  cases hx:arr[i]? with
  |none=>rfl
  |some x=>simp;omega
theorem C8 {S:Nat->Prop} {g:Nat->Nat} {w:World} {l d:List L8} {q:Nat} {os:Array Obj} (hS:Gi S g w [(901,av l)]) (hd:d.length=l.length):
 mb (Own S g (sB [(901,av d)])) g (sB [(901,av d)]) (grow (putRow encStr (Sort.ahead w q) (g 901) 0 d.toArray) os) 901 (av d) (g 901) /\
  cR (BX g [(901,av l)]) w (grow (putRow encStr (Sort.ahead w q) (g 901) 0 d.toArray) os) /\
  ∀arr e,w.heap[g 901]? =some (.cells arr e (0,0))-> ∃arr',(grow (putRow encStr (Sort.ahead w q) (g 901) 0 d.toArray) os).heap[g 901]? =some (.cells arr' e (0,0))/\arr'.size=arr.size:=by
 obtain⟨arr,e,h1,h2,h3,_,h5⟩:=hS.bm 901 (av l) (bl.2 ⟨rfl,rfl⟩);have hlen:l.length<=arr.size:=by have:=h2.1;simpa[av]using this
 have hsz:(putCells encStr 0 d.toArray arr).size=arr.size:=by simp[putCells]
 refine⟨⟨_,e,sM h1 d os,⟨by simp[av,hsz];omega,fun i a v ha hv=>?_⟩,fun _ v hv=>?_,(fun h=>by cases h),(fun h=>by cases h)⟩,⟨rfl,rfl,rfl,?_,fun k hk hx=>?_,fun k hk hx arr2 e2 fz2 h=>?_⟩,fun arr2 e2 h=>?_⟩
 ·have hi:i<d.length:=by have:=(G_.1 ha).1;simpa[av]using this
  rw[Array.getElem?_toList,EQ O_,if_pos hi]at hv
  simp[hi]at hv
  simp[av,hi]at ha
  subst ha hv;exact .val rfl
 ·obtain⟨i,hi⟩:=W_ hv
  rw[Array.getElem?_toList,EQ O_]at hi
  split at hi
  ·rename_i hlt
   simp[hlt]at hi
   subst hi;rfl
  ·exact h3 rfl v (by rw[<- Array.getElem?_toList]at hi;exact M_ hi)
 ·show w.heap.size<=_
  simp[grow,putRow,mapBlock]
 ·rw[mg]at hx
  exact zr hk (fun h=>hx h.symm) d os
 ·rw[mg]at hx
  subst hx;rw[h1]at h;cases h;exact⟨_,_,sM h1 d os,hsz⟩
 ·rw[h1]at h
  cases h;exact⟨_,sM h1 d os,hsz⟩
theorem wg {S:Nat->Prop} {g:Nat->Nat} {w:World} {l:List L8} (hS:Gi S g w [(901,av l)]):Holds encStr w (g 901) 0 l.toArray/\g 901<w.heap.size:=by
 obtain⟨arr,e,h1,h2,_⟩:=hS.bm 901 (av l) (bl.2 ⟨rfl,rfl⟩);have hlen:l.length<=arr.size:=by have:=h2.1;simpa[av]using this
 refine⟨fun j hj=>?_,(A_.1 h1).1⟩;have hj:j<l.length:=by simpa using hj
 have hv:=h2.2 j (.val (vL l[j])) arr[j] (by simp[av,hj]) S_;rw[J_];refine⟨?_,?_⟩
 ·rw[dK h1,Array.getElem?_eq_getElem O_,bc hv]
  simp[hj]
  rfl
 ·unfold World.frozen?
  simp[h1]
theorem MD {l:List L8} (hl:l.length<=1000000):az Tryz.prog 322 [.own 901 l.length 1 9] [(901,av l)] (.v (.tup [])) [(901,av (l.mergeSort fun x y=>decide (x<=y)))]:=
 ⟨aG func322 rfl rfl,fun S g w vs hS hv=>by
  match vs,hv with
  | [v],⟨⟨_,h1⟩,_⟩=>
   obtain⟨c,rfl,_,_,_,_⟩:=h1 (av l) (bl.2 ⟨rfl,rfl⟩);obtain⟨hH,hB⟩:=wg hS;refine(Tryz.slices_Sort_string (g 901) 0 c l w hH hB O_).mono ?_;rintro e w' ⟨rfl,q,os,rfl⟩;obtain⟨r1,r2,_⟩:=C8 (d:=l.mergeSort fun x y=>decide (x<=y)) (q:=q) (os:=os) hS (List.length_mergeSort _);refine⟨_,g,rfl,fun j cs cs' h h'=>?_,fun j cs' h=>?_,fun i j ci cj hi hj _=>?_,?_,r2⟩
   ·obtain⟨_,rfl⟩:=bl.1 h
    obtain⟨_,rfl⟩:=bl.1 h';exact⟨rfl,by simp[av]⟩
   ·obtain⟨rfl,rfl⟩:=bl.1 h
    exact⟨.inr (by rw[mg]),r1⟩
   ·rw[(bl.1 hi).1,(bl.1 hj).1]
   ·exact⟨[],rfl,rfl,fun i x u h=>by simp at h⟩⟩
theorem BW {l:List L8} (hl:l.length<=1000000):az Tryz.prog 323 [.own 901 l.length 1 9] [(901,av l)] (.own 901 (Lib.compact l).length 1 9) [(901,av (Lib.compact l++List.replicate (l.length-(Lib.compact l).length) []))]:=
 ⟨aG func323 rfl rfl,fun S g w vs hS hv=>by
  match vs,hv with
  | [v],⟨⟨hk,h1⟩,_⟩=>
   obtain⟨c,rfl,h2,h3,h4,arr,h5,h6⟩:=h1 (av l) (bl.2 ⟨rfl,rfl⟩);obtain⟨hH,hB⟩:=wg hS;have hcl:=Lib.compact_length_le l;refine(Tryz.slices_Compact_string (g 901) 0 c l w hH O_ h2).mono ?_;rintro e w' ⟨rfl,q,rfl⟩;obtain⟨r1,r2,r3⟩:=C8 (d:=Lib.compact l++List.replicate (l.length-(Lib.compact l).length) []) (q:=q) (os:= #[]) hS (by simp;omega);rw[grow_empty]at r1 r2 r3;obtain⟨arr',r4,r5⟩:=r3 arr _ h5;refine⟨_,g,rfl,fun j cs cs' h h'=>?_,fun j cs' h=>?_,fun i j ci cj hi hj _=>?_,?_,r2⟩
   ·obtain⟨_,rfl⟩:=bl.1 h
    obtain⟨_,rfl⟩:=bl.1 h';exact⟨rfl,by simp[av];omega⟩
   ·obtain⟨rfl,rfl⟩:=bl.1 h
    exact⟨.inr (by rw[mg]),r1⟩
   ·rw[(bl.1 hi).1,(bl.1 hj).1]
   ·refine⟨AS.kn_of (bl.2 ⟨rfl,rfl⟩),fun cs hc=>?_⟩
    obtain⟨_,rfl⟩:=bl.1 hc;exact⟨c,rfl,by omega,h3,by simp[av],arr',r4,by rw[r5,h6]⟩⟩
end
abbrev Pm:=L8 × Rx
abbrev Tb:=List Pm
def il:Tb->L8->Nat
 | [],_=>0
 |p::r,n=>if p.1=n then 0 else il r n+1
theorem Io:∀(l:Tb) (n:L8),il l n<=l.length
 | [],_=>l_ _
 |p::r,n=>by
  unfold il
  split
  ·exact Nat.zero_le _
  ·have:=Io r n;simp only[List.length_cons];omega
theorem l9:∀{l:Tb} {n:L8},il l n<l.length↔ ∃p∈l,p.1=n
 | [],n=>by simp[il]
 |p::r,n=>by
  have ih:=l9 (l:=r) (n:=n);unfold il
  split
  ·rename_i h;simp[h]
  ·rename_i h
   simp only[List.length_cons,Nat.add_lt_add_iff_right,ih,f_,exists_eq_or_imp,h,false_or]
theorem wG:∀{l:Tb} {n:L8},il l n<l.length-> ∃p,l[il l n]? =some p/\p.1=n
 | [],n,h=>by simp[il]at h
 |p::r,n,h=>by
  unfold il at h ⊢
  split
  ·rename_i e;exact⟨p,rfl,e⟩
  ·rename_i e
   rw[if_neg e]at h;obtain⟨q,h1,h2⟩:=wG (l:=r) (n:=n) (by simpa using h);exact⟨q,by simpa using h1,h2⟩
theorem g7:∀{l:Tb} {n:L8} {i:Nat} {p:Pm},i<il l n->l[i]? =some p->p.1≠n
 | [],n,i,p,_,h=>by simp at h
 |q::r,n,i,p,hi,h=>by
  unfold il at hi
  split at hi
  ·omega
  ·rename_i e
   cases i with
   |zero=>simp at h;subst h;exact e
   |succ i=>exact g7 (l:=r) (n:=n) (i:=i) O_ (by simpa using h)
theorem R4 {l:Tb} {n:L8} {i:Nat} {p:Pm} (h:l[i]? =some p) (hp:p.1=n) (hb:∀(j:Nat) (q:Pm),j<i->l[j]? =some q->q.1≠n):il l n=i:=by
 have h1:¬i<il l n:=fun h2=>g7 h2 h hp
 have h2:il l n<l.length:=l9.2 ⟨p,M_ h,hp⟩
 obtain⟨q,h3,h4⟩:=wG h2;rcases Nat.lt_or_ge (il l n) i with h5|h5
 ·exact absurd h4 (hb _ q h5 h3)
 ·omega
def uh (l:Tb) (n:L8):Int:=if il l n<l.length then(il l n:Int)else -1
def DQ (l:Tb):Nat->Tb->Int
 |_,[]=>0
 |i,p::r=>if pO p.1=true then(if iH p.2=0 then(if il l p.1<i then 5 else DQ l (i+1) r)else iH p.2)else 1
def ur (l:Tb):Int:=if 200<l.length then 3 else DQ l 0 l
structure wQ (l:Tb):Prop where
 len:l.length<=200
 nm:∀p∈l,pO p.1=true
 ex:∀p∈l,iH p.2=0
 nd:∀(i j:Nat) (p q:Pm),l[i]? =some p->l[j]? =some q->p.1=q.1->i=j
theorem J5 (l:Tb):∀(i:Nat) (r:Tb),l.drop i=r->DQ l i r=0-> ∀(j:Nat) (p:Pm),i<=j->l[j]? =some p->pO p.1=true/\iH p.2=0/\j<=il l p.1
 |i,[],h,_,j,p,hj,hp=>by
  have:=congrArg List.length h;have h1:=(G_.1 hp).1
  simp at this
  omega
 |i,q::r,h,h0,j,p,hj,hp=>by
  have hq:l[i]? =some q:=by
   have:=congrArg (·[0]?) h
   simpa using this
  unfold DQ at h0
  split at h0
  ·rename_i h1
   split at h0
   ·rename_i h2
    split at h0
    ·cases h0
    ·rename_i h3
     by_cases e:j=i
     ·subst e;rw[hq]at hp;cases hp;exact⟨h1,h2,by omega⟩
     ·exact J5 l (i+1) r (by rw[<- List.drop_drop,h];rfl) h0 j p O_ hp
   ·rename_i h2;exact absurd h0 h2
  ·cases h0
theorem tC {l:Tb} (h:ur l=0):wQ l:=by
 unfold ur at h
 split at h
 ·cases h
 rename_i hl
 have key:=J5 l 0 l rfl h;refine⟨by omega,fun p hp=>?_,fun p hp=>?_,?_⟩
 ·obtain⟨i,hi⟩:=W_ hp;exact(key i p (Nat.zero_le _) hi).1
 ·obtain⟨i,hi⟩:=W_ hp;exact(key i p (Nat.zero_le _) hi).2.1
 ·intro i j p q hi hj e
  have h1:=(key i p (Nat.zero_le _) hi).2.2;have h2:=(key j q (Nat.zero_le _) hj).2.2;rw[<- e]at h2;have h3:¬i<il l p.1:=fun h4=>g7 h4 hi rfl
  have h4:¬j<il l p.1:=fun h4=>g7 h4 hj e.symm
  omega
theorem wQ.fd {l:Tb} (h:wQ l) {i:Nat} {p:Pm} (hi:l[i]? =some p):il l p.1=i:=
 R4 hi rfl fun j q hj hq e=>by have:=h.nd _ _ _ _ hq hi e;omega
theorem wQ.ne {l:Tb} (h:wQ l) {p:Pm} (hp:p∈l):p.1≠[]:=fun e=>by
 have:=h.nm p hp;rw[e]at this;exact absurd this D_
def uj (x:Rx) (out:List L8):Bool:=(ju x).all fun n=>decide (n∈out)
theorem xJ {x:Rx} {out:List L8}:uj x out=true↔ ∀n∈ju x,n∈out:=by simp[uj]
def tf (out:List L8) (p:Pm):Bool:=!(decide (p.1∈out)) && uj p.2 out
def jQ (out:List L8) (nx:L8) (p:Pm):L8:=if tf out p=true/\(nx=[]∨Op.bytesLess p.1 nx=true)then p.1 else nx
def AJ (l:Tb) (out:List L8):L8:=l.foldl (jQ out) []
theorem CO {out:List L8}:∀(l:Tb) (nx:L8),l.foldl (jQ out) nx=nx∨ ∃p∈l,tf out p=true/\l.foldl (jQ out) nx=p.1
 | [],nx=> .inl rfl
 |p::r,nx=>by
  simp only[List.foldl_cons]
  by_cases h:tf out p=true/\(nx=[]∨Op.bytesLess p.1 nx=true)
  ·rw[show jQ out nx p=p.1 from if_pos h]
   rcases CO r p.1 with h1| ⟨q,hq,h1,h2⟩
   ·exact .inr ⟨p,by simp,h.1,h1⟩
   ·exact .inr ⟨q,by simp[hq],h1,h2⟩
  ·rw[show jQ out nx p=nx from if_neg h]
   rcases CO r nx with h1| ⟨q,hq,h1,h2⟩
   ·exact .inl h1
   ·exact .inr ⟨q,by simp[hq],h1,h2⟩
theorem LI {l:Tb} {out:List L8} (h:AJ l out≠[]):∃p∈l,tf out p=true/\AJ l out=p.1:=by
 rcases CO (out:=out) l []with h1|h1
 ·exact absurd h1 h
 ·exact h1
def iD (l:Tb):Nat->List L8->Option (List L8)
 |0,out=>some out
 |k+1,out=>if AJ l out=[]then none else iD l k (out++[AJ l out])
def bW (l:Tb):List L8 × Int:=
 if ur l=0 then(if l.all (fun p=>uj p.2 (l.map (·.1)))=true then(match iD l l.length []with|some o=>(o,0)|none=>([],9))else([],4))else([],ur l)
structure nT (l:Tb) (o:List L8):Prop where
 nd:o.Nodup
 mem:∀n∈o,∃p∈l,p.1=n
 up:∀(i:Nat) (n:L8) (p:Pm),o[i]? =some n->p∈l->p.1=n-> ∀m∈ju p.2,m∈o.take i
theorem nT.nil (l:Tb):nT l []:=⟨List.nodup_nil,fun n h=>(by cases h),fun i n p h=>by simp at h⟩
theorem nT.snoc {l:Tb} (hl:wQ l) {o:List L8} (h:nT l o) {p:Pm} (hp:p∈l) (hc:tf o p=true):nT l (o++[p.1]):=by
 unfold tf at hc
 simp only[B_,Bool.not_eq_true',decide_eq_false_iff_not]at hc
 refine⟨?_,fun n hn=>?_,fun i n q hi hq e m hm=>?_⟩
 ·rw[List.nodup_append]
  refine⟨h.nd,List.nodup_cons.2 ⟨by simp,List.nodup_nil⟩,fun a ha b hb=>?_⟩;rw[d_.1 hb];exact fun e=>hc.1 (e ▸ ha)
 ·rcases List.mem_append.1 hn with hn|hn
  ·exact h.mem n hn
  ·exact⟨p,hp,(d_.1 hn).symm⟩
 ·rcases Nat.lt_or_ge i o.length with hlt|hge
  ·rw[List.getElem?_append_left hlt]at hi
   rw[List.take_append_of_le_length O_];exact h.up i n q hi hq e m hm
  ·rw[g_ hge]at hi
   have hi0:i=o.length:=by
    have:=(G_.1 hi).1
    simp at this
    omega
   subst hi0
   simp at hi
   subst hi;obtain⟨a,ha⟩:=W_ hp;obtain⟨b,hb⟩:=W_ hq;have:=hl.nd _ _ _ _ hb ha e;subst this;rw[ha]at hb;cases hb;rw[List.take_left']
   ·exact xJ.1 hc.2 m hm
   ·rfl
theorem zu {l:Tb} (hl:wQ l):∀(k:Nat) (out o:List L8),nT l out->iD l k out=some o->nT l o/\o.length=out.length+k
 |0,out,o,h,e=>by cases e;exact⟨h,rfl⟩
 |k+1,out,o,h,e=>by
  unfold iD at e
  split at e
  ·cases e
  ·rename_i hn
   obtain⟨p,hp,hc,hx⟩:=LI hn;rw[hx]at e;obtain⟨h1,h2⟩:=zu hl k _ o (h.snoc hl hp hc) e;exact⟨h1,by simp at h2;omega⟩
theorem ly {l:Tb} {o:List L8} (h:bW l=(o,0)):wQ l/\nT l o/\o.length=l.length:=by
 unfold bW at h
 split at h
 ·rename_i hv
  split at h
  ·split at h
   ·rename_i o' ho
    cases h;have:=zu (tC hv) l.length [] o (.nil l) ho;exact⟨tC hv,this.1,by simpa using this.2⟩
   ·cases h
  ·cases h
 ·rename_i hv
  injection h with h1 h2
  exact absurd h2 hv
theorem oF:∀{a b:List L8},a.Nodup->(∀x∈a,x∈b)->a.length<=b.length
 | [],_,_,_=>Nat.zero_le _
 |x::a,b,h,hs=>by
  have hx:=hs x S_;obtain⟨h1,h2⟩:=List.nodup_cons.1 h;have:=oF (a:=a) (b:=b.erase x) h2 fun y hy=>(List.mem_erase_of_ne (fun e:y=x=>h1 (by rw[<- e];exact hy))).2 (hs y (List.mem_cons_of_mem _ hy))
  rw[List.length_erase_of_mem hx]at this;have:=List.length_pos_of_mem hx
  simp only[List.length_cons]
  omega
theorem nT.all {l:Tb} {o:List L8} (h:nT l o) (hlen:o.length=l.length):∀p∈l,p.1∈o:=fun p hp=>by
 refine Classical.byContradiction fun hn=>?_
 have:=oF (a:=p.1::o) (b:=l.map (·.1)) (List.nodup_cons.2 ⟨hn,h.nd⟩) fun x hx=>by
  rcases f_.1 hx with rfl|hx
  ·exact List.mem_map.2 ⟨p,hp,rfl⟩
  ·obtain⟨q,hq,e⟩:=h.mem x hx;exact List.mem_map.2 ⟨q,hq,e⟩
 simp at this
 omega
def tP (l:Tb) (b:Int) (nx:L8):Prop:=(b= -1/\nx=[])∨ ∃(k:Nat) (p:Pm),b=k/\l[k]? =some p/\p.1=nx
theorem L7 {l:Tb} {out:List L8} {i:Nat} {p:Pm} (h:l[i]? =some p):(l.take (i+1)).foldl (jQ out) []=jQ out ((l.take i).foldl (jQ out) []) p:=by
 have hi:=(G_.1 h).1;have e:=(G_.1 h).2;rw[List.take_succ_eq_append_getElem hi,List.foldl_append,e];rfl
def yN:List L8->L8->Nat
 | [],_=>0
 |y::r,n=>if Op.bytesLess y n=true then yN r n+1 else 0
theorem Bn:∀(l:List L8) (n:L8),yN l n<=l.length
 | [],_=>l_ _
 |y::r,n=>by
  unfold yN
  split
  ·have:=Bn r n;simp;omega
  ·exact Nat.zero_le _
theorem KY:∀{l:List L8} {n:L8} {i:Nat} {x:L8},i<yN l n->l[i]? =some x->Op.bytesLess x n=true
 | [],n,i,x,_,h=>by simp at h
 |y::r,n,i,x,hi,h=>by
  unfold yN at hi
  split at hi
  ·rename_i hy
   cases i with
   |zero=>simp at h;subst h;exact hy
   |succ i=>exact KY (l:=r) (n:=n) (i:=i) O_ (by simpa using h)
  ·omega
theorem Ii:∀{l:List L8} {n:L8} {x:L8},l[yN l n]? =some x->Op.bytesLess x n=false
 | [],n,x,h=>by simp[yN]at h
 |y::r,n,x,h=>by
  unfold yN at h
  split at h
  ·exact Ii (l:=r) (by simpa using h)
  ·rename_i hy;simp at h;subst h;simpa using hy
def wO (l:List L8) (n:L8):List L8:=l.take (yN l n)++n::l.drop (yN l n)
end Go.Proofs.YtnchbpoopnjghaaGreatDoor
