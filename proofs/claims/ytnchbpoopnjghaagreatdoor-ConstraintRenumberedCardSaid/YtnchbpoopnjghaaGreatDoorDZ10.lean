/- Parts of a proof: contracts of the functions that the laws reach. -/
import Derived.Test.YtnchbpoopnjghaaGreatDoorDZ9
set_option maxHeartbeats 100000000
set_option linter.all false
open Go.Proofs.Tryz
namespace Go.Proofs.YtnchbpoopnjghaaGreatDoor
open Go.RowKit
theorem wi (x:Rx) (hx:lV x):aa Tryz.prog 19 [dR x] (.one (dB (decide (sH x 120<=120) && pW x))):=by
 have c1:=G8 x hx 120 (by decide);have c2:=Gl x hx;have hn:=uL x 120;obtain⟨o1,na1,xs1,nb1,ys1,nm1,n1,cs1,hA⟩:=aN x;rw[show dR x= .agg (ab o1 na1 xs1 nb1 ys1 nm1 n1 cs1) from congrArg DV.agg hA]at c1 c2 ⊢;generalize sH x 120=k at *
 by_cases hk:k<=120
 ·rw[decide_eq_true hk,Bool.true_and]
  refine kV func19 ?_;refine kC (c1) ?_;refine kX ?_;refine kC (c2) ?_;exact am
 ·rw[decide_eq_false hk,Bool.false_and]
  refine kV func19 ?_;refine kC (c1) ?_;refine kE ?_;exact am
inductive CK:Rx->Prop
 |mk {op:Int} {na:Bool} {xs:List Nat} {nb:Bool} {ys:List Nat} {nm:List UInt8} {args:List Rx}:xs.length<=510->ys.length<=510->nm.length<=65536->(∀x∈args,CK x)->CK (.mk op na xs nb ys nm args)
theorem CK.of_lt:∀x,pW x=true->CK x:=by
 refine dK fun op na xs nb ys nm args ih hlt=>?_
 rw[pW,Bool.and_eq_true,Bool.and_eq_true,Bool.and_eq_true,decide_eq_true_eq,decide_eq_true_eq,decide_eq_true_eq]at hlt;obtain⟨hla,⟨l1,l2⟩,l3⟩:=hlt;exact .mk (by omega) (by omega) (by omega) fun y hy=>ih y hy (qY hla y hy)
theorem mZ {na nb:Bool} {xs ys:List Nat} {q:Rat} (e:zc na xs nb ys=aQ q) (e1:xs=digs q.num.natAbs) (e2:ys=digs (q.den:Int).natAbs) (hv:fh na xs nb ys=true):lX na xs nb ys=fT q:=by
 have e3:na=decide (q.num<0):=by
  have:=congrArg (fun l:List AV=>l[0]?) e;exact Bl
 have e4:nb=decide ((q.den:Int)<0):=by
  have:=congrArg (fun l:List AV=>l[2]?) e;exact Bl
 unfold lX;rw[if_pos hv]
 congr 1
 have t1:bC na xs=q.num:=by
  rw[e1,e3,wX]
  by_cases h:q.num<0
  ·rw[decide_eq_true h,if_pos rfl];omega
  ·rw[decide_eq_false h,if_neg (by decide)];omega
 have t2:bC nb ys=q.den:=by
  rw[e2,e4,wX,decide_eq_false (by omega),if_neg (by decide)];omega
 rw[t1,t2,Rat.num_divInt_den]
theorem yw {na nb:Bool} {xs ys:List Nat} (hw:Wd xs) (hw':Wd ys) (h1:xs.length<=510) (h2:ys.length<=510):
 ∃t,aa Tryz.prog 111 [Fd na xs nb ys] (.tup [dL t,dB (lX na xs nb ys).isSome])/\ ∀u,lX na xs nb ys=some u->t=u:=by
 cases hv:fh na xs nb ys with
 |false=>
  have hd:lX na xs nb ys=none:=if_neg (by rw[hv];decide);rw[hd];refine⟨[],?_,fun u h=>by cases h⟩;refine kV func111 ?_;refine ae (mb hw hw' (Nat.le_trans h1 (by decide)) (Nat.le_trans h2 (by decide)) hv) rfl rfl rfl rfl rfl rfl rfl ?_;exact am
 |true=>
  obtain⟨q,e,e1,e2⟩:=oc hw hw' hv;have sq:dA 510 q:=⟨Sz.of_digs (by rw[<- e1];exact h1),Sz.of_digs (by rw[<- e2];exact h2)⟩;rw[mZ e e1 e2 hv,show Fd na xs nb ys=dQ q from congrArg DV.agg e];exact y2 sq (by decide)
theorem Eo {na nb:Bool} {xs ys:List Nat} (hw:Wd xs) (hw':Wd ys) (h1:xs.length<=510) (h2:ys.length<=510):
 ∃t,aa Tryz.prog 125 [Fd na xs nb ys] (.tup [dL t,dB (lX na xs nb ys).isSome])/\ ∀u,lX na xs nb ys=some u->t=u:=by
 cases hv:fh na xs nb ys with
 |false=>
  have hd:lX na xs nb ys=none:=if_neg (by rw[hv];decide);rw[hd];refine⟨[],?_,fun u h=>by cases h⟩;refine kV func125 ?_;refine ae (oV hw hw' (Nat.le_trans h1 (by decide)) (Nat.le_trans h2 (by decide)) hv) rfl rfl rfl rfl rfl rfl rfl ?_;exact am
 |true=>
  obtain⟨q,e,e1,e2⟩:=oc hw hw' hv;have sq:dA 510 q:=⟨Sz.of_digs (by rw[<- e1];exact h1),Sz.of_digs (by rw[<- e2];exact h2)⟩;rw[mZ e e1 e2 hv,show Fd na xs nb ys=dQ q from congrArg DV.agg e];exact it sq (by decide)
def ol (na:Bool) (xs:List Nat) (nb:Bool) (ys:List Nat):Bool:=!na && (!nb && (decide (xs.length=0) && decide (ys.length=0)))
theorem zT {na nb:Bool} {xs ys:List Nat} (h:ol na xs nb ys=true):na=false/\nb=false/\xs=[]/\ys=[]:=by
 unfold ol at h
 simp only[Bool.and_eq_true,Bool.not_eq_true',decide_eq_true_eq]at h
 exact⟨h.1,h.2.1,List.eq_nil_of_length_eq_zero h.2.2.1,List.eq_nil_of_length_eq_zero h.2.2.2⟩
def pU (op:Int) (d p m:Bool) (nm:List UInt8) (n:Nat):Bool:=if op=1 then d && (decide (nm=[]) || m) && decide (n=0)else if op=2 then p && m && decide (n=0)else if op=3 then p && decide (nm=[]) && decide (n=1)
 else if op=4∨op=5∨op=6∨op=7 then p && decide (nm=[]) && decide (n=2)else false
theorem H5 {op:Int} {na:Bool} {xs:List Nat} {nb:Bool} {ys:List Nat} {nm:List UInt8} {args:List Rx} {t:List UInt8} {d m:Bool} (hdec:aa Tryz.prog 111 [Fd na xs nb ys] (.tup [dL t,dB d])) (hm:aa Tryz.prog 52 [dL nm] (.one (dB m))):
 aa Tryz.prog 129 [dR (.mk op na xs nb ys nm args)] (.one (dB (pU op d (ol na xs nb ys) m nm args.length))):=by
 obtain⟨b,hbb⟩:∃b,pU op d (ol na xs nb ys) m nm args.length=b:=⟨_,rfl⟩;have b1:op=1->b=(d && (decide (nm=[]) || m) && decide (args.length=0)):=fun h=>by rw[<- hbb,pU,if_pos h]
 have b2:op=2->b=(ol na xs nb ys && m && decide (args.length=0)):=fun h=>by rw[<- hbb,pU,if_neg (by omega),if_pos h]
 have b3:op=3->b=(ol na xs nb ys && decide (nm=[]) && decide (args.length=1)):=fun h=>by rw[<- hbb,pU,if_neg (by omega),if_neg (by omega),if_pos h]
 have b4:op=4∨op=5∨op=6∨op=7->b=(ol na xs nb ys && decide (nm=[]) && decide (args.length=2)):=fun h=>by rw[<- hbb,pU,if_neg (by omega),if_neg (by omega),if_neg (by omega),if_pos h]
 have b0:op≠1->op≠2->op≠3->op≠4->op≠5->op≠6->op≠7->b=false:=fun h1 h2 h3 h4 h5 h6 h7=>by rw[<- hbb,pU,if_neg h1,if_neg h2,if_neg h3,if_neg (by omega)]
 rw[hbb];clear hbb;show aa Tryz.prog _ [.agg (ab op na xs nb ys nm args.length (d7 args))] _;generalize hp:ol na xs nb ys=p at *;refine kU func129 ?_;refine kR ?_;refine oS ⟨[(1, .box 0 0),(3, .d (dB p))],[(0,some (ab op na xs nb ys nm args.length (d7 args)))]⟩ (fun s' hw2=>?_) (fun R hR _=>?_)
 ·refine ez hw2 rfl ?_
  by_cases o1:op=1
  ·have hb:=b1 o1
   clear b1 b2 b3 b4 b0;subst o1;refine kW ?_;refine kC (hdec) ?_;cases d
   ·exact oO
   ·refine kG ?_
    refine kO4 ?_
    by_cases hnm:nm=[]
    ·refine aD rfl rfl rfl rfl rfl rfl rfl (bv (a:=nm) (b:=[]) hnm) ?_
     iterate 10 refine kO ?_
     by_cases hl:args.length=0
     ·exact JH
     ·exact GD
    ·refine PY ?_
     refine kO3 ?_
     refine kC (hm) ?_;cases m
     ·exact H6
     ·iterate 6 refine kO ?_
      exact MM
  by_cases o2:op=2
  ·have hb:=b2 o2
   clear b1 b2 b3 b4 b0;subst o2;cases p
   ·exact oO
   ·refine kW ?_
    refine kC (hm) ?_;cases m
    ·exact oO
    ·refine kO5 ?_
     exact MM
  by_cases o3:op=3
  ·have hb:=b3 o3
   clear b1 b2 b3 b4 b0;subst o3;cases p
   ·exact oO
   ·iterate 4 refine kG ?_
    refine kO4 ?_
    by_cases hnm:nm=[]
    ·refine RQ ?_
     by_cases hl:args.length=1
     ·exact JH
     ·exact GD
    ·refine PY ?_
     exact H6
  by_cases o4:op=4
  ·have hb:=b4 (by omega)
   clear b1 b2 b3 b4 b0;subst o4;cases p
   ·exact oO
   ·iterate 5 refine kG ?_
    exact Bv
  by_cases o5:op=5
  ·have hb:=b4 (by omega)
   clear b1 b2 b3 b4 b0;subst o5;cases p
   ·exact oO
   ·iterate 6 refine kG ?_
    exact Bv
  by_cases o6:op=6
  ·have hb:=b4 (by omega)
   clear b1 b2 b3 b4 b0;subst o6;cases p
   ·exact oO
   ·iterate 7 refine kG ?_
    exact Bv
  by_cases o7:op=7
  ·have hb:=b4 (by omega)
   clear b1 b2 b3 b4 b0;subst o7;cases p
   ·exact oO
   ·iterate 8 refine kG ?_
    exact Bv
  obtain rfl:b=false:=b0 o1 o2 o3 o4 o5 o6 o7;refine kG ?_;refine kB false ?_ ?_
  ·exact decide_eq_false o1
  refine kG ?_;refine kB false ?_ ?_
  ·exact decide_eq_false o2
  refine kG ?_;refine kB false ?_ ?_
  ·exact decide_eq_false o3
  refine kG ?_;refine kB false ?_ ?_
  ·exact decide_eq_false o4
  refine kG ?_;refine kB false ?_ ?_
  ·exact decide_eq_false o5
  refine kG ?_;refine kB false ?_ ?_
  ·exact decide_eq_false o6
  refine kG ?_;refine kB false ?_ ?_
  ·exact decide_eq_false o7
  exact am
 ·clear b1 b2 b3 b4 b0
  subst hp;cases na
  ·cases nb
   ·refine kG ?_
    iterate 18 refine kO ?_
    by_cases l1:xs.length=0
    ·refine kT ?_
     iterate 7 refine kO ?_
     by_cases l2:ys.length=0
     ·refine kT ?_
      refine kW ?_;rw[show ol false xs false ys=true by unfold ol;rw[decide_eq_true l1,decide_eq_true l2];rfl]at hR;exact hR _ kw
     ·refine kE ?_
      refine kW ?_;rw[show ol false xs false ys=false by unfold ol;rw[decide_eq_true l1,decide_eq_false l2];rfl]at hR;exact hR _ kw
    ·refine kE ?_
     refine kW ?_;rw[show ol false xs false ys=false by unfold ol;rw[decide_eq_false l1];rfl]at hR;exact hR _ kw
   ·refine kW ?_
    exact hR _ kw
  ·refine kW ?_
   exact hR _ kw
mutual
def qx:Rx->Bool
 | .mk op na xs nb ys nm args=>pU op (lX na xs nb ys).isSome (ol na xs nb ys) (pB nm) nm args.length && lf args
def lf:List Rx->Bool
 | []=>true
 |y::r=>qx y && lf r
end
theorem nj:∀l:List Rx,lf l=l.all qx
 | []=>by simp[lf]
 |y::r=>by rw[lf,nj r,List.all_cons]
theorem sV:∀(x:Rx),lV x->CK x->aa Tryz.prog 89 [dR x] (.one (dB (qx x))):=by
 refine dK fun op na xs nb ys nm args ih hx hlt=>?_
 obtain⟨_,_,hw,hw',hnm,hlen,hargs⟩:=hx;obtain⟨l1,l2,l3,hla⟩:=hlt;obtain⟨t,hdec,_⟩:=yw (na:=na) (nb:=nb) hw hw' l1 l2;have hm:=tt nm (by omega);have hsh:=H5 (op:=op) (args:=args) hdec hm;rw[qx,nj];generalize pU op (lX na xs nb ys).isSome (ol na xs nb ys) (pB nm) nm args.length=s0 at *;have hsh:aa Tryz.prog 129 [.agg (ab op na xs nb ys nm args.length (d7 args))] (.one (dB s0)):=hsh;refine EA ?_;cases s0 with
 |false=>
  rw[Bool.false_and];refine kV func89 ?_;refine kC (hsh) ?_;exact am
 |true=>
  rw[Bool.true_and];refine kV func89 ?_;refine kQ (hsh) ?_
  refine ax Nat (fun i=>i<=args.length/\ ∀(q:Nat) y,q<i->args[q]? =some y->qx y=true) (fun i=>⟨[(1, .box 0 0),(2, .d (dB false)),(3, .d (dN .i64 i))],[(0,some (ab op na xs nb ys nm args.length (d7 args)))]⟩) (fun i=>args.length-i) 0 ⟨Nat.zero_le _,fun q y h=>absurd h (Nat.not_lt_zero _)⟩
   kw ?_
  rintro i ⟨hi,hq⟩;refine kI ?_
  refine kO4 ?_
  by_cases hlt:i<args.length
  ·refine kT ?_
   obtain⟨o1,na1,xs1,nb1,ys1,nm1,n1,cs1,hA⟩:=aN args[i];have hx:args[i]? =some args[i]:=by simp[hlt]
   have hat:∀(j:Nat) (a:AV),(ab o1 na1 xs1 nb1 ys1 nm1 n1 cs1)[j]? =some a->(d7 args)[i*7+j]? =some a:=fun j a h=>dz args i args[i] hx j a (by rw[hA];exact h)
   have c:=ih args[i] (List.getElem_mem hlt) (hargs _ (List.getElem_mem hlt)) (hla _ (List.getElem_mem hlt));rw[show dR args[i]= .agg (ab o1 na1 xs1 nb1 ys1 nm1 n1 cs1) from congrArg DV.agg hA]at c;refine rS ?_;refine kO ?_;cases hb:qx args[i]
   ·rw[hb]at c
    refine kQ (c) ?_
    rw[show args.all qx=false by
     cases h:args.all qx
     ·rfl
     ·rw[List.all_eq_true.1 h _ (List.getElem_mem hlt)]at hb;cases hb]
    exact bP (T:=TT) rfl rfl
   ·exact Mw
  ·refine kE ?_
   refine kW ?_
   rw[show args.all qx=true by
    rw[List.all_eq_true];intro y hy;obtain⟨q,h⟩:=List.getElem?_of_mem hy;exact hq q y (by have:=(List.getElem?_eq_some_iff.1 h).1;omega) h]
   exact bP (T:=TT) rfl rfl
def jg (x:Rx):Int:=if qx x=true then(if s7 x<=40 then 0 else 3)else 1
theorem vq (x:Rx) (hx:lV x) (hl:CK x) (hs:fW x<=1000000):aa Tryz.prog 48 [dR x] (.one (dN .i64 (jg x))):=by
 have c1:=sV x hx hl;have c2:=Ga x hx hs;obtain⟨o1,na1,xs1,nb1,ys1,nm1,n1,cs1,hA⟩:=aN x;rw[show dR x= .agg (ab o1 na1 xs1 nb1 ys1 nm1 n1 cs1) from congrArg DV.agg hA]at c1 c2 ⊢;unfold jg;cases hb:qx x with
 |false=>
  rw[hb]at c1;rw[if_neg (by decide)];refine kU func48 ?_;exact jI
 |true=>
  rw[hb]at c1;rw[if_pos rfl]
  by_cases hd:s7 x<=40
  ·rw[if_pos hd]
   refine kU func48 ?_;exact Gh
  ·rw[if_neg hd]
   refine kU func48 ?_;refine gG ?_;refine kC (c2) ?_;refine kT ?_;exact am
theorem uN:∀e,pu e->qx (rx e)=true
 | .num v u,h=>by
  obtain⟨h1,h2,h3⟩:=h;show(pU 1 (lX (decide (v.num<0)) (digs v.num.natAbs) (decide ((v.den:Int)<0)) (digs (v.den:Int).natAbs)).isSome _ (pB u) u 0 && lf [])=true;rw[mZ (q:=v) rfl rfl rfl (lW v),h1,lf];rcases h3 with h|h<;>simp[pU,h]
 | .nam s,h=>by
  show(pU 2 _ (ol false [] false []) (pB s) s 0 && lf [])=true;have h:pB s=true:=h;rw[h,lf];rfl
 | .neg a,h=>by
  show(pU 3 (lX false [] false []).isSome (ol false [] false []) (pB []) [] 1 && lf [rx a])=true;rw[lf,lf,uN a h];rfl
 | .bin k a b,h=>by
  show(pU k.code (lX false [] false []).isSome (ol false [] false []) (pB []) [] 2 && lf [rx a,rx b])=true;rw[lf,lf,lf,uN a h.1,uN b h.2];cases k<;>rfl
theorem PZ:∀(x:Rx),lV x->CK x->qx x=true-> ∃e,x=rx e/\pu e:=by
 refine dK fun op na xs nb ys nm args ih hx hlt hf=>?_
 obtain⟨_,_,hw,hw',_,hlen,hargs⟩:=hx;obtain⟨l1,l2,l3,hla⟩:=hlt;rw[qx,nj,Bool.and_eq_true]at hf;obtain⟨hsh,hall⟩:=hf;have hall:∀y∈args,∃e,y=rx e/\pu e:=fun y hy=>ih y hy (hargs y hy) (hla y hy) (List.all_eq_true.1 hall y hy)
 unfold pU at hsh
 split at hsh
 ·rename_i ho
  subst ho
  simp only[Bool.and_eq_true,Bool.or_eq_true,decide_eq_true_eq]at hsh
  obtain⟨⟨h1,h2⟩,h3⟩:=hsh;obtain rfl:=List.eq_nil_of_length_eq_zero h3;cases hv:fh na xs nb ys with
  |false=>rw[lX,if_neg (by rw[hv];decide)]at h1;cases h1
  |true=>
   obtain⟨q,e,e1,e2⟩:=oc hw hw' hv;have sq:dA 510 q:=⟨Sz.of_digs (by rw[<- e1];exact l1),Sz.of_digs (by rw[<- e2];exact l2)⟩;rw[mZ e e1 e2 hv]at h1
   have e3:na=decide (q.num<0):=by
    have:=congrArg (fun l:List AV=>l[0]?) e;exact Bl
   have e4:nb=decide ((q.den:Int)<0):=by
    have:=congrArg (fun l:List AV=>l[2]?) e;exact Bl
   subst e3 e4 e1 e2;exact⟨.num q nm,rfl,h1,sq,h2⟩
 ·split at hsh
  ·rename_i ho
   subst ho
   simp only[Bool.and_eq_true,decide_eq_true_eq]at hsh
   obtain⟨⟨h1,h2⟩,h3⟩:=hsh;obtain rfl:=List.eq_nil_of_length_eq_zero h3;obtain⟨rfl,rfl,rfl,rfl⟩:=zT h1;exact⟨.nam nm,rfl,h2⟩
  ·split at hsh
   ·rename_i ho
    subst ho
    simp only[Bool.and_eq_true,decide_eq_true_eq]at hsh
    obtain⟨⟨h1,rfl⟩,h3⟩:=hsh;obtain⟨rfl,rfl,rfl,rfl⟩:=zT h1
    match args,h3,hall with
    | [a],_,hall=>
     obtain⟨ea,rfl,oa⟩:=hall a (by simp);exact⟨.neg ea,rfl,oa⟩
   ·split at hsh
    ·rename_i ho
     simp only[Bool.and_eq_true,decide_eq_true_eq]at hsh
     obtain⟨⟨h1,rfl⟩,h3⟩:=hsh;obtain⟨rfl,rfl,rfl,rfl⟩:=zT h1
     match args,h3,hall with
     | [a,b],_,hall=>
      obtain⟨ea,rfl,oa⟩:=hall a (by simp);obtain⟨eb,rfl,ob⟩:=hall b (by simp);rcases ho with rfl|rfl|rfl|rfl
      ·exact⟨.bin .add ea eb,rfl,oa,ob⟩
      ·exact⟨.bin .sub ea eb,rfl,oa,ob⟩
      ·exact⟨.bin .mul ea eb,rfl,oa,ob⟩
      ·exact⟨.bin .div ea eb,rfl,oa,ob⟩
    ·cases hsh
section
open Go.ChangeShapes Go.WideShapes Go.ChangeAt Go.RowKit Go.Joins
theorem wT {H:Type} {enc:TypeId × Value->H} {W:World} {P:Program} {L:List TypeId} (hL:vS P L=true) {t:TypeId} (ht:t∈L) {fs:Array Field} (hu:P.underlying t=some (.struct fs)) {r:Reach} {b0:Nat} {v:Value} {d:DataW H} {p:List MemPlace} (hv:Value.okWide P W r b0 t v) (h:DataW.Trod enc P W 0 (fun _=>true) true t v d p):
 ∃n cs,DV.M (fun _=>False) W (.agg cs) v/\Sh P n t cs:=by
 obtain⟨cs,rfl,_⟩:=okWide_struct hu hv;obtain⟨n,xs,h1,h2⟩:=KC hL ht h;exact⟨n,xs,PV h1,h2⟩
end
section
open Go.ChangeShapes Go.WideShapes Go.ChangeAt Go.RowKit Go.Joins
def dr (l:List Int):List AV:=l.map fun z=>AV.val (.int .i64 z)
def ma (l:List Int):DV:= .leaf (.sl l.length (dr l))
theorem mh (l:List Int):(dr l).length=l.length:=by simp[dr]
theorem Di {l:List Int} {i:Nat} {z:Int} (h:l[i]? =some z):(dr l)[i*1]? =some (.val (.int .i64 z)):=by simp[dr,h]
theorem bn {l:List Int} {i:Nat} {z:Int} (h:l[i]? =some z):∀(j:Nat) (a:AV),[AV.val (.int .i64 z)][j]? =some a->(dr l)[i*1+j]? =some a:=fun j a hj=>by
 cases j with
 |zero=>simp at hj;subst hj;exact Di h
 |succ j=>simp at hj
def oq (k:Int):Option Kd:=if 1<=k/\k<=17 then nJ[k.toNat-1]? else none
def Px (s:List UInt8):Int:=if nJ.findIdx (fun r=>decide (r.nm=s))<17 then(nJ.findIdx (fun r=>decide (r.nm=s)):Int)+1 else 0
structure Cn where
 k:Int
 ps:List Int
 cs:List Int
 vs:List Rx
 s:Int
def aC (c:Cn):List AV:=[.val (.int .i64 c.k), .sl c.ps.length (dr c.ps), .sl c.cs.length (dr c.cs), .sl c.vs.length (d7 c.vs), .val (.int .i64 c.s)]
def dC (c:Cn):DV:= .agg (aC c)
def QC (z:Int):Prop:= -9223372036854775808<=z/\z<=9223372036854775807
structure Ng (c:Cn):Prop where
 k:QC c.k
 ps:∀z∈c.ps,QC z
 cs:∀z∈c.cs,QC z
 vs:∀x∈c.vs,lV x
 s:QC c.s
def QV:List TypeId:=[30,27,40,38,36,4,34,135,3,9,28]
theorem FI:vS Tryz.prog QV=true:=by kernel_rfl
theorem CH {n:Nat} {cs:List AV} (h:Sh Tryz.prog n 27 cs):∃l:List Int,cs=[.sl l.length (dr l)]/\ ∀z∈l,QC z:=by
 cases n with
 |zero=>exact h.elim
 |succ n=>
  simp only[Sh,underlying27]at h
  obtain⟨rows,rfl,_,hr⟩:=h
  have key:∀rows:List (List AV),(∀r∈rows,Sh Tryz.prog n 3 r/\r.length=Tryz.prog.cellsOf 3)-> ∃l:List Int,rows.length=l.length/\rows.flatten=dr l/\ ∀z∈l,QC z:=by
   intro rows
   induction rows with
   |nil=>intro _;exact⟨[],rfl,rfl,fun x hx=>by cases hx⟩
   |cons r rows ih=>
    intro hr;obtain⟨l,h1,h2,h3⟩:=ih (fun r hm=>hr r (by simp[hm]));obtain⟨i,h4,h5⟩:=uZ (hr r (by simp)).1;refine⟨i::l,by simp[h1],by rw[List.flatten_cons,h2,h4];rfl,fun x hx=>?_⟩;rcases List.mem_cons.1 hx with rfl|hx
    ·exact h5
    ·exact h3 x hx
  obtain⟨l,h1,h2,h3⟩:=key rows hr;exact⟨l,by rw[h1,h2],h3⟩
set_option maxRecDepth 100000 in
theorem Jv {n:Nat} {cs:List AV} (h:Sh Tryz.prog n 28 cs):∃l:List Rx,cs=[.sl l.length (d7 l)]/\ ∀x∈l,lV x:=by
 cases n with
 |zero=>exact h.elim
 |succ n=>
  simp only[Sh,underlying28]at h
  obtain⟨rows,rfl,_,hr⟩:=h
  have key:∀rows:List (List AV),(∀r∈rows,Sh Tryz.prog n 40 r/\r.length=Tryz.prog.cellsOf 40)-> ∃l:List Rx,rows.length=l.length/\rows.flatten=d7 l/\ ∀x∈l,lV x:=by
   intro rows
   induction rows with
   |nil=>intro _;exact⟨[],rfl,rfl,fun x hx=>by cases hx⟩
   |cons r rows ih=>
    intro hr;obtain⟨l,h1,h2,h3⟩:=ih (fun r hm=>hr r (by simp[hm]));obtain⟨x,h4,h5⟩:=KX n _ (hr r (by simp)).1;refine⟨x::l,by simp[h1],by rw[List.flatten_cons,h2,h4];rfl,fun y hy=>?_⟩;rcases List.mem_cons.1 hy with rfl|hy
    ·exact h5
    ·exact h3 y hy
  obtain⟨l,h1,h2,h3⟩:=key rows hr;exact⟨l,by rw[h1,h2],h3⟩
set_option maxRecDepth 100000 in
theorem Lj {n:Nat} {cs:List AV} (h:Sh Tryz.prog n 30 cs):∃c:Cn,cs=aC c/\Ng c:=by
 cases n with
 |zero=>exact h.elim
 |succ n=>
  simp only[Sh,underlying30,List.forall_mem_cons,List.not_mem_nil,false_imp_iff,implies_true,and_true]at h
  obtain⟨hl,h0,h1,h2,h3,h4⟩:=h;rw[show Tryz.prog.cellsOf 30=5 by kernel_rfl]at hl;rw[show Tryz.prog.cellsOf 3=1 by kernel_rfl]at h0 h4;rw[show Tryz.prog.cellsOf 27=1 by kernel_rfl]at h1 h2;rw[show Tryz.prog.cellsOf 28=1 by kernel_rfl]at h3
  match cs,hl with
  | [c0,c1,c2,c3,c4],_=>
   obtain⟨k,e0,hk⟩:=uZ h0;obtain⟨p,e1,hp⟩:=CH h1;obtain⟨q,e2,hq⟩:=CH h2;obtain⟨v,e3,hv⟩:=Jv h3;obtain⟨s,e4,hs⟩:=uZ h4
   simp at e0 e1 e2 e3 e4
   exact⟨⟨k,p,q,v,s⟩,by rw[e0,e1,e2,e3,e4];rfl,hk,hp,hq,hv,hs⟩
set_option maxRecDepth 100000 in
theorem km {H:Type} {enc:TypeId × Value->H} {W:World} {r:Reach} {b0:Nat} {v:Value} {d:DataW H} {p:List MemPlace} (hv:Value.okWide Tryz.prog W r b0 30 v) (h:DataW.Trod enc Tryz.prog W 0 (fun _=>true) true 30 v d p):
 ∃c:Cn,DV.M (fun _=>False) W (dC c) v/\Ng c:=by
 obtain⟨n,cs,h1,h2⟩:=wT FI (by decide) underlying30 hv h;obtain⟨c,rfl,h3⟩:=Lj h2;exact⟨c,h1,h3⟩
end
theorem yg {x:UInt8} {b a t:List UInt8} (hx:x ∉ a) {i:Nat} (hi:i<a.length):Lib.occAt (a++t) (x::b) i=false:=by
 cases h:Lib.occAt (a++t) (x::b) i with
 |false=>rfl
 |true=>
  have:=Lib.occAt_head rfl h;rw[List.getElem?_append_left hi]at this;exact absurd (List.mem_of_getElem? this) hx
theorem OL {a t:List UInt8} (hx:(61:UInt8) ∉ a) (ht:t=[]∨ ∃t',t=32::t') {i:Nat} (hi:i<a.length):Lib.occAt (a++t) [32,61,32] i=false:=by
 cases h:Lib.occAt (a++t) [32,61,32] i with
 |false=>rfl
 |true=>
  have:=Lib.occAt_second rfl h
  by_cases h1:i+1<a.length
  ·rw[List.getElem?_append_left h1]at this
   exact absurd (List.mem_of_getElem? this) hx
  ·rw[List.getElem?_append_right (by omega),show i+1-a.length=0 by omega]at this
   rcases ht with rfl| ⟨t',rfl⟩<;>simp at this
theorem Ei {a b r:List UInt8} (h:∀i,i<a.length->Lib.occAt (a++(b++r)) b i=false):Lib.index (a++(b++r)) b=(a.length:Nat):=by
 refine Lib.index_first (by simp) ?_ h;unfold Lib.occAt;rw[List.drop_left];exact List.isPrefixOf_iff_prefix.2 ⟨r,rfl⟩
theorem x3 {b s:List UInt8} (hb:b≠[]) (h:∀i,i<s.length->Lib.occAt s b i=false):Lib.index s b= -1:=by
 refine Lib.index_none fun j hj=>?_
 by_cases hlt:j<s.length
 ·exact h j hlt
 ·cases ho:Lib.occAt s b j with
  |false=>rfl
  |true=>
   rcases Lib.occAt_room ho with h1|h1
   ·have:=List.length_pos_iff.2 hb;omega
   ·exact absurd h1 hb
theorem Pr {b s:List UInt8} (hb:b≠[]) (h:∀i,i<s.length->Lib.occAt s b i=false):Lib.cut s b=(s,[],false):=by
 unfold Lib.cut;rw[x3 hb h,if_neg (by decide)]
theorem J1 {a:List UInt8} (hx:(61:UInt8) ∉ a):Lib.cut a [32,61,32]=(a,[],false):=Pr (by simp) fun i hi=>by have:=OL (t:=[]) hx (.inl rfl) hi;simpa using this
theorem uq {s b:List UInt8} {i:Nat} (hb:b≠[]) (h:Lib.index s b=i):Lib.split s b=s.take i::Lib.split (s.drop (i+b.length)) b:=by
 unfold Lib.split;rw[Lib.count_hit hb h,Nat.add_comm,Lib.splitK,h,if_neg (by rw[beq_iff_eq];omega),Int.toNat_natCast,Nat.add_zero]
theorem lF {s b:List UInt8} (h:Lib.index s b= -1):Lib.split s b=[s]:=by
 unfold Lib.split;rw[Lib.count_miss h];rfl
theorem mQ (x y b:List UInt8) (r:List (List UInt8)):Lib.join (x::y::r) b=x++(b++Lib.join (y::r) b):=by
 rw[Lib.join_cons,Lib.join_cons]
 simp[Lib.joinTail]
theorem p9 {x:UInt8} {b:List UInt8}:∀(l:List (List UInt8)),l≠[]->(∀y∈l,x ∉ y)->Lib.split (Lib.join l (x::b)) (x::b)=l
 | [],h,_=>absurd rfl h
 | [y],_,hx=>by
  rw[Lib.join_one];exact lF (x3 (by simp) fun i hi=>by have:=yg (b:=b) (t:=[]) (hx y (by simp)) hi;simpa using this)
 |y::z::r,_,hx=>by
  have hy:=hx y (by simp);rw[mQ,uq (by simp) (Ei fun _ hi=>yg hy hi),List.take_left,<- List.append_assoc,List.drop_left' (by simp),p9 (z::r) (by simp) fun w hw=>hx w (by simp[List.mem_cons.1 hw])]
def kM (m z:Int):Bool:=decide (0<=z) && decide (z<m)
def Ih:List Int->Bool
 | [p,q,r,s]=>!decide (p=q) && (!decide (r=s) && (!(decide (p=r) && decide (q=s)) && !(decide (p=s) && decide (q=r))))
 |_=>false
def y7 (b:Bool) (s:Int):Bool:=if b=true then decide (s=1) || decide (s= -1)else decide (s=0)
def vA (c:Cn) (P Q:Int):Bool:=match oq c.k with
 |none=>false
 |some r=>(decide ((c.ps.length:Int)=r.p) && c.ps.all (kM P)) && ((decide ((c.cs.length:Int)=r.c) && c.cs.all (kM Q)) && (decide ((c.vs.length:Int)=r.n) && (c.vs.all (fun x=>decide (jg x=0)) && (y7 r.s c.s &&
  (if 5<=c.k/\c.k<=8 then Ih c.ps else decide c.ps.Nodup && decide c.cs.Nodup)))))
theorem fF {c:Cn} {r:Kd} (h:oq c.k=some r) (P Q:Int):vA c P Q=((decide ((c.ps.length:Int)=r.p) && c.ps.all (kM P)) && ((decide ((c.cs.length:Int)=r.c) && c.cs.all (kM Q)) && (decide ((c.vs.length:Int)=r.n) && (c.vs.all (fun x=>decide (jg x=0)) && (y7 r.s c.s &&
 (if 5<=c.k/\c.k<=8 then Ih c.ps else decide c.ps.Nodup && decide c.cs.Nodup)))))):=by unfold vA;rw[h]
theorem iI {c:Cn} (h:oq c.k=none) (P Q:Int):vA c P Q=false:=by unfold vA;rw[h]
def Qx (k:Int):List UInt8:=if k=17 then [111,117,116,115,105,100,101]else [108,101,102,116]
def QE (k:Int):List UInt8:=if k=17 then [105,110,115,105,100,101]else [114,105,103,104,116]
def LA (z:Int):List UInt8:=112::fmt z
def Pn (z:Int):List UInt8:=99::fmt z
def LT (c:Cn):List (List UInt8):=if c.s=1 then [Qx c.k]else if c.s= -1 then [QE c.k]else []
def RF (r:Kd) (c:Cn):List (List UInt8):=r.nm::(c.ps.map LA++c.cs.map Pn++LT c)
def Ie (ts:List (List UInt8)):List UInt8:=if ts=[]then []else [32,61,32]++Lib.join ts [44,32]
def Ff (r:Kd) (c:Cn) (ts:List (List UInt8)):List UInt8:=Lib.join (RF r c) [32]++Ie ts
def Ob (x:UInt8) (w:List UInt8):Option Int:=match w with
 | []=>none
 |c::t=>if c=x then(match Lib.atoiAll t with| .ok v=>some v|_=>none)else none
theorem De:nJ.length=17:=rfl
theorem qD {k:Int} {r:Kd} (h:oq k=some r):1<=k/\k<=17/\nJ[k.toNat-1]? =some r:=by
 unfold oq at h
 split at h
 ·rename_i hk;exact⟨hk.1,hk.2,h⟩
 ·cases h
structure Tq (d:Cn) (r:Kd) (P Q:Int):Prop where
 k:oq d.k=some r
 pl:(d.ps.length:Int)=r.p
 p:∀z∈d.ps,0<=z/\z<P
 cl:(d.cs.length:Int)=r.c
 c:∀z∈d.cs,0<=z/\z<Q
 vl:(d.vs.length:Int)=r.n
 v:∀x∈d.vs,jg x=0
 s:y7 r.s d.s=true
 e:(if 5<=d.k/\d.k<=8 then Ih d.ps else decide d.ps.Nodup && decide d.cs.Nodup)=true
theorem Cb {c:Cn} {P Q:Int}:vA c P Q=true↔ ∃r,Tq c r P Q:=by
 cases hk:oq c.k with
 |none=>exact⟨fun h=>(by rw[iI hk]at h;cases h),fun⟨r,h⟩=>(by rw[h.k]at hk;cases hk)⟩
 |some r=>
  rw[fF hk]
  simp only[Bool.and_eq_true,List.all_eq_true,kM]
  exact⟨fun⟨⟨h1,h2⟩,⟨h3,h4⟩,h5,h6,h7,h8⟩=>⟨r,hk,of_decide_eq_true h1,fun z hz=>⟨of_decide_eq_true (h2 z hz).1,of_decide_eq_true (h2 z hz).2⟩,of_decide_eq_true h3,fun z hz=>⟨of_decide_eq_true (h4 z hz).1,of_decide_eq_true (h4 z hz).2⟩,of_decide_eq_true h5,fun x hx=>of_decide_eq_true (h6 x hx),h7,h8⟩,fun⟨r',h⟩=>by
   have:=h.k;rw[hk]at this;cases this;exact⟨⟨decide_eq_true h.pl,fun z hz=>⟨decide_eq_true (h.p z hz).1,decide_eq_true (h.p z hz).2⟩⟩,⟨decide_eq_true h.cl,fun z hz=>⟨decide_eq_true (h.c z hz).1,decide_eq_true (h.c z hz).2⟩⟩,decide_eq_true h.vl,fun x hx=>decide_eq_true (h.v x hx),h.s,h.e⟩⟩
theorem EE {b:Bool} {s:Int} (h:y7 b s=true):s=1∨s= -1∨s=0:=by
 unfold y7 at h
 split at h
 ·simp at h;omega
 ·simp at h;omega
section
variable {P:Program} {T:TypeId->Option Ty} {n:Nat} {ops:Array Oper} {id:Nat} {draw:Bool} {K:AS->Prop} {s:AS} {k:Nat} {o:Oper} {os:List Oper} {fps:List FP}
theorem HH {t e:TypeId} {x y:Operand} {m i q:Nat} {ik:IntKind} {cs cs':List AV} (hcs:∀(j:Nat) (a:AV),cs'[j]? =some a->cs[i*q+j]? =some a) (hu:P.underlying t=some (.array m e)) (hs:(P.info? e).map (·.size)=some q) (hi:i<m) (h1:gd ops s o=some true) (ho:o.op= .indexAddr t x y) (hx:s.ev x= .rp cs) (hy:s.ev y= .d (.leaf (.val (.int ik (i:Nat)))))
 (h3:aG n o.dst=true) (h4:eY draw ops (az ops o ⟨.rp cs',none⟩ []) k fps=true) (h:aq P T n ops id draw K (k+1) os (s.eff o.dst ⟨.rp cs',none⟩) (az ops o ⟨.rp cs',none⟩ []::fps)):aq P T n ops id draw K k (o::os) s fps:=
 .run h1 (.gen fun s2 ht _=>an (tv:= .rp cs') fun n S0 w0 g a w hM=>by
  have hx2:=(aw ht (x:=x) (by simp[ho,Op.operands])).trans hx;have hy2:=(aw ht (x:=y) (by simp[ho,Op.operands])).trans hy;have h:=hM.ev x;rw[hx2]at h;obtain⟨b,off,f,e1,h1,h2,h3,h4⟩:=h;refine⟨.pointer (some ⟨b,off+i*q,none⟩),w,?_,Below.refl _ _,b,off+i*q,fun j=>f (i*q+j),rfl,h1,h2,fun j c hq=>?_,fun j c hq=>?_⟩
  ·refine Oo ?_
   have e2:(0:Int)<=i/\(i:Int)<m:=by omega
   simp only[e2,and_self,if_true,Sem.run_bind,bA hs w,Result.andThen_ok,Sem.run_pure,bX,Int.toNat_natCast]
  ·rw[Nat.add_assoc];exact h3 (i*q+j) c (hcs j c hq)
  ·exact h4 (i*q+j) c (hcs j c hq)) h3 h4 h
end
abbrev L8:=List UInt8
theorem Bj (x y:L8):decide (x<=y)=!Op.bytesLess y x:=by
 rw[bytesLess_eq];show decide (¬y<x)=_;rw[decide_not]
def yq (l:List L8):Prop:=l.Pairwise fun a b=>Op.bytesLess a b=true
theorem B5:∀{a b:List L8},yq a->yq b->(∀x,x∈a↔x∈b)->a=b
 | [],[],_,_,_=>rfl
 | [],y::b,_,_,h=>absurd ((h y).2 (by simp)) (by simp)
 |x::a,[],_,_,h=>absurd ((h x).1 (by simp)) (by simp)
 |x::a,y::b,ha,hb,h=>by
  have ha:=List.pairwise_cons.1 ha;have hb:=List.pairwise_cons.1 hb
  have e:x=y:=by
   rcases List.mem_cons.1 ((h x).1 (by simp))with e|hx
   ·exact e
   ·rcases List.mem_cons.1 ((h y).2 (by simp))with e|hy
    ·exact e.symm
    ·have:=eI (ha.1 y hy) (hb.1 x hx)
     rw[iT]at this;cases this
  subst e
  congr 1
  refine B5 ha.2 hb.2 fun z=>⟨fun hz=>?_,fun hz=>?_⟩
  ·rcases List.mem_cons.1 ((h z).1 (List.mem_cons_of_mem _ hz))with rfl|hz'
   ·have:=ha.1 z hz;rw[iT]at this;cases this
   ·exact hz'
  ·rcases List.mem_cons.1 ((h z).2 (List.mem_cons_of_mem _ hz))with rfl|hz'
   ·have:=hb.1 z hz;rw[iT]at this;cases this
   ·exact hz'
def l7:List L8->L8->List L8
 | [],x=>[x]
 |y::r,x=>if Op.bytesLess y x=true then y::l7 r x else if y=x then y::r else x::y::r
theorem re:∀{l:List L8} {x z:L8},z∈l7 l x↔z=x∨z∈l
 | [],x,z=>by simp[l7]
 |y::r,x,z=>by
  have ih:=re (l:=r) (x:=x) (z:=z);unfold l7
  split
  ·simp only[List.mem_cons,ih]
   constructor
   ·rintro(h|h|h)
    ·exact .inr (.inl h)
    ·exact .inl h
    ·exact .inr (.inr h)
   ·rintro(h|h|h)
    ·exact .inr (.inl h)
    ·exact .inl h
    ·exact .inr (.inr h)
  ·split
   ·rename_i e
    subst e
    simp only[List.mem_cons]
    constructor
    ·exact fun h=> .inr h
    ·rintro(h|h)
     ·exact .inl h
     ·exact h
   ·simp only[List.mem_cons]
theorem xy:∀{l:List L8} {x:L8},yq l->yq (l7 l x)
 | [],x,_=>List.pairwise_singleton _ _
 |y::r,x,h=>by
  have h':=List.pairwise_cons.1 h;unfold l7
  split
  ·rename_i hy
   refine List.pairwise_cons.2 ⟨fun z hz=>?_,xy h'.2⟩;rcases re.1 hz with rfl|hz
   ·exact hy
   ·exact h'.1 z hz
  ·split
   ·exact h
   ·rename_i h1 h2
    have hxy:Op.bytesLess x y=true:=by
     cases hb:Op.bytesLess x y
     ·exact absurd (nQ (by simpa using h1) hb) h2
     ·rfl
    refine List.pairwise_cons.2 ⟨fun z hz=>?_,h⟩;rcases List.mem_cons.1 hz with rfl|hz
    ·exact hxy
    ·exact eI hxy (h'.1 z hz)
def jT (l:List L8):List L8:=l.foldl l7 []
theorem nT:∀(l acc:List L8),yq acc->yq (l.foldl l7 acc)/\ ∀z,z∈l.foldl l7 acc↔z∈acc∨z∈l
 | [],acc,h=>⟨h,fun z=>by simp⟩
 |x::l,acc,h=>by
  obtain⟨h1,h2⟩:=nT l (l7 acc x) (xy h);refine⟨h1,fun z=>?_⟩;rw[List.foldl_cons,h2,re,List.mem_cons]
  constructor
  ·rintro((h|h)|h)
   ·exact .inr (.inl h)
   ·exact .inl h
   ·exact .inr (.inr h)
  ·rintro(h|h|h)
   ·exact .inl (.inr h)
   ·exact .inl (.inl h)
   ·exact .inr h
theorem Ag (l:List L8):yq (jT l):=(nT l [] List.Pairwise.nil).1
theorem gw (l:List L8) (z:L8):z∈jT l↔z∈l:=by
 rw[jT,(nT l [] List.Pairwise.nil).2]
 simp
theorem vo (l:List L8) (x:L8):Lib.compact (l++[x])=Lib.compact l++if l.getLast? =some x then []else [x]:=by
 unfold Lib.compact;have hlen:(l++[x]).length=l.length+1:=by simp
 rw[hlen,Lib.compactUpTo_succ]
 have hg:∀j,j<l.length->(l++[x]).toArray[j]! =l.toArray[j]!:=fun j hj=>by
  rw[getElem!_pos _ j (by simp;omega),getElem!_pos _ j (by simpa using hj)]
  simp[List.getElem_append_left hj]
 congr 1
 ·unfold Lib.compactUpTo
  have hk:∀j∈List.range l.length,Lib.keeps (l++[x]).toArray j=Lib.keeps l.toArray j:=fun j hj=>by
   have hj:=List.mem_range.1 hj;unfold Lib.keeps;rw[hg j hj];cases j with
   |zero=>simp
   |succ j=>rw[show j+1-1=j from rfl,hg j (by omega)]
  rw[List.filter_congr hk];refine List.map_congr_left fun j hj=>?_
  exact hg j (List.mem_range.1 (List.mem_filter.1 hj).1)
 ·have hx:(l++[x]).toArray[l.length]! =x:=by
   rw[getElem!_pos _ _ (by simp)]
   simp
  rw[hx]
  by_cases h0:l=[]
  ·subst h0
   rfl
  ·have hp:0<l.length:=List.length_pos_iff.2 h0
   have hlast:l.getLast? =some ((l++[x]).toArray[l.length-1]!):=by
    rw[hg _ (by omega),getElem!_pos _ _ (by simpa using by omega),List.getLast?_eq_getElem?]
    simp[hp]
   rw[hlast];unfold Lib.keeps;rw[hx]
   by_cases e:(l++[x]).toArray[l.length-1]! =x
   ·rw[if_neg,if_pos (by rw[e])]
    rw[decide_eq_true_eq];rintro(h|h)
    ·omega
    ·exact h e.symm
   ·rw[if_pos,if_neg (fun h=>e (Option.some.inj h))]
    rw[decide_eq_true_eq];exact .inr fun h=>e h.symm
theorem An:∀(n:Nat) (l:List L8),l.length=n->l.Pairwise (fun a b=>Op.bytesLess b a=false)->yq (Lib.compact l)/\ ∀z,z∈Lib.compact l↔z∈l:=by
 intro n
 induction n with
 |zero=>
  intro l hl _;obtain rfl:=List.eq_nil_of_length_eq_zero hl;exact⟨List.Pairwise.nil,fun z=>Iff.rfl⟩
 |succ n ih=>
  intro l hl hp;obtain⟨l,x,rfl⟩:∃l' x,l=l'++[x]:=⟨l.dropLast,l.getLast (by intro e;rw[e]at hl;cases hl),(List.dropLast_concat_getLast _).symm⟩;have hl':l.length=n:=by simpa using hl
  obtain⟨hp1,_,hp2⟩:=List.pairwise_append.1 hp;obtain⟨h1,h2⟩:=ih l hl' hp1;rw[vo]
  by_cases e:l.getLast? =some x
  ·rw[if_pos e,List.append_nil]
   refine⟨h1,fun z=>?_⟩;rw[h2,List.mem_append,List.mem_singleton]
   constructor
   ·exact .inl
   ·rintro(h|rfl)
    ·exact h
    ·exact List.mem_of_getLast? e
  ·rw[if_neg e]
   refine⟨List.pairwise_append.2 ⟨h1,List.pairwise_singleton _ _,fun a ha b hb=>?_⟩,fun z=>?_⟩
   ·rw[List.mem_singleton.1 hb]
    have ha:=(h2 a).1 ha
    obtain⟨y,hy⟩:∃y,l.getLast? =some y:=by
     cases hl:l.getLast? with
     |none=>rw[List.getLast?_eq_none_iff.1 hl]at ha;cases ha
     |some y=>exact⟨y,rfl⟩
    have hyl:=List.mem_of_getLast? hy
    have hyx:Op.bytesLess y x=true:=by
     cases hb2:Op.bytesLess y x
     ·exact absurd (by rw[hy,nQ hb2 (hp2 y hyl x (by simp))]) e
     ·rfl
    by_cases ey:a=y
    ·rw[ey];exact hyx
    ·have hay:Op.bytesLess y a=false:=by
      obtain⟨l2,rfl⟩:∃l2,l=l2++[y]:=by
       refine⟨l.dropLast,?_⟩;have:=List.getLast?_eq_some_iff.1 hy;obtain⟨ys,rfl⟩:=this
       simp
      rcases List.mem_append.1 ha with ha|ha
      ·exact(List.pairwise_append.1 hp1).2.2 a ha y (by simp)
      ·exact absurd (List.mem_singleton.1 ha) ey
     have hya:Op.bytesLess a y=true:=by
      cases hb3:Op.bytesLess a y
      ·exact absurd (nQ hb3 hay) ey
      ·rfl
     exact eI hya hyx
   ·rw[List.mem_append,h2,List.mem_append]
theorem nv (l:List L8):Lib.compact (l.mergeSort fun x y=>decide (x<=y))=jT l:=by
 have hs:(l.mergeSort fun x y=>decide (x<=y)).Pairwise (fun a b=>Op.bytesLess b a=false):=by
  have:=List.pairwise_mergeSort (le:=fun x y:L8=>decide (x<=y)) (fun a b c h1 h2=>?_) (fun a b=>?_) l
  ·refine this.imp fun {a b} h=>?_
   rw[Bj]at h
   simpa using h
  ·rw[Bj]at h1 h2 ⊢
   simp only[Bool.not_eq_true']at h1 h2 ⊢
   cases hb:Op.bytesLess c a
   ·rfl
   ·cases h3:Op.bytesLess a b
    ·rw[nQ h3 h1,h2]at hb;cases hb
    ·rw[eI hb h3]at h2;cases h2
  ·rw[Bj,Bj]
   cases h1:Op.bytesLess b a
   ·rfl
   ·cases h2:Op.bytesLess a b
    ·rfl
    ·have:=eI h1 h2;rw[iT]at this;cases this
 obtain⟨h1,h2⟩:=An _ _ rfl hs;refine B5 h1 (Ag l) fun z=>?_
 rw[h2,gw,(List.mergeSort_perm l _).mem_iff]
mutual
def ox:Rx->List L8
 | .mk op _ _ _ _ nm args=>jT ((if op=2 then [nm]else [])++fU args)
def fU:List Rx->List L8
 | []=>[]
 |y::r=>ox y++fU r
end
theorem pQ:∀l:List Rx,l.length<=eg l
 | []=>Nat.zero_le _
 |y::r=>by
  have:=pQ r;cases y
  simp only[eg,fW,List.length_cons]
  omega
theorem Ez {na nb:Bool} {xs ys:List Nat}:aa Tryz.prog 126 [Fd na xs nb ys] (.one (dB (ol na xs nb ys))):=by
 show aa Tryz.prog _ [.agg (zc na xs nb ys)] _
 by_cases h1:xs.length=0
 ·by_cases h2:ys.length=0
  ·have e:ol na xs nb ys=(!na && !nb):=by unfold ol;rw[decide_eq_true h1,decide_eq_true h2];simp
   rw[e];cases na<;>cases nb
   all_goals
    refine kU func126 ?_;refine kR ?_;refine kI ?_
    refine kO4 ?_
    refine kT ?_
    refine kO5 ?_
    refine kT ?_;exact kF
  ·have e:ol na xs nb ys=false:=by unfold ol;rw[decide_eq_false h2];simp
   rw[e];refine kU func126 ?_;refine fP ?_;refine kT ?_
   refine kO5 ?_
   refine kE ?_;exact am
 ·have e:ol na xs nb ys=false:=by unfold ol;rw[decide_eq_false h1];simp
  rw[e];refine kU func126 ?_;refine fP ?_;refine kE ?_;exact am
theorem J3 (args:List Rx):(args.any fun y=>!qx y)=!(args.all qx):=by
 rw[List.all_eq_not_any_not,Bool.not_not]
theorem vN:∀(x:Rx),lV x->CK x->fW x<=1000000->aa Tryz.prog 87 [dR x] (.one (dB (qx x))):=by
 refine dK fun op na xs nb ys nm args ih hx hlt hs=>?_
 obtain⟨_,_,hw,hw',hnm,hlen,hargs⟩:=hx;obtain⟨l1,l2,l3,hla⟩:=hlt;rw[fW]at hs;have hge:=pQ args;obtain⟨t,hdec,_⟩:=Eo (na:=na) (nb:=nb) hw hw' l1 l2;have hm:=fB nm (by omega);have hno:=Ez (na:=na) (nb:=nb) (xs:=xs) (ys:=ys);have hcf:=ek (fid:=127) (p:=fun y=>!qx y) args (fun y hy=>f7 (ih y hy (hargs y hy) (hla y hy) (by have:=mL hy;omega))) (by omega) (J3 args);rw[qx,nj];have hA0:args.length=0->args.all qx=true:=fun h=>by rw[List.eq_nil_of_length_eq_zero h];rfl
 refine EA ?_;generalize args.all qx=A at *;generalize args.length=L at *;generalize(lX na xs nb ys).isSome=d at *;generalize ol na xs nb ys=p at *;generalize pB nm=m at *;have hdec:aa Tryz.prog 125 [.agg (zc na xs nb ys)] (.tup [dL t,dB d]):=hdec;have hno:aa Tryz.prog 126 [.agg (zc na xs nb ys)] (.one (dB p)):=hno
 by_cases o1:op=1
 ·subst o1
  by_cases hl:L=0
  ·rw[hA0 hl,Bool.and_true,pU,if_pos rfl,decide_eq_true hl,Bool.and_true]
   generalize hz:decide (nm=[])=z;refine gF ?_;refine Dg ?_;refine kO ?_;refine tH ?_;refine kW ?_;refine kC (hdec) ?_;cases d
   ·exact am
   ·refine kG ?_
    refine kO4 ?_
    cases z
    ·refine SH ?_
     refine kO3 ?_
     refine kC (hm) ?_;cases m
     ·exact am
     ·exact am
    ·refine aD rfl rfl rfl rfl rfl rfl rfl (bv (a:=nm) (b:=[]) (of_decide_eq_true hz)) ?_
     exact am
  ·rw[pU,if_pos rfl,decide_eq_false hl,Bool.and_false,Bool.false_and]
   refine gF ?_;refine Dg ?_;exact r6
 by_cases o2:op=2
 ·subst o2
  by_cases hl:L=0
  ·rw[hA0 hl,Bool.and_true,pU,if_neg (by decide),if_pos rfl,decide_eq_true hl,Bool.and_true]
   refine gF ?_;refine HL ?_;refine kO ?_;refine tH ?_;refine kW ?_;refine kC (hno) ?_;cases p
   ·exact am
   ·refine kW ?_
    refine kC (hm) ?_;cases m
    ·exact am
    ·exact am
  ·rw[pU,if_neg (by decide),if_pos rfl,decide_eq_false hl,Bool.and_false,Bool.false_and]
   refine gF ?_;refine HL ?_;exact r6
 by_cases o3:op=3
 ·subst o3
  by_cases hl:L=1
  ·rw[pU,if_neg (by decide),if_neg (by decide),if_pos rfl,decide_eq_true hl,Bool.and_true]
   generalize hz:decide (nm=[])=z;refine gF ?_;refine H7 ?_;exact xP
  ·rw[pU,if_neg (by decide),if_neg (by decide),if_pos rfl,decide_eq_false hl,Bool.and_false,Bool.false_and]
   refine gF ?_;refine H7 ?_;exact r6
 by_cases o4:op=4
 ·subst o4
  by_cases hl:L=2
  ·refine Lc ?_
   generalize hz:decide (nm=[])=z;refine gF ?_;refine FD ?_;exact xP
  ·refine LB ?_
   refine gF ?_;refine FD ?_;exact r6
 by_cases o5:op=5
 ·subst o5
  by_cases hl:L=2
  ·refine Lc ?_
   generalize hz:decide (nm=[])=z;refine gF ?_;refine Is ?_;exact xP
  ·refine LB ?_
   refine gF ?_;refine Is ?_;exact r6
 by_cases o6:op=6
 ·subst o6
  by_cases hl:L=2
  ·refine Lc ?_
   generalize hz:decide (nm=[])=z;refine gF ?_;refine IP ?_;exact xP
  ·refine LB ?_
   refine gF ?_;refine IP ?_;exact r6
 by_cases o7:op=7
 ·subst o7
  by_cases hl:L=2
  ·refine Lc ?_
   generalize hz:decide (nm=[])=z;refine gF ?_;refine ID ?_;exact xP
  ·refine LB ?_
   refine gF ?_;refine ID ?_;exact r6
 rw[pU,if_neg o1,if_neg o2,if_neg o3,if_neg (by omega),Bool.false_and]
 by_cases hlo:op<1
 ·refine kU func87 ?_
  refine tC ?_;refine kB true ?_ ?_
  ·exact decide_eq_true hlo
  exact am
 ·refine kU func87 ?_
  refine tC ?_;refine kB false ?_ ?_
  ·exact decide_eq_false hlo
  refine kO3 ?_
  refine kT ?_;exact am
theorem gP (x:Rx) (hx:lV x) (hl:CK x) (hs:fW x<=1000000):aa Tryz.prog 44 [dR x] (.one (dN .i64 (jg x))):=by
 have c1:=vN x hx hl hs;have c2:=l5 x hx hs;obtain⟨o1,na1,xs1,nb1,ys1,nm1,n1,cs1,hA⟩:=aN x;rw[show dR x= .agg (ab o1 na1 xs1 nb1 ys1 nm1 n1 cs1) from congrArg DV.agg hA]at c1 c2 ⊢;unfold jg;cases hb:qx x with
 |false=>
  rw[hb]at c1;rw[if_neg (by decide)];refine kU func44 ?_;exact jI
 |true=>
  rw[hb]at c1;rw[if_pos rfl]
  by_cases hd:s7 x<=40
  ·rw[if_pos hd]
   refine kU func44 ?_;exact Gh
  ·rw[if_neg hd]
   refine kU func44 ?_;refine gG ?_;refine kC (c2) ?_;refine kT ?_;exact am
section
open Go.RowKit Go.Sort Go.Lib
def aJ (l:List L8):List AV:=l.map fun x=> .val (vL x)
theorem qd {w:World} {B q:Nat} {arr:Array Value} {e:TypeId} {fz:Nat × Nat} (h:w.heap[B]? =some (.cells arr e fz)) (d:List L8) (os:Array Obj):
 (grow (putRow encStr (Sort.ahead w q) B 0 d.toArray) os).heap[B]? =some (.cells (putCells encStr 0 d.toArray arr) e fz):=by
 have hB:=(Array.getElem?_eq_some_iff.1 h).1;unfold grow putRow mapBlock;show(((Sort.ahead w q).heap.modify B _)++os)[B]? =_;rw[Array.getElem?_append_left (by simpa using hB),Array.getElem?_modify,if_pos rfl];show(w.heap[B]?).map _=_;rw[h];rfl
theorem yK {w:World} {B q k:Nat} (hk:k<w.heap.size) (hne:k≠B) (d:List L8) (os:Array Obj):
 (grow (putRow encStr (Sort.ahead w q) B 0 d.toArray) os).heap[k]? =w.heap[k]?:=by
 unfold grow putRow mapBlock;show(((Sort.ahead w q).heap.modify B _)++os)[k]? =_;rw[Array.getElem?_append_left (by simpa using hk),Array.getElem?_modify,if_neg (fun h=>hne h.symm)];rfl
theorem Dh {d:List L8} {arr:Array Value} (hl:d.length<=arr.size) (i:Nat):(putCells encStr 0 d.toArray arr)[i]? =if i<d.length then(d[i]?).map vL else arr[i]?:=by
 unfold putCells;rw[Array.getElem?_mapIdx]
 by_cases h:i<d.length
 ·rw[if_pos h]
  have h2:i<arr.size:=by omega
  simp[h,h2]
  rfl
 ·rw[if_neg h]
  cases hx:arr[i]? with
  |none=>rfl
  |some x=>simp;omega
theorem CF {S:Nat->Prop} {g:Nat->Nat} {w:World} {l d:List L8} {q:Nat} {os:Array Obj} (hS:EM S g w [(901,aJ l)]) (hd:d.length=l.length):
 lJ (Own S g (sB [(901,aJ d)])) g (sB [(901,aJ d)]) (grow (putRow encStr (Sort.ahead w q) (g 901) 0 d.toArray) os) 901 (aJ d) (g 901) /\
  bY (BX g [(901,aJ l)]) w (grow (putRow encStr (Sort.ahead w q) (g 901) 0 d.toArray) os) /\
  ∀arr e,w.heap[g 901]? =some (.cells arr e (0,0))-> ∃arr',(grow (putRow encStr (Sort.ahead w q) (g 901) 0 d.toArray) os).heap[g 901]? =some (.cells arr' e (0,0))/\arr'.size=arr.size:=by
 obtain⟨arr,e,h1,h2,h3,_,h5⟩:=hS.bm 901 (aJ l) (a8.2 ⟨rfl,rfl⟩);have hlen:l.length<=arr.size:=by have:=h2.1;simpa[aJ]using this
 have hsz:(putCells encStr 0 d.toArray arr).size=arr.size:=by simp[putCells]
 refine⟨⟨_,e,qd h1 d os,⟨by simp[aJ,hsz];omega,fun i a v ha hv=>?_⟩,fun _ v hv=>?_,(fun h=>by cases h),(fun h=>by cases h)⟩,⟨rfl,rfl,rfl,?_,fun k hk hx=>?_,fun k hk hx arr2 e2 fz2 h=>?_⟩,fun arr2 e2 h=>?_⟩
 ·have hi:i<d.length:=by have:=(List.getElem?_eq_some_iff.1 ha).1;simpa[aJ]using this
  rw[Array.getElem?_toList,Dh (by omega),if_pos hi]at hv
  simp[hi]at hv
  simp[aJ,hi]at ha
  subst ha hv;exact .val rfl
 ·obtain⟨i,hi⟩:=List.getElem?_of_mem hv
  rw[Array.getElem?_toList,Dh (by omega)]at hi
  split at hi
  ·rename_i hlt
   simp[hlt]at hi
   subst hi;rfl
  ·exact h3 rfl v (by rw[<- Array.getElem?_toList]at hi;exact List.mem_of_getElem? hi)
 ·show w.heap.size<=_
  simp[grow,putRow,mapBlock]
 ·rw[lP]at hx
  exact yK hk (fun h=>hx h.symm) d os
 ·rw[lP]at hx
  subst hx;rw[h1]at h;cases h;exact⟨_,_,qd h1 d os,hsz⟩
 ·rw[h1]at h
  cases h;exact⟨_,qd h1 d os,hsz⟩
theorem tX {S:Nat->Prop} {g:Nat->Nat} {w:World} {l:List L8} (hS:EM S g w [(901,aJ l)]):Holds encStr w (g 901) 0 l.toArray/\g 901<w.heap.size:=by
 obtain⟨arr,e,h1,h2,_⟩:=hS.bm 901 (aJ l) (a8.2 ⟨rfl,rfl⟩);have hlen:l.length<=arr.size:=by have:=h2.1;simpa[aJ]using this
 refine⟨fun j hj=>?_,(Array.getElem?_eq_some_iff.1 h1).1⟩;have hj:j<l.length:=by simpa using hj
 have hv:=h2.2 j (.val (vL l[j])) arr[j] (by simp[aJ,hj]) (by simp);rw[Nat.zero_add];refine⟨?_,?_⟩
 ·rw[dh h1,Array.getElem?_eq_getElem (by omega),aV hv]
  simp[hj]
  rfl
 ·unfold World.frozen?
  simp[h1]
theorem KF {l:List L8} (hl:l.length<=1000000):au Tryz.prog 322 [.own 901 l.length 1 9] [(901,aJ l)] (.v (.tup [])) [(901,aJ (l.mergeSort fun x y=>decide (x<=y)))]:=
 ⟨av func322 rfl rfl,fun S g w vs hS hv=>by
  match vs,hv with
  | [v],⟨⟨_,h1⟩,_⟩=>
   obtain⟨c,rfl,_,_,_,_⟩:=h1 (aJ l) (a8.2 ⟨rfl,rfl⟩);obtain⟨hH,hB⟩:=tX hS;refine(Tryz.slices_Sort_string (g 901) 0 c l w hH hB (by omega)).mono ?_;rintro e w' ⟨rfl,q,os,rfl⟩;obtain⟨r1,r2,_⟩:=CF (d:=l.mergeSort fun x y=>decide (x<=y)) (q:=q) (os:=os) hS (List.length_mergeSort _);refine⟨_,g,rfl,fun j cs cs' h h'=>?_,fun j cs' h=>?_,fun i j ci cj hi hj _=>?_,?_,r2⟩
   ·obtain⟨_,rfl⟩:=a8.1 h
    obtain⟨_,rfl⟩:=a8.1 h';exact⟨rfl,by simp[aJ]⟩
   ·obtain⟨rfl,rfl⟩:=a8.1 h
    exact⟨.inr (by rw[lP]),r1⟩
   ·rw[(a8.1 hi).1,(a8.1 hj).1]
   ·exact⟨[],rfl,rfl,fun i x u h=>by simp at h⟩⟩
theorem At {l:List L8} (hl:l.length<=1000000):au Tryz.prog 323 [.own 901 l.length 1 9] [(901,aJ l)] (.own 901 (Lib.compact l).length 1 9) [(901,aJ (Lib.compact l++List.replicate (l.length-(Lib.compact l).length) []))]:=
 ⟨av func323 rfl rfl,fun S g w vs hS hv=>by
  match vs,hv with
  | [v],⟨⟨hk,h1⟩,_⟩=>
   obtain⟨c,rfl,h2,h3,h4,arr,h5,h6⟩:=h1 (aJ l) (a8.2 ⟨rfl,rfl⟩);obtain⟨hH,hB⟩:=tX hS;have hcl:=Lib.compact_length_le l;refine(Tryz.slices_Compact_string (g 901) 0 c l w hH (by omega) h2).mono ?_;rintro e w' ⟨rfl,q,rfl⟩;obtain⟨r1,r2,r3⟩:=CF (d:=Lib.compact l++List.replicate (l.length-(Lib.compact l).length) []) (q:=q) (os:= #[]) hS (by simp;omega);rw[grow_empty]at r1 r2 r3;obtain⟨arr',r4,r5⟩:=r3 arr _ h5;refine⟨_,g,rfl,fun j cs cs' h h'=>?_,fun j cs' h=>?_,fun i j ci cj hi hj _=>?_,?_,r2⟩
   ·obtain⟨_,rfl⟩:=a8.1 h
    obtain⟨_,rfl⟩:=a8.1 h';exact⟨rfl,by simp[aJ];omega⟩
   ·obtain⟨rfl,rfl⟩:=a8.1 h
    exact⟨.inr (by rw[lP]),r1⟩
   ·rw[(a8.1 hi).1,(a8.1 hj).1]
   ·refine⟨AS.kn_of (a8.2 ⟨rfl,rfl⟩),fun cs hc=>?_⟩
    obtain⟨_,rfl⟩:=a8.1 hc;exact⟨c,rfl,by omega,h3,by simp[aJ],arr',r4,by rw[r5,h6]⟩⟩
end
mutual
def wC:Rx->Rx->Bool
 | .mk op na xs nb ys nm args, .mk op' na' xs' nb' ys' nm' args'=>decide (op=op') && (decide (nm=nm') && (decide (args.length=args'.length) && ((sameB na na' xs xs' && sameB nb nb' ys ys') && jO args args')))
def jO:List Rx->List Rx->Bool
 |x::r,y::s=>wC x y && jO r s
 | [],_=>true
 |_::_,[]=>true
end
theorem jL:∀(l m:List Rx),l.length=m.length->(jO l m=true↔ ∀(i:Nat) x y,l[i]? =some x->m[i]? =some y->wC x y=true)
 | [],[],_=>by simp[jO]
 |x::r,y::s,h=>by
  have ih:=jL r s (by simpa using h);rw[jO,Bool.and_eq_true,ih]
  constructor
  ·rintro⟨h1,h2⟩ i a b ha hb
   cases i with
   |zero=>simp at ha hb;subst ha hb;exact h1
   |succ i=>exact h2 i a b (by simpa using ha) (by simpa using hb)
  ·intro hall
   exact⟨hall 0 x y rfl rfl,fun i a b ha hb=>hall (i+1) a b (by simpa using ha) (by simpa using hb)⟩
theorem Im:∀x:Rx,wC x x=true:=by
 refine dK fun op na xs nb ys nm args ih=>?_
 have h:jO args args=true:=(jL args args rfl).2 fun i x y hx hy=>by
  rw[hx]at hy;cases hy;exact ih x (List.mem_of_getElem? hx)
 rw[wC,h,kb rfl,kb rfl]
 simp
theorem yd {na nb na' nb':Bool} {xs ys xs' ys':List Nat} (hl:xs.length<=2147483648) (hl':ys.length<=2147483648):aa Tryz.prog 24 [Fd na xs nb ys,Fd na' xs' nb' ys'] (.one (dB (sameB na na' xs xs' && sameB nb nb' ys ys'))):=by
 have c1:aa Tryz.prog 59 [dI na xs,dI na' xs'] (.one (dB (sameB na na' xs xs'))):=fy hl rfl;have c2:aa Tryz.prog 59 [dI nb ys,dI nb' ys'] (.one (dB (sameB nb nb' ys ys'))):=fy hl' rfl;generalize sameB na na' xs xs'=b1 at *;generalize sameB nb nb' ys ys'=b2 at *;cases b1
 ·refine kU func24 ?_
  exact jI
 ·cases b2
  all_goals
   refine kV func24 ?_;refine kQ (c1) ?_;refine kC (c2) ?_;exact kF
theorem tp:∀(x:Rx),JO x-> ∀y,JO y->aa Tryz.prog 70 [dR x,dR y] (.one (dB (wC x y))):=by
 refine dK fun op na xs nb ys nm args ih hx=>?_
 rintro⟨op',na',xs',nb',ys',nm',args'⟩ hy;obtain⟨h1,h2,h3,h4⟩:=hx;obtain⟨_,_,g3,g4⟩:=hy;have cs:=yd (na:=na) (nb:=nb) (na':=na') (nb':=nb') (xs':=xs') (ys':=ys') h1 h2;have hall:=jL args args';rw[wC];generalize(sameB na na' xs xs' && sameB nb nb' ys ys')=bs at *;refine Nv ?_;have cs:aa Tryz.prog 24 [.agg (zc na xs nb ys), .agg (zc na' xs' nb' ys')] (.one (dB bs)):=cs
 by_cases e1:op=op'
 ·rw[decide_eq_true e1,Bool.true_and]
  by_cases e2:nm=nm'
  ·rw[decide_eq_true e2,Bool.true_and]
   by_cases e3:args.length=args'.length
   ·rw[decide_eq_true e3,Bool.true_and]
    have hall:=hall e3;cases bs
    ·rw[Bool.false_and]
     refine M9 ?_;exact am
    ·rw[Bool.true_and]
     generalize jO args args'=B at *;refine M9 ?_;refine kW ?_
     refine ax Nat (fun i=>i<=args.length/\ ∀(q:Nat) x y,q<i->args[q]? =some x->args'[q]? =some y->wC x y=true) (fun i=>⟨[(2, .box 0 0),(3, .box 1 0),(4, .d (dB false)),(5, .d (dN .i64 i))],[(0,some (ab op na xs nb ys nm args.length (d7 args))),(1,some (ab op' na' xs' nb' ys' nm' args'.length (d7 args')))]⟩) (fun i=>args.length-i) 0 ⟨Nat.zero_le _,fun q x y h=>absurd h (Nat.not_lt_zero _)⟩
      kw ?_
     rintro i ⟨hi,hq⟩;refine kI ?_
     refine kO4 ?_
     by_cases hlt:i<args.length
     ·refine kT ?_
      have hlt':i<args'.length:=by omega
      obtain⟨o1,na1,xs1,nb1,ys1,nm1,n1,cs1,hA⟩:=aN args[i];obtain⟨o2,na2,xs2,nb2,ys2,nm2,n2,cs2,hA2⟩:=aN args'[i];have hx:args[i]? =some args[i]:=by simp[hlt]
      have hy:args'[i]? =some args'[i]:=by simp[hlt']
      have hat:∀(j:Nat) (a:AV),(ab o1 na1 xs1 nb1 ys1 nm1 n1 cs1)[j]? =some a->(d7 args)[i*7+j]? =some a:=fun j a h=>dz args i args[i] hx j a (by rw[hA];exact h)
      have hat':∀(j:Nat) (a:AV),(ab o2 na2 xs2 nb2 ys2 nm2 n2 cs2)[j]? =some a->(d7 args')[i*7+j]? =some a:=fun j a h=>dz args' i args'[i] hy j a (by rw[hA2];exact h)
      have c:=ih args[i] (List.getElem_mem hlt) (h4 _ (List.getElem_mem hlt)) args'[i] (g4 _ (List.getElem_mem hlt'));rw[show dR args[i]= .agg (ab o1 na1 xs1 nb1 ys1 nm1 n1 cs1) from congrArg DV.agg hA,show dR args'[i]= .agg (ab o2 na2 xs2 nb2 ys2 nm2 n2 cs2) from congrArg DV.agg hA2]at c;refine rS ?_;refine kW ?_;refine Ja ?_;refine kW ?_;cases hb:wC args[i] args'[i]
      ·exact Oa
      ·rw[hb]at c
       refine kQ (c) ?_
       exact⟨i+1,⟨hlt,fun q x y h1 h2 h3=>by
        by_cases e:q=i
        ·subst e;rw[hx]at h2;rw[hy]at h3;cases h2;cases h3;exact hb
        ·exact hq q x y (by omega) h2 h3⟩,by omega,weak ⟨rfl,rfl,rfl,aA (by omega) (by omega),trivial⟩ ⟨rfl,rfl,trivial⟩ rfl⟩
     ·exact N0
   ·rw[decide_eq_false e3,Bool.false_and]
    refine kU func70 ?_;refine fP ?_;refine RW ?_;refine pA ?_;exact am
  ·rw[decide_eq_false e2,Bool.false_and]
   refine kU func70 ?_;refine fP ?_;refine kB false ?_ ?_
   ·exact(by simp[e1])
   refine kO5 ?_
   refine aD rfl rfl rfl rfl rfl rfl rfl (mf (a:=nm) (b:=nm') e2) ?_;exact am
 ·rw[decide_eq_false e1,Bool.false_and]
  refine kU func70 ?_;refine fP ?_;refine kB true ?_ ?_
  ·exact(by simp[e1])
  exact am
theorem Ep {xs ys:List Nat} (hl:xs.length<=2147483648):aa Tryz.prog 165 [dW xs,dW ys] (.one (dB (decide (xs=ys)))):=by
 show aa Tryz.prog _ [.leaf (.sl xs.length (xs.map fun x=>AV.val (bH x))), .leaf (.sl ys.length (ys.map fun x=>AV.val (bH x)))] _
 by_cases hxy:xs.length=ys.length
 ·obtain⟨b,hb⟩:∃b,decide (xs=ys)=b:=⟨_,rfl⟩
  rw[hb];refine kU func165 ?_;refine fP ?_;refine yf ?_;refine ax Nat (fun j=>j<=xs.length/\ ∀i,i<j->xs[i]? =ys[i]?) (fun j=>⟨[(0, .d (dW xs)),(1, .d (dW ys)),(4, .d (dB false)),(12, .d (dN .i64 xs.length)),(13, .d (dN .i64 j))],[]⟩) (fun j=>xs.length-j) 0 ⟨Nat.zero_le _,fun i h=>absurd h (Nat.not_lt_zero _)⟩ kw ?_;rintro j ⟨hj,hall⟩;refine kI ?_
  by_cases hlt:j<xs.length
  ·refine kT ?_
   have hlt':j<ys.length:=by omega
   refine kW ?_;refine aH (i:=j) (cs':=[AV.val (bH xs[j])]) hlt (Cv (by simp[hlt])) (Nat.lt_succ_self 0) rfl rfl rfl rfl rfl rfl rfl rfl ?_;refine kW ?_;refine aH (i:=j) (cs':=[AV.val (bH ys[j])]) hlt' (Cv (by simp[hlt'])) (Nat.lt_succ_self 0) rfl rfl rfl rfl rfl rfl rfl rfl ?_;refine kO ?_
   by_cases he:xs[j]=ys[j]
   ·exact NG
   ·have hne:b=false:=by rw[<- hb];exact decide_eq_false fun e=>he (by subst e;rfl)
    cases b
    ·refine pA ?_
     exact am
    ·cases hne
  ·exact IZ
 ·rw[decide_eq_false (fun e=>hxy (by rw[e]))]
  refine kU func165 ?_;refine fP ?_;refine pA ?_;exact am
theorem oR {na nb:Bool} {xs ys:List Nat} (hl:xs.length<=2147483648):aa Tryz.prog 118 [dI na xs,dI nb ys] (.one (dB (sameB na nb xs ys))):=by
 have c:=Ep (ys:=ys) hl;unfold sameB;generalize decide (xs=ys)=b at *
 by_cases h:na=nb
 ·subst h
  cases na<;>cases b
  all_goals
   refine kV func118 ?_;refine kC (c) ?_;exact kF
 ·cases na<;>cases nb<;>first|exact absurd rfl h|skip
  all_goals
   refine kU func118 ?_;exact kF
theorem mO {fid:FuncId} (args args':List Rx) (hp:∀x∈args,∀y∈args',aa Tryz.prog fid [dR x,dR y] (.one (dB (wC x y)))) (hl:args.length<=1000000):
 aa Tryz.prog 75 [.leaf (.sl args.length (d7 args)), .leaf (.sl args'.length (d7 args')),dF fid] (.one (dB (decide (args.length=args'.length) && jO args args'))):=by
 have hall:=jL args args'
 by_cases e3:args.length=args'.length
 ·rw[decide_eq_true e3,Bool.true_and]
  have hall:=hall e3;generalize jO args args'=B at *;refine kU func75 ?_;refine fP ?_;refine kB false ?_ ?_
  ·exact(by simp[e3])
  refine kW ?_
  refine ax Nat (fun i=>i<=args.length/\ ∀(q:Nat) x y,q<i->args[q]? =some x->args'[q]? =some y->wC x y=true) (fun i=>⟨[(1, .d (.leaf (.sl args'.length (d7 args')))),(2, .d (dF fid)),(6, .d (dB false)),(15, .d (.leaf (.sl args.length (d7 args)))),(16, .d (dN .i64 args.length)),(17, .d (dN .i64 i))],[]⟩) (fun i=>args.length-i) 0 ⟨Nat.zero_le _,fun q x y h=>absurd h (Nat.not_lt_zero _)⟩
   kw ?_
  rintro i ⟨hi,hq⟩;refine kI ?_
  by_cases hlt:i<args.length
  ·refine kT ?_
   have hlt':i<args'.length:=by omega
   obtain⟨o1,na1,xs1,nb1,ys1,nm1,n1,cs1,hA⟩:=aN args[i];obtain⟨o2,na2,xs2,nb2,ys2,nm2,n2,cs2,hA2⟩:=aN args'[i];have hx:args[i]? =some args[i]:=by simp[hlt]
   have hy:args'[i]? =some args'[i]:=by simp[hlt']
   have hat:∀(j:Nat) (a:AV),(ab o1 na1 xs1 nb1 ys1 nm1 n1 cs1)[j]? =some a->(d7 args)[i*7+j]? =some a:=fun j a h=>dz args i args[i] hx j a (by rw[hA];exact h)
   have hat':∀(j:Nat) (a:AV),(ab o2 na2 xs2 nb2 ys2 nm2 n2 cs2)[j]? =some a->(d7 args')[i*7+j]? =some a:=fun j a h=>dz args' i args'[i] hy j a (by rw[hA2];exact h)
   have c:=hp args[i] (List.getElem_mem hlt) args'[i] (List.getElem_mem hlt');rw[show dR args[i]= .agg (ab o1 na1 xs1 nb1 ys1 nm1 n1 cs1) from congrArg DV.agg hA,show dR args'[i]= .agg (ab o2 na2 xs2 nb2 ys2 nm2 n2 cs2) from congrArg DV.agg hA2]at c;refine rS ?_;refine kW ?_;refine Ja ?_;refine kW ?_;cases hb:wC args[i] args'[i]
   ·exact Oa
   ·rw[hb]at c
    refine kQ (c) ?_
    exact⟨i+1,⟨hlt,fun q x y h1 h2 h3=>by
     by_cases e:q=i
     ·subst e;rw[hx]at h2;rw[hy]at h3;cases h2;cases h3;exact hb
     ·exact hq q x y (by omega) h2 h3⟩,by omega,weak ⟨rfl,rfl,rfl,rfl,rfl,aA (by omega) (by omega),trivial⟩ trivial rfl⟩
  ·exact N0
 ·rw[decide_eq_false e3,Bool.false_and]
  refine kU func75 ?_;refine fP ?_;refine pA ?_;exact am
theorem yX:∀(x:Rx),JO x-> ∀y,JO y->aa Tryz.prog 76 [dR x,dR y] (.one (dB (wC x y))):=by
 refine dK fun op na xs nb ys nm args ih hx=>?_
 rintro⟨op',na',xs',nb',ys',nm',args'⟩ hy;obtain⟨h1,h2,h3,h4⟩:=hx;obtain⟨_,_,g3,g4⟩:=hy;have c1:=oR (na:=na) (nb:=na') (ys:=xs') h1;have c2:=oR (na:=nb) (nb:=nb') (ys:=ys') h2;have c3:=mO (fid:=76) args args' (fun x hx y hy=>ih x hx (h4 x hx) y (g4 y hy)) h3;rw[wC];generalize sameB na na' xs xs'=b1 at *;generalize sameB nb nb' ys ys'=b2 at *;have e0:(decide (args.length=args'.length) && ((b1 && b2) && jO args args'))=(b1 && (b2 && (decide (args.length=args'.length) && jO args args'))):=by cases b1<;>cases b2<;>simp
 rw[e0];generalize(decide (args.length=args'.length) && jO args args')=b3 at *;refine Nv ?_;have c1:aa Tryz.prog 118 [.agg (aI na xs), .agg (aI na' xs')] (.one (dB b1)):=c1;have c2:aa Tryz.prog 118 [.agg (aI nb ys), .agg (aI nb' ys')] (.one (dB b2)):=c2
 by_cases e1:op=op'
 ·rw[decide_eq_true e1,Bool.true_and]
  by_cases e2:nm=nm'
  ·rw[decide_eq_true e2,Bool.true_and]
   cases b1
   ·refine MA ?_
    exact am
   ·cases b2
    ·refine MA ?_
     iterate 8 refine kO ?_
     refine kC (c2) ?_;exact am
    ·cases b3
     all_goals
      refine kU func76 ?_;refine kR ?_;refine kI ?_
      refine kO4 ?_
      refine kB true ?_ ?_
      ·exact(by simp[e1])
      refine kO5 ?_
      refine aD rfl rfl rfl rfl rfl rfl rfl (bv (a:=nm) (b:=nm') e2) ?_
      iterate 8 refine kO ?_
      refine kC (c1) ?_
      iterate 8 refine kO ?_
      refine kQ (c2) ?_;refine kC (c3) ?_;exact kF
  ·rw[decide_eq_false e2,Bool.false_and]
   refine kU func76 ?_;refine fP ?_;refine K9 ?_;refine aD rfl rfl rfl rfl rfl rfl rfl (b7 (a:=nm) (b:=nm') e2) ?_;exact am
 ·rw[decide_eq_false e1,Bool.false_and]
  refine kU func76 ?_;refine fP ?_;refine kB false ?_ ?_
  ·exact(by simp[e1])
  exact am
end Go.Proofs.YtnchbpoopnjghaaGreatDoor
