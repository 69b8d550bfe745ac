/- Parts of a proof: contracts of the functions that the laws reach. -/
import Derived.Test.YtmkggcjajcdlcaaGreatDoorVZ8
set_option maxHeartbeats 100000000
set_option linter.all false
open Go.Proofs.Tryz
namespace Go.Proofs.YtmkggcjajcdlcaaGreatDoor
open Go.RowKit
theorem jn:∀l:List Rx,l.length<=ej l
 | []=>Nat.zero_le _
 |y::r=>by
  have:=jn r;cases y
  simp only[ej,gr,List.length_cons]
  omega
theorem ES {na nb:Bool} {xs ys:List Nat}:aa Tryz.prog 175 [Jt na xs nb ys] (.one (dB (ol na xs nb ys))):=by
 show aa Tryz.prog _ [.agg (Cr na xs nb ys)] _
 by_cases h1:xs.length=0
 ·by_cases h2:ys.length=0
  ·have e:ol na xs nb ys=(!na && !nb):=by unfold ol;rw[decide_eq_true h1,decide_eq_true h2];simp
   rw[e];cases na<;>cases nb
   all_goals
    refine kU func175 ?_;refine kR ?_;refine kI ?_
    refine kO4 ?_
    refine kT ?_
    refine kO5 ?_
    refine kT ?_;exact kF
  ·have e:ol na xs nb ys=false:=by unfold ol;rw[decide_eq_false h2];simp
   rw[e];refine kU func175 ?_;refine NW ?_;refine kT ?_
   refine kO5 ?_
   refine kE ?_;exact aD
 ·have e:ol na xs nb ys=false:=by unfold ol;rw[decide_eq_false h1];simp
  rw[e];refine kU func175 ?_;refine NW ?_;refine kE ?_;exact aD
theorem KX (args:List Rx):(args.any fun y=>!qI y)=!(args.all qI):=by
 rw[List.all_eq_not_any_not,Bool.not_not]
theorem wK:∀(x:Rx),jN x->yi x->gr x<=1000000->aa Tryz.prog 112 [dR x] (.one (dB (qI x))):=by
 refine du fun op na xs nb ys nm args ih hx hlt hs=>?_
 obtain⟨_,_,hw,hw',hnm,hlen,hargs⟩:=hx;obtain⟨l1,l2,l3,hla⟩:=hlt;rw[gr]at hs;have hge:=jn args;obtain⟨t,hdec,_⟩:=ET (na:=na) (nb:=nb) hw hw' l1 l2;have hm:=jE nm (by omega);have hno:=ES (na:=na) (nb:=nb) (xs:=xs) (ys:=ys);have hcf:=pB (fid:=177) (p:=fun y=>!qI y) args (fun y hy=>wE (ih y hy (hargs y hy) (hla y hy) (by have:=jg hy;omega))) (by omega) (KX args);rw[qI,mB];have hA0:args.length=0->args.all qI=true:=fun h=>by rw[List.eq_nil_of_length_eq_zero h];rfl
 refine OU ?_;generalize args.all qI=A at *;generalize args.length=L at *;generalize(lJ na xs nb ys).isSome=d at *;generalize ol na xs nb ys=p at *;generalize mh nm=m at *;have hdec:aa Tryz.prog 174 [.agg (Cr na xs nb ys)] (.tup [dL t,dB d]):=hdec;have hno:aa Tryz.prog 175 [.agg (Cr na xs nb ys)] (.one (dB p)):=hno
 by_cases o1:op=1
 ·subst o1
  by_cases hl:L=0
  ·rw[hA0 hl,Bool.and_true,pS,if_pos rfl,decide_eq_true hl,Bool.and_true]
   generalize hz:decide (nm=[])=z;refine zI ?_;refine fF (i:=1) underlying172 (by kernel_rfl) (by decide) rfl rfl rfl rfl rfl rfl ?_;refine kO ?_;refine kB false ?_ ?_
   ·exact(by simp;omega)
   refine kW ?_;refine kC (hdec) ?_;cases d
   ·exact aD
   ·refine kG ?_
    refine kO4 ?_
    cases z
    ·refine J9 ?_
     refine kO3 ?_
     refine kC (hm) ?_;cases m
     ·exact aD
     ·exact aD
    ·refine aO rfl rfl rfl rfl rfl rfl rfl (bO (a:=nm) (b:=[]) (of_decide_eq_true hz)) ?_
     exact aD
  ·rw[pS,if_pos rfl,decide_eq_false hl,Bool.and_false,Bool.false_and]
   refine zI ?_;refine fF (i:=1) underlying172 (by kernel_rfl) (by decide) rfl rfl rfl rfl rfl rfl ?_;exact IV
 by_cases o2:op=2
 ·subst o2
  by_cases hl:L=0
  ·rw[hA0 hl,Bool.and_true,pS,if_neg (by decide),if_pos rfl,decide_eq_true hl,Bool.and_true]
   refine zI ?_;refine fF (i:=2) underlying172 (by kernel_rfl) (by decide) rfl rfl rfl rfl rfl rfl ?_;refine N7 ?_;cases p
   ·exact aD
   ·refine kW ?_
    refine kC (hm) ?_;cases m
    ·exact aD
    ·exact aD
  ·rw[pS,if_neg (by decide),if_pos rfl,decide_eq_false hl,Bool.and_false,Bool.false_and]
   refine zI ?_;refine fF (i:=2) underlying172 (by kernel_rfl) (by decide) rfl rfl rfl rfl rfl rfl ?_;exact IV
 by_cases o3:op=3
 ·subst o3
  by_cases hl:L=1
  ·rw[pS,if_neg (by decide),if_neg (by decide),if_pos rfl,decide_eq_true hl,Bool.and_true]
   generalize hz:decide (nm=[])=z;refine zI ?_;refine fF (i:=3) underlying172 (by kernel_rfl) (by decide) rfl rfl rfl rfl rfl rfl ?_;exact FB
  ·rw[pS,if_neg (by decide),if_neg (by decide),if_pos rfl,decide_eq_false hl,Bool.and_false,Bool.false_and]
   refine zI ?_;refine fF (i:=3) underlying172 (by kernel_rfl) (by decide) rfl rfl rfl rfl rfl rfl ?_;exact IV
 by_cases o4:op=4
 ·subst o4
  by_cases hl:L=2
  ·refine RG ?_
   generalize hz:decide (nm=[])=z;refine zI ?_;refine fF (i:=4) underlying172 (by kernel_rfl) (by decide) rfl rfl rfl rfl rfl rfl ?_;exact FB
  ·refine PV ?_
   refine fF (i:=4) underlying172 (by kernel_rfl) (by decide) rfl rfl rfl rfl rfl rfl ?_;exact IV
 by_cases o5:op=5
 ·subst o5
  by_cases hl:L=2
  ·refine RG ?_
   generalize hz:decide (nm=[])=z;refine zI ?_;refine fF (i:=5) underlying172 (by kernel_rfl) (by decide) rfl rfl rfl rfl rfl rfl ?_;exact FB
  ·refine PV ?_
   refine fF (i:=5) underlying172 (by kernel_rfl) (by decide) rfl rfl rfl rfl rfl rfl ?_;exact IV
 by_cases o6:op=6
 ·subst o6
  by_cases hl:L=2
  ·refine RG ?_
   generalize hz:decide (nm=[])=z;refine zI ?_;refine fF (i:=6) underlying172 (by kernel_rfl) (by decide) rfl rfl rfl rfl rfl rfl ?_;exact FB
  ·refine PV ?_
   refine fF (i:=6) underlying172 (by kernel_rfl) (by decide) rfl rfl rfl rfl rfl rfl ?_;exact IV
 by_cases o7:op=7
 ·subst o7
  by_cases hl:L=2
  ·refine RG ?_
   generalize hz:decide (nm=[])=z;refine zI ?_;refine fF (i:=7) underlying172 (by kernel_rfl) (by decide) rfl rfl rfl rfl rfl rfl ?_;exact FB
  ·refine PV ?_
   refine fF (i:=7) underlying172 (by kernel_rfl) (by decide) rfl rfl rfl rfl rfl rfl ?_;exact IV
 rw[pS,if_neg o1,if_neg o2,if_neg o3,if_neg (by omega),Bool.false_and]
 by_cases hlo:op<1
 ·refine kU func112 ?_
  refine Qm ?_;refine kB true ?_ ?_
  ·exact decide_eq_true hlo
  exact aD
 ·refine kU func112 ?_
  refine Qm ?_;refine kB false ?_ ?_
  ·exact decide_eq_false hlo
  refine kO3 ?_
  refine kT ?_;exact aD
theorem oL (x:Rx) (hx:jN x) (hl:yi x) (hs:gr x<=1000000):aa Tryz.prog 59 [dR x] (.one (dN .i64 (pT x))):=by
 have c1:=wK x hx hl hs;have c2:=BC x hx hs;obtain⟨o1,na1,xs1,nb1,ys1,nm1,n1,cs1,hA⟩:=bv x;rw[show dR x= .agg (ab o1 na1 xs1 nb1 ys1 nm1 n1 cs1) from congrArg DV.agg hA]at c1 c2 ⊢;unfold pT;cases hb:qI x with
 |false=>
  rw[hb]at c1;rw[if_neg (by decide)];refine kU func59 ?_;exact MO
 |true=>
  rw[hb]at c1;rw[if_pos rfl]
  by_cases hd:yS x<=40
  ·rw[if_pos hd]
   refine kU func59 ?_;refine mb ?_;refine kC (c2) ?_;refine kE ?_;exact aD
  ·rw[if_neg hd]
   refine kU func59 ?_;refine mb ?_;refine kC (c2) ?_;refine kT ?_;exact aD
section
open Go.RowKit Go.Sort Go.Lib
def au (l:List L8):List AV:=l.map fun x=> .val (vL x)
theorem qM {w:World} {B q:Nat} {arr:Array Value} {e:TypeId} {fz:Nat × Nat} (h:w.heap[B]? =some (.cells arr e fz)) (d:List L8) (os:Array Obj):
 (grow (putRow encStr (Sort.ahead w q) B 0 d.toArray) os).heap[B]? =some (.cells (putCells encStr 0 d.toArray arr) e fz):=by
 have hB:=(Array.getElem?_eq_some_iff.1 h).1;unfold grow putRow mapBlock;show(((Sort.ahead w q).heap.modify B _)++os)[B]? =_;rw[Array.getElem?_append_left (by simpa using hB),Array.getElem?_modify,if_pos rfl];show(w.heap[B]?).map _=_;rw[h];rfl
theorem wY {w:World} {B q k:Nat} (hk:k<w.heap.size) (hne:k≠B) (d:List L8) (os:Array Obj):
 (grow (putRow encStr (Sort.ahead w q) B 0 d.toArray) os).heap[k]? =w.heap[k]?:=by
 unfold grow putRow mapBlock;show(((Sort.ahead w q).heap.modify B _)++os)[k]? =_;rw[Array.getElem?_append_left (by simpa using hk),Array.getElem?_modify,if_neg (fun h=>hne h.symm)];rfl
theorem Cv {d:List L8} {arr:Array Value} (hl:d.length<=arr.size) (i:Nat):(putCells encStr 0 d.toArray arr)[i]? =if i<d.length then(d[i]?).map vL else arr[i]?:=by
 unfold putCells;rw[Array.getElem?_mapIdx]
 by_cases h:i<d.length
 ·rw[if_pos h]
  have h2:i<arr.size:=by omega
  simp[h,h2]
  rfl
 ·rw[if_neg h]
  cases hx:arr[i]? with
  |none=>rfl
  |some x=>simp;omega
theorem DE {S:Nat->Prop} {g:Nat->Nat} {w:World} {l d:List L8} {q:Nat} {os:Array Obj} (hS:Fi S g w [(901,au l)]) (hd:d.length=l.length):
 lV (Own S g (sB [(901,au d)])) g (sB [(901,au d)]) (grow (putRow encStr (Sort.ahead w q) (g 901) 0 d.toArray) os) 901 (au d) (g 901) /\
  dj (BX g [(901,au l)]) w (grow (putRow encStr (Sort.ahead w q) (g 901) 0 d.toArray) os) /\
  ∀arr e,w.heap[g 901]? =some (.cells arr e (0,0))-> ∃arr',(grow (putRow encStr (Sort.ahead w q) (g 901) 0 d.toArray) os).heap[g 901]? =some (.cells arr' e (0,0))/\arr'.size=arr.size:=by
 obtain⟨arr,e,h1,h2,h3,_,h5⟩:=hS.bm 901 (au l) (bC.2 ⟨rfl,rfl⟩);have hlen:l.length<=arr.size:=by have:=h2.1;simpa[au]using this
 have hsz:(putCells encStr 0 d.toArray arr).size=arr.size:=by simp[putCells]
 refine⟨⟨_,e,qM h1 d os,⟨by simp[au,hsz];omega,fun i a v ha hv=>?_⟩,fun _ v hv=>?_,(fun h=>by cases h),(fun h=>by cases h)⟩,⟨rfl,rfl,rfl,?_,fun k hk hx=>?_,fun k hk hx arr2 e2 fz2 h=>?_⟩,fun arr2 e2 h=>?_⟩
 ·have hi:i<d.length:=by have:=(List.getElem?_eq_some_iff.1 ha).1;simpa[au]using this
  rw[Array.getElem?_toList,Cv (by omega),if_pos hi]at hv
  simp[hi]at hv
  simp[au,hi]at ha
  subst ha hv;exact .val rfl
 ·obtain⟨i,hi⟩:=List.getElem?_of_mem hv
  rw[Array.getElem?_toList,Cv (by omega)]at hi
  split at hi
  ·rename_i hlt
   simp[hlt]at hi
   subst hi;rfl
  ·exact h3 rfl v (by rw[<- Array.getElem?_toList]at hi;exact List.mem_of_getElem? hi)
 ·show w.heap.size<=_
  simp[grow,putRow,mapBlock]
 ·rw[nU]at hx
  exact wY hk (fun h=>hx h.symm) d os
 ·rw[nU]at hx
  subst hx;rw[h1]at h;cases h;exact⟨_,_,qM h1 d os,hsz⟩
 ·rw[h1]at h
  cases h;exact⟨_,qM h1 d os,hsz⟩
theorem tp {S:Nat->Prop} {g:Nat->Nat} {w:World} {l:List L8} (hS:Fi S g w [(901,au l)]):Holds encStr w (g 901) 0 l.toArray/\g 901<w.heap.size:=by
 obtain⟨arr,e,h1,h2,_⟩:=hS.bm 901 (au l) (bC.2 ⟨rfl,rfl⟩);have hlen:l.length<=arr.size:=by have:=h2.1;simpa[au]using this
 refine⟨fun j hj=>?_,(Array.getElem?_eq_some_iff.1 h1).1⟩;have hj:j<l.length:=by simpa using hj
 have hv:=h2.2 j (.val (vL l[j])) arr[j] (by simp[au,hj]) (by simp);rw[Nat.zero_add];refine⟨?_,?_⟩
 ·rw[eN h1,Array.getElem?_eq_getElem (by omega),dM hv]
  simp[hj]
  rfl
 ·unfold World.frozen?
  simp[h1]
theorem C4 {l:List L8} (hl:l.length<=1000000):bw Tryz.prog 71 [.own 901 l.length 1 9] [(901,au l)] (.v (.tup [])) [(901,au (l.mergeSort fun x y=>decide (x<=y)))]:=
 ⟨aJ func71 rfl rfl,fun S g w vs hS hv=>by
  match vs,hv with
  | [v],⟨⟨_,h1⟩,_⟩=>
   obtain⟨c,rfl,_,_,_,_⟩:=h1 (au l) (bC.2 ⟨rfl,rfl⟩);obtain⟨hH,hB⟩:=tp hS;refine(Tryz.slices_Sort_string (g 901) 0 c l w hH hB (by omega)).mono ?_;rintro e w' ⟨rfl,q,os,rfl⟩;obtain⟨r1,r2,_⟩:=DE (d:=l.mergeSort fun x y=>decide (x<=y)) (q:=q) (os:=os) hS (List.length_mergeSort _);refine⟨_,g,rfl,fun j cs cs' h h'=>?_,fun j cs' h=>?_,fun i j ci cj hi hj _=>?_,?_,r2⟩
   ·obtain⟨_,rfl⟩:=bC.1 h
    obtain⟨_,rfl⟩:=bC.1 h';exact⟨rfl,by simp[au]⟩
   ·obtain⟨rfl,rfl⟩:=bC.1 h
    exact⟨.inr (by rw[nU]),r1⟩
   ·rw[(bC.1 hi).1,(bC.1 hj).1]
   ·exact⟨[],rfl,rfl,fun i x u h=>by simp at h⟩⟩
theorem AE {l:List L8} (hl:l.length<=1000000):bw Tryz.prog 172 [.own 901 l.length 1 9] [(901,au l)] (.own 901 (Lib.compact l).length 1 9) [(901,au (Lib.compact l++List.replicate (l.length-(Lib.compact l).length) []))]:=
 ⟨aJ func172 rfl rfl,fun S g w vs hS hv=>by
  match vs,hv with
  | [v],⟨⟨hk,h1⟩,_⟩=>
   obtain⟨c,rfl,h2,h3,h4,arr,h5,h6⟩:=h1 (au l) (bC.2 ⟨rfl,rfl⟩);obtain⟨hH,hB⟩:=tp hS;have hcl:=Lib.compact_length_le l;refine(Tryz.slices_Compact_string (g 901) 0 c l w hH (by omega) h2).mono ?_;rintro e w' ⟨rfl,q,rfl⟩;obtain⟨r1,r2,r3⟩:=DE (d:=Lib.compact l++List.replicate (l.length-(Lib.compact l).length) []) (q:=q) (os:= #[]) hS (by simp;omega);rw[grow_empty]at r1 r2 r3;obtain⟨arr',r4,r5⟩:=r3 arr _ h5;refine⟨_,g,rfl,fun j cs cs' h h'=>?_,fun j cs' h=>?_,fun i j ci cj hi hj _=>?_,?_,r2⟩
   ·obtain⟨_,rfl⟩:=bC.1 h
    obtain⟨_,rfl⟩:=bC.1 h';exact⟨rfl,by simp[au];omega⟩
   ·obtain⟨rfl,rfl⟩:=bC.1 h
    exact⟨.inr (by rw[nU]),r1⟩
   ·rw[(bC.1 hi).1,(bC.1 hj).1]
   ·refine⟨AS.kn_of (bC.2 ⟨rfl,rfl⟩),fun cs hc=>?_⟩
    obtain⟨_,rfl⟩:=bC.1 hc;exact⟨c,rfl,by omega,h3,by simp[au],arr',r4,by rw[r5,h6]⟩⟩
end
mutual
def NI:Rx->Rx->Bool
 | .mk op na xs nb ys nm args, .mk op' na' xs' nb' ys' nm' args'=>decide (op=op') && (decide (nm=nm') && (decide (args.length=args'.length) && ((sameB na na' xs xs' && sameB nb nb' ys ys') && Ae args args')))
def Ae:List Rx->List Rx->Bool
 |x::r,y::s=>NI x y && Ae r s
 | [],_=>true
 |_::_,[]=>true
end
theorem qT:∀(l m:List Rx),l.length=m.length->(Ae l m=true↔ ∀(i:Nat) x y,l[i]? =some x->m[i]? =some y->NI x y=true)
 | [],[],_=>by simp[Ae]
 |x::r,y::s,h=>by
  have ih:=qT r s (by simpa using h);rw[Ae,Bool.and_eq_true,ih]
  constructor
  ·rintro⟨h1,h2⟩ i a b ha hb
   cases i with
   |zero=>simp at ha hb;subst ha hb;exact h1
   |succ i=>exact h2 i a b (by simpa using ha) (by simpa using hb)
  ·intro hall
   exact⟨hall 0 x y rfl rfl,fun i a b ha hb=>hall (i+1) a b (by simpa using ha) (by simpa using hb)⟩
theorem GF:∀x:Rx,NI x x=true:=by
 refine du fun op na xs nb ys nm args ih=>?_
 have h:Ae args args=true:=(qT args args rfl).2 fun i x y hx hy=>by
  rw[hx]at hy;cases hy;exact ih x (List.mem_of_getElem? hx)
 rw[NI,h,rW rfl,rW rfl]
 simp
theorem xG {na nb na' nb':Bool} {xs ys xs' ys':List Nat} (hl:xs.length<=2147483648) (hl':ys.length<=2147483648):aa Tryz.prog 47 [Jt na xs nb ys,Jt na' xs' nb' ys'] (.one (dB (sameB na na' xs xs' && sameB nb nb' ys ys'))):=by
 have c1:aa Tryz.prog 97 [dI na xs,dI na' xs'] (.one (dB (sameB na na' xs xs'))):=iC hl rfl;have c2:aa Tryz.prog 97 [dI nb ys,dI nb' ys'] (.one (dB (sameB nb nb' ys ys'))):=iC hl' rfl;generalize sameB na na' xs xs'=b1 at *;generalize sameB nb nb' ys ys'=b2 at *;cases b1
 ·refine kU func47 ?_
  exact MO
 ·cases b2
  all_goals
   refine kV func47 ?_;refine kQ (c1) ?_;refine kC (c2) ?_;exact kF
theorem sK:∀(x:Rx),Jy x-> ∀y,Jy y->aa Tryz.prog 53 [dR x,dR y] (.one (dB (NI x y))):=by
 refine du fun op na xs nb ys nm args ih hx=>?_
 rintro⟨op',na',xs',nb',ys',nm',args'⟩ hy;obtain⟨h1,h2,h3,h4⟩:=hx;obtain⟨_,_,g3,g4⟩:=hy;have cs:=xG (na:=na) (nb:=nb) (na':=na') (nb':=nb') (xs':=xs') (ys':=ys') h1 h2;have hall:=qT args args';rw[NI];generalize(sameB na na' xs xs' && sameB nb nb' ys ys')=bs at *;show aa Tryz.prog _ [.agg (ab op na xs nb ys nm args.length (da args)), .agg (ab op' na' xs' nb' ys' nm' args'.length (da args'))] _;have cs:aa Tryz.prog 47 [.agg (Cr na xs nb ys), .agg (Cr na' xs' nb' ys')] (.one (dB bs)):=cs
 by_cases e1:op=op'
 ·rw[decide_eq_true e1,Bool.true_and]
  by_cases e2:nm=nm'
  ·rw[decide_eq_true e2,Bool.true_and]
   by_cases e3:args.length=args'.length
   ·rw[decide_eq_true e3,Bool.true_and]
    have hall:=hall e3;cases bs
    ·rw[Bool.false_and]
     refine F1 ?_;exact aD
    ·rw[Bool.true_and]
     generalize Ae args args'=B at *;refine F1 ?_;refine kW ?_
     refine ay Nat (fun i=>i<=args.length/\ ∀(q:Nat) x y,q<i->args[q]? =some x->args'[q]? =some y->NI x y=true) (fun i=>⟨[(2, .box 0 0),(3, .box 1 0),(4, .d (dB false)),(5, .d (dN .i64 i))],[(0,some (ab op na xs nb ys nm args.length (da args))),(1,some (ab op' na' xs' nb' ys' nm' args'.length (da args')))]⟩) (fun i=>args.length-i) 0 ⟨Nat.zero_le _,fun q x y h=>absurd h (Nat.not_lt_zero _)⟩
      kw ?_
     rintro i ⟨hi,hq⟩;refine kI ?_
     refine kO4 ?_
     by_cases hlt:i<args.length
     ·refine kT ?_
      have hlt':i<args'.length:=by omega
      obtain⟨o1,na1,xs1,nb1,ys1,nm1,n1,cs1,hA⟩:=bv args[i];obtain⟨o2,na2,xs2,nb2,ys2,nm2,n2,cs2,hA2⟩:=bv args'[i];have hx:args[i]? =some args[i]:=by simp[hlt]
      have hy:args'[i]? =some args'[i]:=by simp[hlt']
      have hat:∀(j:Nat) (a:AV),(ab o1 na1 xs1 nb1 ys1 nm1 n1 cs1)[j]? =some a->(da args)[i*7+j]? =some a:=fun j a h=>fw args i args[i] hx j a (by rw[hA];exact h)
      have hat':∀(j:Nat) (a:AV),(ab o2 na2 xs2 nb2 ys2 nm2 n2 cs2)[j]? =some a->(da args')[i*7+j]? =some a:=fun j a h=>fw args' i args'[i] hy j a (by rw[hA2];exact h)
      have c:=ih args[i] (List.getElem_mem hlt) (h4 _ (List.getElem_mem hlt)) args'[i] (g4 _ (List.getElem_mem hlt'));rw[show dR args[i]= .agg (ab o1 na1 xs1 nb1 ys1 nm1 n1 cs1) from congrArg DV.agg hA,show dR args'[i]= .agg (ab o2 na2 xs2 nb2 ys2 nm2 n2 cs2) from congrArg DV.agg hA2]at c;refine Te ?_;refine kW ?_;refine bP (i:=i) (cs':=ab o2 na2 xs2 nb2 ys2 nm2 n2 cs2) hlt' hat' (Nat.zero_lt_succ 6) rfl rfl rfl rfl rfl rfl rfl rfl ?_;refine kW ?_;cases hb:NI args[i] args'[i]
      ·rw[hb]at c
       have hB:B=false:=by
        cases B
        ·rfl
        ·rw[hall.1 rfl i _ _ hx hy]at hb;cases hb
       clear hall;cases B
       ·refine kC (c) ?_
        exact aD
       ·cases hB
      ·rw[hb]at c
       refine kQ (c) ?_
       exact⟨i+1,⟨hlt,fun q x y h1 h2 h3=>by
        by_cases e:q=i
        ·subst e;rw[hx]at h2;rw[hy]at h3;cases h2;cases h3;exact hb
        ·exact hq q x y (by omega) h2 h3⟩,by omega,weak ⟨rfl,rfl,rfl,ak (by omega) (by omega),trivial⟩ ⟨rfl,rfl,trivial⟩ rfl⟩
     ·have hB:B=true:=hall.2 fun q x y h2 h3=>hq q x y (by have:=(List.getElem?_eq_some_iff.1 h2).1;omega) h2 h3
      clear hall;cases B
      ·cases hB
      ·refine kE ?_
       exact aD
   ·rw[decide_eq_false e3,Bool.false_and]
    refine kU func53 ?_;refine NW ?_;refine PQ ?_;refine As ?_;exact aD
  ·rw[decide_eq_false e2,Bool.false_and]
   refine kU func53 ?_;refine NW ?_;refine kB false ?_ ?_
   ·exact(by simp[e1])
   refine kO5 ?_
   refine aO rfl rfl rfl rfl rfl rfl rfl (f6 (a:=nm) (b:=nm') e2) ?_;exact aD
 ·rw[decide_eq_false e1,Bool.false_and]
  refine kU func53 ?_;refine NW ?_;refine kB true ?_ ?_
  ·exact(by simp[e1])
  exact aD
mutual
def lG (f t:List UInt8):Rx->Rx
 | .mk op na xs nb ys nm args=> .mk op na xs nb ys (if op=2/\nm=f then t else nm) (DX f t args)
def DX (f t:List UInt8):List Rx->List Rx
 | []=>[]
 |x::r=>lG f t x::DX f t r
end
theorem xa (f t:List UInt8):∀l,DX f t l=l.map (lG f t)
 | []=>by simp[DX]
 |x::r=>by rw[DX,xa f t r,List.map_cons]
def R5 (J:Nat):List Rx->TV
 | []=> .nil
 |a::r=> .own J (a::r).length 7 41
def Sy:List Rx->Option (List AV)
 | []=>none
 |a::r=>some (da (a::r))
theorem JI (a b:List Rx):da (a++b)=da a++da b:=by
 induction a with
 |nil=>rfl
 |cons x r ih=>simp[da,ih]
theorem Gv (J:Nat) (l:List Rx) (x:Rx):R5 J (l++[x])= .own J (l.length+1) 7 41:=by
 cases l with
 |nil=>rfl
 |cons a r=>simp[R5]
theorem Jm (l:List Rx) (x:Rx):Sy (l++[x])=some (da l++aR x):=by
 cases l with
 |nil=>show some (aR x++[])=_;rw[List.append_nil];rfl
 |cons a r=>show some (da ((a::r)++[x]))=_;rw[JI];show some (_++(aR x++[]))=_;rw[List.append_nil]
def zE:List AV:=ab 0 false [] false [] [] 0 []
theorem mz:∀l:List Rx,(da l).length=l.length*7
 | []=>rfl
 |x::r=>by
  obtain⟨o1,na1,xs1,nb1,ys1,nm1,n1,cs1,hA⟩:=bv x;have ih:=mz r
  simp only[da,List.length_append,hA,ih,List.length_cons]
  have:(ab o1 na1 xs1 nb1 ys1 nm1 n1 cs1).length=7:=rfl;omega
theorem Tq (l:List Rx):(da l).take (l.length*7)=da l:=List.take_of_length_le (Nat.le_of_eq (mz l))
theorem QH (t:List (Nat × TV)) (b:List (Nat × Option (List AV))) (q:Nat) (l:List Rx) (x:Rx) (cx:List AV) (hx:aR x=cx):(⟨(q,R5 5001 (l++[x]))::t,(5001,Sy (l++[x]))::b⟩:AS)=⟨(q, .own 5001 (l.length+1) 7 41)::t,(5001,some ((da l).take (l.length*7)++cx))::b⟩:=by
 rw[Gv,Jm,Tq,hx]
theorem D8 {f t:List UInt8} {args l:List Rx} (hl:l.length<args.length) (h:l=(args.take l.length).map (lG f t)):l++[lG f t args[l.length]]=(args.take (l++[lG f t args[l.length]]).length).map (lG f t):=by
 rw[List.length_append,List.length_singleton,List.take_add_one,List.map_append,<- h]
 simp[hl]
theorem xE (f t:List UInt8):∀x,Jy x->jN x->aa Tryz.prog 67 [dR x,dL f,dL t] (.one (dR (lG f t x))):=by
 refine du fun op na xs nb ys nm args ih hx hwx=>?_
 obtain⟨h1,h2,h3,h4⟩:=hx;obtain⟨_,_,hw,hw',_,_,hargs⟩:=hwx;have cl1:aa Tryz.prog 120 [.leaf (aW xs)] (.one (.leaf (aW xs))):=rM hw (by omega);have cl2:aa Tryz.prog 120 [.leaf (aW ys)] (.one (.leaf (aW ys))):=rM hw' (by omega);rw[lG,xa]
 have hz:(if op=2/\nm=f then t else nm)=cond (decide (op=2/\nm=f)) t nm:=by
  by_cases h:op=2/\nm=f
  ·rw[if_pos h,decide_eq_true h];rfl
  ·rw[if_neg h,decide_eq_false h];rfl
 rw[hz];clear hz;generalize hb:decide (op=2/\nm=f)=b;show aa Tryz.prog _ [.agg (ab op na xs nb ys nm args.length (da args)),dL f,dL t] (.one (.agg (ab op na xs nb ys (cond b t nm) (args.map (lG f t)).length (da (args.map (lG f t))))));refine kU func67 ?_;refine kR ?_;refine j4 ⟨[(1, .d (dL f)),(2, .d (dL t)),(3, .box 0 0),(6, .box 1 0)],[(0,some (ab op na xs nb ys (cond b t nm) args.length (da args))),(1,some zE)]⟩ (fun s' hw2=>?_) (fun R hR _=>?_)
 ·refine bV hw2 rfl ?_
  clear hb;refine kW ?_
  refine ay (List Rx) (fun l=>l.length<=args.length/\l=(args.take l.length).map (lG f t)) (fun l=>⟨[(7,R5 5001 l),(1, .d (dL f)),(2, .d (dL t)),(3, .box 0 0),(6, .box 1 0),(22, .d (.leaf (.sl args.length (da args)))),(23, .d (dN .i64 args.length)),(24, .d (dN .i64 l.length))],[(5001,Sy l),(0,some (ab op na xs nb ys (cond b t nm) args.length (da args))),(1,some zE)]⟩) (fun l=>args.length-l.length) [] ⟨Nat.zero_le _,rfl⟩
   kw ?_
  rintro l ⟨hi,hl⟩;refine kI ?_
  by_cases hlt:l.length<args.length
  ·refine kT ?_
   obtain⟨o1,na1,xs1,nb1,ys1,nm1,n1,cs1,hA⟩:=bv args[l.length];obtain⟨o2,na2,xs2,nb2,ys2,nm2,n2,cs2,hA2⟩:=bv (lG f t args[l.length]);have hx:args[l.length]? =some args[l.length]:=by simp[hlt]
   have hat:∀(j:Nat) (a:AV),(ab o1 na1 xs1 nb1 ys1 nm1 n1 cs1)[j]? =some a->(da args)[l.length*7+j]? =some a:=fun j a h=>fw args l.length args[l.length] hx j a (by rw[hA];exact h)
   have c:=ih args[l.length] (List.getElem_mem hlt) (h4 _ (List.getElem_mem hlt)) (hargs _ (List.getElem_mem hlt));rw[show dR args[l.length]= .agg (ab o1 na1 xs1 nb1 ys1 nm1 n1 cs1) from congrArg DV.agg hA,show dR (lG f t args[l.length])= .agg (ab o2 na2 xs2 nb2 ys2 nm2 n2 cs2) from congrArg DV.agg hA2]at c;have hs:=D8 hlt hl;have hst:=QH [(1, .d (dL f)),(2, .d (dL t)),(3, .box 0 0),(6, .box 1 0),(22, .d (.leaf (.sl args.length (da args)))),(23, .d (dN .i64 args.length)),(24, .d (dN .i64 ((l++[lG f t args[l.length]]).length:Nat)))] [(0,some (ab op na xs nb ys (cond b t nm) args.length (da args))),(1,some zE)] 7 l _ _ hA2;generalize lG f t args[l.length]=y at *;cases l with
   |nil=>
    refine kW ?_;refine bP (i:=0) (cs':=ab o1 na1 xs1 nb1 ys1 nm1 n1 cs1) hlt hat (Nat.zero_lt_succ 6) rfl rfl rfl rfl rfl rfl rfl rfl ?_;refine kW ?_;refine kC (c) ?_;refine kO ?_;refine cK 5002 (m1:=0) (m2:=1) ac (by decide) (by decide) rfl rfl rfl rfl rfl rfl rfl rfl rfl rfl rfl (.nil rfl rfl) rfl rfl rfl ?_;refine kW ?_;refine⟨[]++[y],⟨by simp at hlt ⊢;omega,hs⟩,by simp;omega,?_⟩
    refine Eq.mpr (congrArg (bi _) hst) (bi.trans (b:=⟨[(7, .own 5002 1 7 41),(1, .d (dL f)),(2, .d (dL t)),(3, .box 0 0),(6, .box 1 0),(22, .d (.leaf (.sl args.length (da args)))),(23, .d (dN .i64 args.length)),(24, .d (dN .i64 (1:Nat)))],[(5002,some ([]++ab o2 na2 xs2 nb2 ys2 nm2 n2 cs2)),(0,some (ab op na xs nb ys (cond b t nm) args.length (da args))),(1,some zE)]⟩) kw ((aA (q:=7) (j:=5002) (j':=5001) rfl rfl rfl rfl).trans kw))
   |cons a r=>
    refine kW ?_;refine bP (i:=(a::r).length) (cs':=ab o1 na1 xs1 nb1 ys1 nm1 n1 cs1) hlt hat (Nat.zero_lt_succ 6) rfl rfl rfl rfl rfl rfl rfl rfl ?_;refine kW ?_;refine kC (c) ?_;refine kO ?_;refine cK 5002 (m1:=(a::r).length) (m2:=1) ac (by decide) (Nat.le_trans (Nat.mul_le_mul_right _ (show(a::r).length+1<=1000000 by omega)) (by decide)) rfl rfl rfl rfl rfl rfl rfl rfl rfl rfl rfl (.own rfl rfl) rfl rfl rfl ?_;refine kW ?_;refine⟨(a::r)++[y],⟨by rw[List.length_append];exact hlt,hs⟩,by simp at hlt ⊢;omega,?_⟩
    refine Eq.mpr (congrArg (bi _) hst) (bi.trans (b:=⟨[(7, .own 5002 ((a::r).length+1) 7 41),(1, .d (dL f)),(2, .d (dL t)),(3, .box 0 0),(6, .box 1 0),(22, .d (.leaf (.sl args.length (da args)))),(23, .d (dN .i64 args.length)),(24, .d (dN .i64 (((a::r)++[y]).length:Nat)))],[(5002,some ((da (a::r)).take ((a::r).length*7)++ab o2 na2 xs2 nb2 ys2 nm2 n2 cs2)),(0,some (ab op na xs nb ys (cond b t nm) args.length (da args))),(1,some zE)]⟩) (weak ⟨rfl,rfl,rfl,rfl,rfl,rfl,rfl,ak (by simp) (by simp at hlt ⊢;omega),trivial⟩ ⟨rfl,rfl,rfl,trivial⟩ rfl) ((aA (q:=7) (j:=5002) (j':=5001) rfl rfl rfl rfl).trans kw))
  ·refine kE ?_
   have he:l=args.map (lG f t):=by rw[hl,show l.length=args.length by omega,List.take_length]
   rw[<- he];clear hl he;refine jw ?_;refine bG (T:=TT) ?_;cases l with
   |nil=>
    refine kW ?_;refine kQ (cl1) ?_;refine kC (cl2) ?_;exact aD
   |cons a r=>
    refine bV (a7 (q:=7) rfl rfl) rfl ?_;refine kW ?_;refine kQ (cl1) ?_;refine kC (cl2) ?_;exact aD
 ·cases b
  ·by_cases ho:op=2
   ·have hn:nm≠f:=fun e=>by rw[decide_eq_true ⟨ho,e⟩]at hb;cases hb
    refine kI ?_
    refine kO2 ?_
    refine kB true ?_ ?_
    ·exact decide_eq_true ho
    refine kO4 ?_
    refine aO rfl rfl rfl rfl rfl rfl rfl (b6 (a:=nm) (b:=f) hn) ?_;refine kW ?_;exact hR _ kw
   ·refine kI ?_
    refine kO2 ?_
    refine kB false ?_ ?_
    ·exact decide_eq_false ho
    refine kW ?_;exact hR _ kw
  ·have h:=of_decide_eq_true hb
   refine kI ?_
   refine kO2 ?_
   refine kB true ?_ ?_
   ·exact decide_eq_true h.1
   refine kO4 ?_
   refine aO rfl rfl rfl rfl rfl rfl rfl (bO (a:=nm) (b:=f) h.2) ?_;refine kW ?_;exact hR _ kw
abbrev Pm:=L8 × Rx
abbrev Tb:=List Pm
def b5:Tb->L8->Nat
 | [],_=>0
 |p::r,n=>if p.1=n then 0 else b5 r n+1
theorem od:∀(l:Tb) (n:L8),b5 l n<=l.length
 | [],_=>Nat.le_refl _
 |p::r,n=>by
  unfold b5
  split
  ·exact Nat.zero_le _
  ·have:=od r n;simp only[List.length_cons];omega
theorem jS:∀{l:Tb} {n:L8},b5 l n<l.length↔ ∃p∈l,p.1=n
 | [],n=>by simp[b5]
 |p::r,n=>by
  have ih:=jS (l:=r) (n:=n);unfold b5
  split
  ·rename_i h;simp[h]
  ·rename_i h
   simp only[List.length_cons,Nat.add_lt_add_iff_right,ih,List.mem_cons,exists_eq_or_imp,h,false_or]
theorem n6:∀{l:Tb} {n:L8},b5 l n<l.length-> ∃p,l[b5 l n]? =some p/\p.1=n
 | [],n,h=>by simp[b5]at h
 |p::r,n,h=>by
  unfold b5 at h ⊢
  split
  ·rename_i e;exact⟨p,rfl,e⟩
  ·rename_i e
   rw[if_neg e]at h;obtain⟨q,h1,h2⟩:=n6 (l:=r) (n:=n) (by simpa using h);exact⟨q,by simpa using h1,h2⟩
theorem fS:∀{l:Tb} {n:L8} {i:Nat} {p:Pm},i<b5 l n->l[i]? =some p->p.1≠n
 | [],n,i,p,_,h=>by simp at h
 |q::r,n,i,p,hi,h=>by
  unfold b5 at hi
  split at hi
  ·omega
  ·rename_i e
   cases i with
   |zero=>simp at h;subst h;exact e
   |succ i=>exact fS (l:=r) (n:=n) (i:=i) (by omega) (by simpa using h)
theorem F9 {l:Tb} {n:L8} {i:Nat} {p:Pm} (h:l[i]? =some p) (hp:p.1=n) (hb:∀(j:Nat) (q:Pm),j<i->l[j]? =some q->q.1≠n):b5 l n=i:=by
 have h1:¬i<b5 l n:=fun h2=>fS h2 h hp
 have h2:b5 l n<l.length:=jS.2 ⟨p,List.mem_of_getElem? h,hp⟩
 obtain⟨q,h3,h4⟩:=n6 h2;rcases Nat.lt_or_ge (b5 l n) i with h5|h5
 ·exact absurd h4 (hb _ q h5 h3)
 ·omega
def gH (l:Tb) (n:L8):Int:=if b5 l n<l.length then(b5 l n:Int)else -1
def xH (l:Tb):Nat->Tb->Int
 |_,[]=>0
 |i,p::r=>if mh p.1=true then(if pT p.2=0 then(if b5 l p.1<i then 5 else xH l (i+1) r)else pT p.2)else 1
def ie (l:Tb):Int:=if 200<l.length then 3 else xH l 0 l
structure oS (l:Tb):Prop where
 len:l.length<=200
 nm:∀p∈l,mh p.1=true
 ex:∀p∈l,pT p.2=0
 nd:∀(i j:Nat) (p q:Pm),l[i]? =some p->l[j]? =some q->p.1=q.1->i=j
theorem F8 (l:Tb):∀(i:Nat) (r:Tb),l.drop i=r->xH l i r=0-> ∀(j:Nat) (p:Pm),i<=j->l[j]? =some p->mh p.1=true/\pT p.2=0/\j<=b5 l p.1
 |i,[],h,_,j,p,hj,hp=>by
  have:=congrArg List.length h;have h1:=(List.getElem?_eq_some_iff.1 hp).1
  simp at this
  omega
 |i,q::r,h,h0,j,p,hj,hp=>by
  have hq:l[i]? =some q:=by
   have:=congrArg (·[0]?) h
   simpa using this
  unfold xH at h0
  split at h0
  ·rename_i h1
   split at h0
   ·rename_i h2
    split at h0
    ·cases h0
    ·rename_i h3
     by_cases e:j=i
     ·subst e;rw[hq]at hp;cases hp;exact⟨h1,h2,by omega⟩
     ·exact F8 l (i+1) r (by rw[<- List.drop_drop,h];rfl) h0 j p (by omega) hp
   ·rename_i h2;exact absurd h0 h2
  ·cases h0
theorem nW {l:Tb} (h:ie l=0):oS l:=by
 unfold ie at h
 split at h
 ·cases h
 rename_i hl
 have key:=F8 l 0 l rfl h;refine⟨by omega,fun p hp=>?_,fun p hp=>?_,?_⟩
 ·obtain⟨i,hi⟩:=List.getElem?_of_mem hp;exact(key i p (Nat.zero_le _) hi).1
 ·obtain⟨i,hi⟩:=List.getElem?_of_mem hp;exact(key i p (Nat.zero_le _) hi).2.1
 ·intro i j p q hi hj e
  have h1:=(key i p (Nat.zero_le _) hi).2.2;have h2:=(key j q (Nat.zero_le _) hj).2.2;rw[<- e]at h2;have h3:¬i<b5 l p.1:=fun h4=>fS h4 hi rfl
  have h4:¬j<b5 l p.1:=fun h4=>fS h4 hj e.symm
  omega
theorem GA {l:Tb} (h:oS l):∀(i:Nat) (r:Tb),l.drop i=r->xH l i r=0
 |i,[],_=>rfl
 |i,q::r,hd=>by
  have hq:l[i]? =some q:=by
   have:=congrArg (·[0]?) hd
   simpa using this
  have hm:=List.mem_of_getElem? hq;have h2:b5 l q.1<l.length:=jS.2 ⟨q,hm,rfl⟩
  obtain⟨p,h3,h4⟩:=n6 h2;have:=h.nd _ _ _ _ h3 hq h4;rw[xH,if_pos (h.nm q hm),if_pos (h.ex q hm),if_neg (by omega)];exact GA h (i+1) r (by rw[<- List.drop_drop,hd];rfl)
theorem GV {l:Tb} (h:oS l):ie l=0:=by
 unfold ie;rw[if_neg (by have:=h.len;omega)];exact GA h 0 l rfl
theorem oS.fd {l:Tb} (h:oS l) {i:Nat} {p:Pm} (hi:l[i]? =some p):b5 l p.1=i:=
 F9 hi rfl fun j q hj hq e=>by have:=h.nd _ _ _ _ hq hi e;omega
theorem oS.ne {l:Tb} (h:oS l) {p:Pm} (hp:p∈l):p.1≠[]:=fun e=>by
 have:=h.nm p hp;rw[e]at this;exact absurd this (by decide)
def pC (x:Rx) (out:List L8):Bool:=(eu x).all fun n=>decide (n∈out)
theorem vT {x:Rx} {out:List L8}:pC x out=true↔ ∀n∈eu x,n∈out:=by simp[pC]
def pH (out:List L8) (p:Pm):Bool:=!(decide (p.1∈out)) && pC p.2 out
def jr (out:List L8) (nx:L8) (p:Pm):L8:=if pH out p=true/\(nx=[]∨Op.bytesLess p.1 nx=true)then p.1 else nx
def sA (l:Tb) (out:List L8):L8:=l.foldl (jr out) []
theorem zT {out:List L8}:∀(l:Tb) (nx:L8),l.foldl (jr out) nx=nx∨ ∃p∈l,pH out p=true/\l.foldl (jr out) nx=p.1
 | [],nx=> .inl rfl
 |p::r,nx=>by
  simp only[List.foldl_cons]
  by_cases h:pH out p=true/\(nx=[]∨Op.bytesLess p.1 nx=true)
  ·rw[show jr out nx p=p.1 from if_pos h]
   rcases zT r p.1 with h1| ⟨q,hq,h1,h2⟩
   ·exact .inr ⟨p,by simp,h.1,h1⟩
   ·exact .inr ⟨q,by simp[hq],h1,h2⟩
  ·rw[show jr out nx p=nx from if_neg h]
   rcases zT r nx with h1| ⟨q,hq,h1,h2⟩
   ·exact .inl h1
   ·exact .inr ⟨q,by simp[hq],h1,h2⟩
theorem Kp {l:Tb} {out:List L8} (h:sA l out≠[]):∃p∈l,pH out p=true/\sA l out=p.1:=by
 rcases zT (out:=out) l []with h1|h1
 ·exact absurd h1 h
 ·exact h1
def f7 (l:Tb):Nat->List L8->Option (List L8)
 |0,out=>some out
 |k+1,out=>if sA l out=[]then none else f7 l k (out++[sA l out])
def bI (l:Tb):List L8 × Int:=
 if ie l=0 then(if l.all (fun p=>pC p.2 (l.map (·.1)))=true then(match f7 l l.length []with|some o=>(o,0)|none=>([],9))else([],4))else([],ie l)
structure mY (l:Tb) (o:List L8):Prop where
 nd:o.Nodup
 mem:∀n∈o,∃p∈l,p.1=n
 up:∀(i:Nat) (n:L8) (p:Pm),o[i]? =some n->p∈l->p.1=n-> ∀m∈eu p.2,m∈o.take i
theorem mY.nil (l:Tb):mY l []:=⟨List.nodup_nil,fun n h=>(by cases h),fun i n p h=>by simp at h⟩
theorem mY.snoc {l:Tb} (hl:oS l) {o:List L8} (h:mY l o) {p:Pm} (hp:p∈l) (hc:pH o p=true):mY l (o++[p.1]):=by
 unfold pH at hc
 simp only[Bool.and_eq_true,Bool.not_eq_true',decide_eq_false_iff_not]at hc
 refine⟨?_,fun n hn=>?_,fun i n q hi hq e m hm=>?_⟩
 ·rw[List.nodup_append]
  refine⟨h.nd,List.nodup_cons.2 ⟨by simp,List.nodup_nil⟩,fun a ha b hb=>?_⟩;rw[List.mem_singleton.1 hb];exact fun e=>hc.1 (e ▸ ha)
 ·rcases List.mem_append.1 hn with hn|hn
  ·exact h.mem n hn
  ·exact⟨p,hp,(List.mem_singleton.1 hn).symm⟩
 ·rcases Nat.lt_or_ge i o.length with hlt|hge
  ·rw[List.getElem?_append_left hlt]at hi
   rw[List.take_append_of_le_length (by omega)];exact h.up i n q hi hq e m hm
  ·rw[List.getElem?_append_right hge]at hi
   have hi0:i=o.length:=by
    have:=(List.getElem?_eq_some_iff.1 hi).1
    simp at this
    omega
   subst hi0
   simp at hi
   subst hi;obtain⟨a,ha⟩:=List.getElem?_of_mem hp;obtain⟨b,hb⟩:=List.getElem?_of_mem hq;have:=hl.nd _ _ _ _ hb ha e;subst this;rw[ha]at hb;cases hb;rw[List.take_left']
   ·exact vT.1 hc.2 m hm
   ·rfl
theorem xl {l:Tb} (hl:oS l):∀(k:Nat) (out o:List L8),mY l out->f7 l k out=some o->mY l o/\o.length=out.length+k
 |0,out,o,h,e=>by cases e;exact⟨h,rfl⟩
 |k+1,out,o,h,e=>by
  unfold f7 at e
  split at e
  ·cases e
  ·rename_i hn
   obtain⟨p,hp,hc,hx⟩:=Kp hn;rw[hx]at e;obtain⟨h1,h2⟩:=xl hl k _ o (h.snoc hl hp hc) e;exact⟨h1,by simp at h2;omega⟩
theorem mE {l:Tb} {o:List L8} (h:bI l=(o,0)):oS l/\mY l o/\o.length=l.length:=by
 unfold bI at h
 split at h
 ·rename_i hv
  split at h
  ·split at h
   ·rename_i o' ho
    cases h;have:=xl (nW hv) l.length [] o (.nil l) ho;exact⟨nW hv,this.1,by simpa using this.2⟩
   ·cases h
  ·cases h
 ·rename_i hv
  injection h with h1 h2
  exact absurd h2 hv
inductive wR (l:Tb) (n:L8):L8->Prop
 |base {p:Pm}:p∈l->n∈eu p.2->wR l n p.1
 |step {p:Pm} {y:L8}:p∈l->y∈eu p.2->wR l n y->wR l n p.1
theorem wR.mem {l:Tb} {n x:L8} (h:wR l n x):∃p∈l,p.1=x:=by
 cases h with
 |base h _=>exact⟨_,h,rfl⟩
 |step h _ _=>exact⟨_,h,rfl⟩
theorem gD:∀{a b:List L8},a.Nodup->(∀x∈a,x∈b)->a.length<=b.length
 | [],_,_,_=>Nat.zero_le _
 |x::a,b,h,hs=>by
  have hx:=hs x (by simp);obtain⟨h1,h2⟩:=List.nodup_cons.1 h;have:=gD (a:=a) (b:=b.erase x) h2 fun y hy=>(List.mem_erase_of_ne (fun e:y=x=>h1 (by rw[<- e];exact hy))).2 (hs y (List.mem_cons_of_mem _ hy))
  rw[List.length_erase_of_mem hx]at this;have:=List.length_pos_of_mem hx
  simp only[List.length_cons]
  omega
theorem mY.all {l:Tb} {o:List L8} (h:mY l o) (hlen:o.length=l.length):∀p∈l,p.1∈o:=fun p hp=>by
 refine Classical.byContradiction fun hn=>?_
 have:=gD (a:=p.1::o) (b:=l.map (·.1)) (List.nodup_cons.2 ⟨hn,h.nd⟩) fun x hx=>by
  rcases List.mem_cons.1 hx with rfl|hx
  ·exact List.mem_map.2 ⟨p,hp,rfl⟩
  ·obtain⟨q,hq,e⟩:=h.mem x hx;exact List.mem_map.2 ⟨q,hq,e⟩
 simp at this
 omega
def mW (l:Tb) (b:Int) (nx:L8):Prop:=(b= -1/\nx=[])∨ ∃(k:Nat) (p:Pm),b=k/\l[k]? =some p/\p.1=nx
theorem mW.neg {l:Tb} (hl:oS l) {b:Int} {nx:L8} (h:mW l b nx):b<0↔nx=[]:=by
 rcases h with⟨rfl,rfl⟩| ⟨k,p,rfl,hk,rfl⟩
 ·simp
 ·have:=hl.ne (List.mem_of_getElem? hk)
  simp[this]
theorem K3 {l:Tb} {out:List L8} {i:Nat} {p:Pm} (h:l[i]? =some p):(l.take (i+1)).foldl (jr out) []=jr out ((l.take i).foldl (jr out) []) p:=by
 have hi:=(List.getElem?_eq_some_iff.1 h).1;have e:=(List.getElem?_eq_some_iff.1 h).2;rw[List.take_succ_eq_append_getElem hi,List.foldl_append,e];rfl
def SS (n:L8) (fd:List L8) (p:Pm):Bool:=decide (n∈eu p.2) || fd.any fun y=>decide (y∈eu p.2)
theorem Ku {n:L8} {fd:List L8} {p:Pm}:SS n fd p=true↔n∈eu p.2∨ ∃y∈fd,y∈eu p.2:=by simp[SS]
def S6 (n:L8) (fd:List L8) (p:Pm):List L8:=if SS n fd p=true/\p.1 ∉ fd then fd++[p.1]else fd
structure Sx (l:Tb) (n:L8) (fd:List L8):Prop where
 nd:fd.Nodup
 dep:∀x∈fd,wR l n x
theorem Sx.step {l:Tb} {n:L8} {fd:List L8} (h:Sx l n fd) {p:Pm} (hp:p∈l):Sx l n (S6 n fd p):=by
 unfold S6
 split
 ·rename_i hc
  refine⟨?_,fun x hx=>?_⟩
  ·exact L0
  ·rcases List.mem_append.1 hx with hx|hx
   ·exact h.dep x hx
   ·rw[List.mem_singleton.1 hx]
    rcases Ku.1 hc.1 with h1| ⟨y,h1,h2⟩
    ·exact .base hp h1
    ·exact .step hp h2 (h.dep y h1)
 ·exact h
theorem Sx.len {l:Tb} {n:L8} {fd:List L8} (h:Sx l n fd):fd.length<=l.length:=by
 have:=gD (b:=l.map (·.1)) h.nd fun x hx=>by
  obtain⟨p,hp,e⟩:=(h.dep x hx).mem;exact List.mem_map.2 ⟨p,hp,e⟩
 simpa using this
def dP (l:Tb) (p:Pm):Tb:=if b5 l p.1<l.length then l.set (b5 l p.1) p else l++[p]
theorem qj (l:Tb) (p:Pm):(dP l p).length<=l.length+1:=by
 unfold dP
 split
 ·simp
 ·simp
theorem JL (l:Tb) (p:Pm):(dP l p)[b5 l p.1]? =some p/\b5 (dP l p) p.1=b5 l p.1:=by
 have hle:=od l p.1
 have h1:(dP l p)[b5 l p.1]? =some p:=by
  unfold dP
  split
  ·rename_i h;simp[h]
  ·rename_i h
   have e:b5 l p.1=l.length:=by omega
   simp[e]
 refine⟨h1,F9 h1 rfl fun j q hj hq=>?_⟩
 have h2:l[j]? =some q:=by
  unfold dP at hq
  split at hq
  ·rwa[List.getElem?_set_ne (by omega)]at hq
  ·rwa[List.getElem?_append_left (by omega)]at hq
 exact fS hj h2
theorem Bn (l:Tb) (p:Pm):dP (dP l p) p=dP l p:=by
 obtain⟨h1,h2⟩:=JL l p;have h3:=(List.getElem?_eq_some_iff.1 h1).1;have e:dP (dP l p) p=if b5 (dP l p) p.1<(dP l p).length then(dP l p).set (b5 (dP l p) p.1) p else dP l p++[p]:=rfl
 rw[e,h2,if_pos h3];refine List.ext_getElem? fun i=>?_
 by_cases hi:b5 l p.1=i
 ·subst hi;rw[List.getElem?_set_self h3,h1]
 ·rw[List.getElem?_set_ne hi]
def zO (l:Tb) (p:Pm):Tb × Int:=if(bI (dP l p)).2=0 then(dP l p,0)else([],(bI (dP l p)).2)
theorem O5 {l m:Tb} {p:Pm} (h:zO l p=(m,0)):m=dP l p/\(bI m).2=0/\zO m p=(m,0):=by
 unfold zO at h
 split at h
 ·rename_i h0
  cases h;refine⟨rfl,h0,?_⟩;unfold zO;rw[Bn,if_pos h0]
 ·rename_i h0
  injection h with h1 h2
  exact absurd h2 h0
def NT (l:Tb) (n:L8):Tb × Int:=
 if ie l=0 then(if b5 l n<l.length then(if(l.eraseIdx (b5 l n)).any (fun p=>decide (n∈eu p.2))=true then([],14)else(l.eraseIdx (b5 l n),0))else([],4))else([],ie l)
def Oz (f t:L8) (p:Pm):Pm:=(if p.1=f then t else p.1,lG f t p.2)
def Lg (l:Tb) (f t:L8):Tb × Int:=
 if ie l=0 then(if b5 l f<l.length then(if mh t=true then(if f≠t/\b5 l t<l.length then([],5)else(l.map (Oz f t),0))else([],1))else([],4))else([],ie l)
structure t7 (l:Tb) (n:L8) (out todo:List L8):Prop where
 nd:out.Nodup
 dep:∀x∈out,wR l n x
 td:∀y∈todo,y=n∨y∈out
 cl:∀y,(y=n∨y∈out)->y∈todo∨ ∀p∈l,y∈eu p.2->p.1∈out
theorem t7.start (l:Tb) (n:L8):t7 l n [] [n]:=⟨List.nodup_nil,fun x h=>(by cases h),fun y h=> .inl (List.mem_singleton.1 h),fun y h=> .inl (by rcases h with rfl|h;simp;cases h)⟩
def SD (t:L8) (s:List L8 × List L8) (p:Pm):List L8 × List L8:=if t∈eu p.2/\p.1 ∉ s.1 then(s.1++[p.1],s.2++[p.1])else s
theorem t7.step {l:Tb} {n t:L8} {out r:List L8} (h:t7 l n out (t::r)) {p:Pm} (hp:p∈l):∃out' r',SD t (out,t::r) p=(out',t::r')/\t7 l n out' (t::r')/\(∀x∈out,x∈out')/\(t∈eu p.2->p.1∈out')/\2*(l.length-out'.length)+r'.length<=2*(l.length-out.length)+r.length:=by
 unfold SD
 by_cases hc:t∈eu p.2/\p.1 ∉ out
 ·rw[if_pos hc]
  have hdp:wR l n p.1:=by
   rcases h.td t (by simp)with rfl|ht
   ·exact .base hp hc.1
   ·exact .step hp hc.1 (h.dep t ht)
  have hnd:(out++[p.1]).Nodup:=by
   exact L0
  have hdep:∀x∈out++[p.1],wR l n x:=fun x hx=>by
   rcases List.mem_append.1 hx with hx|hx
   ·exact h.dep x hx
   ·rw[List.mem_singleton.1 hx];exact hdp
  have hlen:=gD (b:=l.map (·.1)) hnd fun x hx=>by
   obtain⟨q,hq,e⟩:=(hdep x hx).mem;exact List.mem_map.2 ⟨q,hq,e⟩
  simp only[List.length_append,List.length_cons,List.length_nil,List.length_map]at hlen
  refine⟨out++[p.1],r++[p.1],rfl,⟨hnd,hdep,fun y hy=>?_,fun y hy=>?_⟩,fun x hx=>by simp[hx],fun _=>by simp,by simp only[List.length_append,List.length_cons,List.length_nil];omega⟩
  ·simp only[List.mem_cons,List.mem_append,List.not_mem_nil,or_false]at hy ⊢
   rcases hy with rfl|hy|rfl
   ·rcases h.td y (by simp)with h1|h1
    ·exact .inl h1
    ·exact .inr (.inl h1)
   ·rcases h.td y (by simp[hy])with h1|h1
    ·exact .inl h1
    ·exact .inr (.inl h1)
   ·exact .inr (.inr rfl)
  ·by_cases e:y=p.1
   ·subst e;exact .inl (by simp)
   ·have hy':y=n∨y∈out:=by
     rcases hy with hy|hy
     ·exact .inl hy
     ·rcases List.mem_append.1 hy with hy|hy
      ·exact .inr hy
      ·exact absurd (List.mem_singleton.1 hy) e
    rcases h.cl y hy' with h1|h1
    ·refine .inl ?_
     rcases List.mem_cons.1 h1 with h1|h1
     ·simp[h1]
     ·simp[h1]
    ·exact .inr fun q hq hn=>List.mem_append_left _ (h1 q hq hn)
 ·rw[if_neg hc]
  exact⟨out,r,rfl,h,fun x hx=>hx,fun ht=>Classical.byContradiction fun hn=>hc ⟨ht,hn⟩,Nat.le_refl _⟩
theorem t7.next {l:Tb} {n t:L8} {out r:List L8} (h:t7 l n out (t::r)) (hd:∀p∈l,t∈eu p.2->p.1∈out):t7 l n out r:=
 ⟨h.nd,h.dep,fun y hy=>h.td y (by simp[hy]),fun y hy=>by
  rcases h.cl y hy with h1|h1
  ·rcases List.mem_cons.1 h1 with rfl|h1
   ·exact .inr hd
   ·exact .inl h1
  ·exact .inr h1⟩
theorem t7.full {l:Tb} {n:L8} {out:List L8} (h:t7 l n out []):∀x,x∈out↔wR l n x:=by
 refine fun x=>⟨h.dep x,fun hd=>?_⟩
 have key:∀y,(y=n∨y∈out)-> ∀p∈l,y∈eu p.2->p.1∈out:=fun y hy=>(h.cl y hy).resolve_left (by simp)
 induction hd with
 |base hp hn=>exact key _ (.inl rfl) _ hp hn
 |step hp hy _ ih=>exact key _ (.inr ih) _ hp hy
theorem Bb {l:List L8} (h:l.Nodup):rI (l.mergeSort fun x y=>decide (x<=y)):=by
 have h1:(l.mergeSort fun x y=>decide (x<=y)).Pairwise (fun a b=>decide (a<=b)=true):=List.pairwise_mergeSort (fun a b c h1 h2=>by
  simp only[rS,Bool.not_eq_true']at h1 h2 ⊢
  cases h3:Op.bytesLess c a
  ·rfl
  ·cases h4:Op.bytesLess b c
   ·have:=j3 h4 h2;subst this;rw[h1]at h3;cases h3
   ·rw[eE h4 h3]at h1;cases h1) (fun a b=>by
  simp only[rS,Bool.or_eq_true,Bool.not_eq_true']
  cases h3:Op.bytesLess b a
  ·exact .inl rfl
  ·refine .inr ?_
   cases h4:Op.bytesLess a b
   ·rfl
   ·have:=eE h3 h4;rw[gQ]at this;cases this) l
 have h2:(l.mergeSort fun x y=>decide (x<=y)).Nodup:=(List.mergeSort_perm l _).nodup_iff.2 h;refine(List.Pairwise.and h1 h2).imp fun {a b} hab=>?_
 have h3:=hab.1;rw[rS,Bool.not_eq_true']at h3;cases h4:Op.bytesLess a b
 ·exact absurd (j3 h4 h3) hab.2
 ·rfl
theorem H3 {l:List L8} {x:L8}:x∈l.mergeSort (fun x y=>decide (x<=y))↔x∈l:=(List.mergeSort_perm l _).mem_iff
def Q7:List L8->L8->Nat
 | [],_=>0
 |y::r,n=>if Op.bytesLess y n=true then Q7 r n+1 else 0
theorem FV:∀(l:List L8) (n:L8),Q7 l n<=l.length
 | [],_=>Nat.le_refl _
 |y::r,n=>by
  unfold Q7
  split
  ·have:=FV r n;simp;omega
  ·exact Nat.zero_le _
theorem Tr:∀{l:List L8} {n:L8} {i:Nat} {x:L8},i<Q7 l n->l[i]? =some x->Op.bytesLess x n=true
 | [],n,i,x,_,h=>by simp at h
 |y::r,n,i,x,hi,h=>by
  unfold Q7 at hi
  split at hi
  ·rename_i hy
   cases i with
   |zero=>simp at h;subst h;exact hy
   |succ i=>exact Tr (l:=r) (n:=n) (i:=i) (by omega) (by simpa using h)
  ·omega
theorem Li:∀{l:List L8} {n:L8} {x:L8},l[Q7 l n]? =some x->Op.bytesLess x n=false
 | [],n,x,h=>by simp[Q7]at h
 |y::r,n,x,h=>by
  unfold Q7 at h
  split at h
  ·exact Li (l:=r) (by simpa using h)
  ·rename_i hy;simp at h;subst h;simpa using hy
def Lf (l:List L8) (n:L8):List L8:=l.take (Q7 l n)++n::l.drop (Q7 l n)
theorem uc:∀(l:List L8) (n:L8),n ∉ l->Lf l n=fY l n
 | [],n,_=>rfl
 |y::r,n,h=>by
  have hy:¬y=n:=fun e=>h (by simp[e])
  have ih:=uc r n (fun hn=>h (by simp[hn]));unfold Lf at ih ⊢
  by_cases hb:Op.bytesLess y n=true
  ·rw[Q7,if_pos hb,fY,if_pos hb,<- ih]
   rfl
  ·rw[Q7,if_neg hb,fY,if_neg hb,if_neg hy]
   rfl
def L4 (l:List L8):List L8:=l.foldl Lf []
theorem Ev {l:List L8} (h:l.Nodup):L4 l=gh l:=by
 have key:∀(l acc:List L8),l.Nodup->(∀x∈l,x ∉ acc)->l.foldl Lf acc=l.foldl fY acc:=by
  intro l
  induction l with
  |nil=>intro acc _ _;rfl
  |cons x r ih=>
   intro acc hnd hx
   simp only[List.foldl_cons]
   rw[uc acc x (hx x (by simp))];rw[List.nodup_cons]at hnd;refine ih _ hnd.2 fun y hy hya=>?_
   rcases mA.1 hya with rfl|hya
   ·exact hnd.1 hy
   ·exact hx y (by simp[hy]) hya
 exact key l [] h (fun x _ h=>by cases h)
end Go.Proofs.YtmkggcjajcdlcaaGreatDoor
