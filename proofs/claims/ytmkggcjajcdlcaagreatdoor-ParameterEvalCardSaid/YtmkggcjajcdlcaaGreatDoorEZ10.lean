/- Parts of a proof: contracts of the functions that the laws reach. -/
import Derived.Test.YtmkggcjajcdlcaaGreatDoorEZ9
set_option maxHeartbeats 100000000
set_option linter.all false
open Go.Proofs.Tryz
namespace Go.Proofs.YtmkggcjajcdlcaaGreatDoor
open Go.RowKit
section
open Go.RowKit Go.Sort Go.Lib
def au (l:List L8):List AV:=l.map fun x=> .val (vL x)
theorem sN {w:World} {B q:Nat} {arr:Array Value} {e:TypeId} {fz:Nat × Nat} (h:w.heap[B]? =some (.cells arr e fz)) (d:List L8) (os:Array Obj):
 (grow (putRow encStr (Sort.ahead w q) B 0 d.toArray) os).heap[B]? =some (.cells (putCells encStr 0 d.toArray arr) e fz):=by
 have hB:=(Array.getElem?_eq_some_iff.1 h).1;unfold grow putRow mapBlock;show(((Sort.ahead w q).heap.modify B _)++os)[B]? =_;rw[Array.getElem?_append_left (by simpa using hB),Array.getElem?_modify,if_pos rfl];show(w.heap[B]?).map _=_;rw[h];rfl
theorem Ay {w:World} {B q k:Nat} (hk:k<w.heap.size) (hne:k≠B) (d:List L8) (os:Array Obj):
 (grow (putRow encStr (Sort.ahead w q) B 0 d.toArray) os).heap[k]? =w.heap[k]?:=by
 unfold grow putRow mapBlock;show(((Sort.ahead w q).heap.modify B _)++os)[k]? =_;rw[Array.getElem?_append_left (by simpa using hk),Array.getElem?_modify,if_neg (fun h=>hne h.symm)];rfl
theorem Dx {d:List L8} {arr:Array Value} (hl:d.length<=arr.size) (i:Nat):(putCells encStr 0 d.toArray arr)[i]? =if i<d.length then(d[i]?).map vL else arr[i]?:=by
 unfold putCells;rw[Array.getElem?_mapIdx]
 by_cases h:i<d.length
 ·rw[if_pos h]
  have h2:i<arr.size:=by omega
  simp[h,h2]
  rfl
 ·rw[if_neg h]
  cases hx:arr[i]? with
  |none=>rfl
  |some x=>simp;omega
theorem EK {S:Nat->Prop} {g:Nat->Nat} {w:World} {l d:List L8} {q:Nat} {os:Array Obj} (hS:GJ S g w [(901,au l)]) (hd:d.length=l.length):
 ni (Own S g (sB [(901,au d)])) g (sB [(901,au d)]) (grow (putRow encStr (Sort.ahead w q) (g 901) 0 d.toArray) os) 901 (au d) (g 901) /\
  du (BX g [(901,au l)]) w (grow (putRow encStr (Sort.ahead w q) (g 901) 0 d.toArray) os) /\
  ∀arr e,w.heap[g 901]? =some (.cells arr e (0,0))-> ∃arr',(grow (putRow encStr (Sort.ahead w q) (g 901) 0 d.toArray) os).heap[g 901]? =some (.cells arr' e (0,0))/\arr'.size=arr.size:=by
 obtain⟨arr,e,h1,h2,h3,_,h5⟩:=hS.bm 901 (au l) (bK.2 ⟨rfl,rfl⟩);have hlen:l.length<=arr.size:=by have:=h2.1;simpa[au]using this
 have hsz:(putCells encStr 0 d.toArray arr).size=arr.size:=by simp[putCells]
 refine⟨⟨_,e,sN h1 d os,⟨by simp[au,hsz];omega,fun i a v ha hv=>?_⟩,fun _ v hv=>?_,(fun h=>by cases h),(fun h=>by cases h)⟩,⟨rfl,rfl,rfl,?_,fun k hk hx=>?_,fun k hk hx arr2 e2 fz2 h=>?_⟩,fun arr2 e2 h=>?_⟩
 ·have hi:i<d.length:=by have:=(List.getElem?_eq_some_iff.1 ha).1;simpa[au]using this
  rw[Array.getElem?_toList,Dx (by omega),if_pos hi]at hv
  simp[hi]at hv
  simp[au,hi]at ha
  subst ha hv;exact .val rfl
 ·obtain⟨i,hi⟩:=List.getElem?_of_mem hv
  rw[Array.getElem?_toList,Dx (by omega)]at hi
  split at hi
  ·rename_i hlt
   simp[hlt]at hi
   subst hi;rfl
  ·exact h3 rfl v (by rw[<- Array.getElem?_toList]at hi;exact List.mem_of_getElem? hi)
 ·show w.heap.size<=_
  simp[grow,putRow,mapBlock]
 ·rw[pL]at hx
  exact Ay hk (fun h=>hx h.symm) d os
 ·rw[pL]at hx
  subst hx;rw[h1]at h;cases h;exact⟨_,_,sN h1 d os,hsz⟩
 ·rw[h1]at h
  cases h;exact⟨_,sN h1 d os,hsz⟩
theorem vY {S:Nat->Prop} {g:Nat->Nat} {w:World} {l:List L8} (hS:GJ S g w [(901,au l)]):Holds encStr w (g 901) 0 l.toArray/\g 901<w.heap.size:=by
 obtain⟨arr,e,h1,h2,_⟩:=hS.bm 901 (au l) (bK.2 ⟨rfl,rfl⟩);have hlen:l.length<=arr.size:=by have:=h2.1;simpa[au]using this
 refine⟨fun j hj=>?_,(Array.getElem?_eq_some_iff.1 h1).1⟩;have hj:j<l.length:=by simpa using hj
 have hv:=h2.2 j (.val (vL l[j])) arr[j] (by simp[au,hj]) (by simp);rw[Nat.zero_add];refine⟨?_,?_⟩
 ·rw[eW h1,Array.getElem?_eq_getElem (by omega),ec hv]
  simp[hj]
  rfl
 ·unfold World.frozen?
  simp[h1]
theorem E2 {l:List L8} (hl:l.length<=1000000):bA Tryz.prog 71 [.own 901 l.length 1 9] [(901,au l)] (.v (.tup [])) [(901,au (l.mergeSort fun x y=>decide (x<=y)))]:=
 ⟨aG func71 rfl rfl,fun S g w vs hS hv=>by
  match vs,hv with
  | [v],⟨⟨_,h1⟩,_⟩=>
   obtain⟨c,rfl,_,_,_,_⟩:=h1 (au l) (bK.2 ⟨rfl,rfl⟩);obtain⟨hH,hB⟩:=vY hS;refine(Tryz.slices_Sort_string (g 901) 0 c l w hH hB (by omega)).mono ?_;rintro e w' ⟨rfl,q,os,rfl⟩;obtain⟨r1,r2,_⟩:=EK (d:=l.mergeSort fun x y=>decide (x<=y)) (q:=q) (os:=os) hS (List.length_mergeSort _);refine⟨_,g,rfl,fun j cs cs' h h'=>?_,fun j cs' h=>?_,fun i j ci cj hi hj _=>?_,?_,r2⟩
   ·obtain⟨_,rfl⟩:=bK.1 h
    obtain⟨_,rfl⟩:=bK.1 h';exact⟨rfl,by simp[au]⟩
   ·obtain⟨rfl,rfl⟩:=bK.1 h
    exact⟨.inr (by rw[pL]),r1⟩
   ·rw[(bK.1 hi).1,(bK.1 hj).1]
   ·exact⟨[],rfl,rfl,fun i x u h=>by simp at h⟩⟩
theorem Dk {l:List L8} (hl:l.length<=1000000):bA Tryz.prog 172 [.own 901 l.length 1 9] [(901,au l)] (.own 901 (Lib.compact l).length 1 9) [(901,au (Lib.compact l++List.replicate (l.length-(Lib.compact l).length) []))]:=
 ⟨aG func172 rfl rfl,fun S g w vs hS hv=>by
  match vs,hv with
  | [v],⟨⟨hk,h1⟩,_⟩=>
   obtain⟨c,rfl,h2,h3,h4,arr,h5,h6⟩:=h1 (au l) (bK.2 ⟨rfl,rfl⟩);obtain⟨hH,hB⟩:=vY hS;have hcl:=Lib.compact_length_le l;refine(Tryz.slices_Compact_string (g 901) 0 c l w hH (by omega) h2).mono ?_;rintro e w' ⟨rfl,q,rfl⟩;obtain⟨r1,r2,r3⟩:=EK (d:=Lib.compact l++List.replicate (l.length-(Lib.compact l).length) []) (q:=q) (os:= #[]) hS (by simp;omega);rw[grow_empty]at r1 r2 r3;obtain⟨arr',r4,r5⟩:=r3 arr _ h5;refine⟨_,g,rfl,fun j cs cs' h h'=>?_,fun j cs' h=>?_,fun i j ci cj hi hj _=>?_,?_,r2⟩
   ·obtain⟨_,rfl⟩:=bK.1 h
    obtain⟨_,rfl⟩:=bK.1 h';exact⟨rfl,by simp[au];omega⟩
   ·obtain⟨rfl,rfl⟩:=bK.1 h
    exact⟨.inr (by rw[pL]),r1⟩
   ·rw[(bK.1 hi).1,(bK.1 hj).1]
   ·refine⟨AS.kn_of (bK.2 ⟨rfl,rfl⟩),fun cs hc=>?_⟩
    obtain⟨_,rfl⟩:=bK.1 hc;exact⟨c,rfl,by omega,h3,by simp[au],arr',r4,by rw[r5,h6]⟩⟩
end
mutual
def Nd:Rx->Rx->Bool
 | .mk op na xs nb ys nm args, .mk op' na' xs' nb' ys' nm' args'=>decide (op=op') && (decide (nm=nm') && (decide (args.length=args'.length) && ((sameB na na' xs xs' && sameB nb nb' ys ys') && Ca args args')))
def Ca:List Rx->List Rx->Bool
 |x::r,y::s=>Nd x y && Ca r s
 | [],_=>true
 |_::_,[]=>true
end
theorem si:∀(l m:List Rx),l.length=m.length->(Ca l m=true↔ ∀(i:Nat) x y,l[i]? =some x->m[i]? =some y->Nd x y=true)
 | [],[],_=>by simp[Ca]
 |x::r,y::s,h=>by
  have ih:=si r s (by simpa using h);rw[Ca,Bool.and_eq_true,ih]
  constructor
  ·rintro⟨h1,h2⟩ i a b ha hb
   cases i with
   |zero=>simp at ha hb;subst ha hb;exact h1
   |succ i=>exact h2 i a b (by simpa using ha) (by simpa using hb)
  ·intro hall
   exact⟨hall 0 x y rfl rfl,fun i a b ha hb=>hall (i+1) a b (by simpa using ha) (by simpa using hb)⟩
theorem J5:∀x:Rx,Nd x x=true:=by
 refine dq fun op na xs nb ys nm args ih=>?_
 have h:Ca args args=true:=(si args args rfl).2 fun i x y hx hy=>by
  rw[hx]at hy;cases hy;exact ih x (List.mem_of_getElem? hx)
 rw[Nd,h,ll rfl,ll rfl]
 simp
theorem Ac {na nb na' nb':Bool} {xs ys xs' ys':List Nat} (hl:xs.length<=2147483648) (hl':ys.length<=2147483648):aa Tryz.prog 47 [GL na xs nb ys,GL na' xs' nb' ys'] (.one (dB (sameB na na' xs xs' && sameB nb nb' ys ys'))):=by
 have c1:aa Tryz.prog 97 [dI na xs,dI na' xs'] (.one (dB (sameB na na' xs xs'))):=eZ hl rfl;have c2:aa Tryz.prog 97 [dI nb ys,dI nb' ys'] (.one (dB (sameB nb nb' ys ys'))):=eZ hl' rfl;generalize sameB na na' xs xs'=b1 at *;generalize sameB nb nb' ys ys'=b2 at *;cases b1
 ·refine kU func47 ?_
  exact tT
 ·cases b2
  all_goals
   refine kV func47 ?_;refine kQ (c1) ?_;refine kC (c2) ?_;exact kF
theorem uS:∀(x:Rx),K0 x-> ∀y,K0 y->aa Tryz.prog 53 [dR x,dR y] (.one (dB (Nd x y))):=by
 refine dq fun op na xs nb ys nm args ih hx=>?_
 rintro⟨op',na',xs',nb',ys',nm',args'⟩ hy;obtain⟨h1,h2,h3,h4⟩:=hx;obtain⟨_,_,g3,g4⟩:=hy;have cs:=Ac (na:=na) (nb:=nb) (na':=na') (nb':=nb') (xs':=xs') (ys':=ys') h1 h2;have hall:=si args args';rw[Nd];generalize(sameB na na' xs xs' && sameB nb nb' ys ys')=bs at *;show aa Tryz.prog _ [.agg (ab op na xs nb ys nm args.length (db args)), .agg (ab op' na' xs' nb' ys' nm' args'.length (db args'))] _;have cs:aa Tryz.prog 47 [.agg (Eh na xs nb ys), .agg (Eh na' xs' nb' ys')] (.one (dB bs)):=cs
 by_cases e1:op=op'
 ·rw[decide_eq_true e1,Bool.true_and]
  by_cases e2:nm=nm'
  ·rw[decide_eq_true e2,Bool.true_and]
   by_cases e3:args.length=args'.length
   ·rw[decide_eq_true e3,Bool.true_and]
    have hall:=hall e3;cases bs
    ·rw[Bool.false_and]
     refine Od ?_;exact ax
    ·rw[Bool.true_and]
     generalize Ca args args'=B at *;refine Od ?_;refine kW ?_
     refine aq Nat (fun i=>i<=args.length/\ ∀(q:Nat) x y,q<i->args[q]? =some x->args'[q]? =some y->Nd x y=true) (fun i=>⟨[(2, .box 0 0),(3, .box 1 0),(4, .d (dB false)),(5, .d (dN .i64 i))],[(0,some (ab op na xs nb ys nm args.length (db args))),(1,some (ab op' na' xs' nb' ys' nm' args'.length (db args')))]⟩) (fun i=>args.length-i) 0 ⟨Nat.zero_le _,fun q x y h=>absurd h (Nat.not_lt_zero _)⟩
      kw ?_
     rintro i ⟨hi,hq⟩;refine kI ?_
     refine kO4 ?_
     by_cases hlt:i<args.length
     ·refine kT ?_
      have hlt':i<args'.length:=by omega
      obtain⟨o1,na1,xs1,nb1,ys1,nm1,n1,cs1,hA⟩:=bz args[i];obtain⟨o2,na2,xs2,nb2,ys2,nm2,n2,cs2,hA2⟩:=bz args'[i];have hx:args[i]? =some args[i]:=by simp[hlt]
      have hy:args'[i]? =some args'[i]:=by simp[hlt']
      have hat:∀(j:Nat) (a:AV),(ab o1 na1 xs1 nb1 ys1 nm1 n1 cs1)[j]? =some a->(db args)[i*7+j]? =some a:=fun j a h=>fq args i args[i] hx j a (by rw[hA];exact h)
      have hat':∀(j:Nat) (a:AV),(ab o2 na2 xs2 nb2 ys2 nm2 n2 cs2)[j]? =some a->(db args')[i*7+j]? =some a:=fun j a h=>fq args' i args'[i] hy j a (by rw[hA2];exact h)
      have c:=ih args[i] (List.getElem_mem hlt) (h4 _ (List.getElem_mem hlt)) args'[i] (g4 _ (List.getElem_mem hlt'));rw[show dR args[i]= .agg (ab o1 na1 xs1 nb1 ys1 nm1 n1 cs1) from congrArg DV.agg hA,show dR args'[i]= .agg (ab o2 na2 xs2 nb2 ys2 nm2 n2 cs2) from congrArg DV.agg hA2]at c;refine M7 ?_;refine kW ?_;refine bB (i:=i) (cs':=ab o2 na2 xs2 nb2 ys2 nm2 n2 cs2) hlt' hat' (Nat.zero_lt_succ 6) rfl rfl rfl rfl rfl rfl rfl rfl ?_;refine kW ?_;cases hb:Nd args[i] args'[i]
      ·rw[hb]at c
       have hB:B=false:=by
        cases B
        ·rfl
        ·rw[hall.1 rfl i _ _ hx hy]at hb;cases hb
       clear hall;cases B
       ·refine kC (c) ?_
        exact ax
       ·cases hB
      ·rw[hb]at c
       refine kQ (c) ?_
       exact⟨i+1,⟨hlt,fun q x y h1 h2 h3=>by
        by_cases e:q=i
        ·subst e;rw[hx]at h2;rw[hy]at h3;cases h2;cases h3;exact hb
        ·exact hq q x y (by omega) h2 h3⟩,by omega,weak ⟨rfl,rfl,rfl,ae (by omega) (by omega),trivial⟩ ⟨rfl,rfl,trivial⟩ rfl⟩
     ·have hB:B=true:=hall.2 fun q x y h2 h3=>hq q x y (by have:=(List.getElem?_eq_some_iff.1 h2).1;omega) h2 h3
      clear hall;cases B
      ·cases hB
      ·refine kE ?_
       exact ax
   ·rw[decide_eq_false e3,Bool.false_and]
    refine kU func53 ?_;refine jT ?_;refine Nj ?_;refine JC ?_;exact ax
  ·rw[decide_eq_false e2,Bool.false_and]
   refine kU func53 ?_;refine jT ?_;refine kB false ?_ ?_
   ·exact(by simp[e1])
   refine kO5 ?_
   refine aC rfl rfl rfl rfl rfl rfl rfl (gA (a:=nm) (b:=nm') e2) ?_;exact ax
 ·rw[decide_eq_false e1,Bool.false_and]
  refine kU func53 ?_;refine jT ?_;refine kB true ?_ ?_
  ·exact(by simp[e1])
  exact ax
mutual
def mT (f t:List UInt8):Rx->Rx
 | .mk op na xs nb ys nm args=> .mk op na xs nb ys (if op=2/\nm=f then t else nm) (GG f t args)
def GG (f t:List UInt8):List Rx->List Rx
 | []=>[]
 |x::r=>mT f t x::GG f t r
end
theorem AT (f t:List UInt8):∀l,GG f t l=l.map (mT f t)
 | []=>by simp[GG]
 |x::r=>by rw[GG,AT f t r,List.map_cons]
def TH (J:Nat):List Rx->TV
 | []=> .nil
 |a::r=> .own J (a::r).length 7 41
def TU:List Rx->Option (List AV)
 | []=>none
 |a::r=>some (db (a::r))
theorem L9 (a b:List Rx):db (a++b)=db a++db b:=by
 induction a with
 |nil=>rfl
 |cons x r ih=>simp[db,ih]
theorem Iu (J:Nat) (l:List Rx) (x:Rx):TH J (l++[x])= .own J (l.length+1) 7 41:=by
 cases l with
 |nil=>rfl
 |cons a r=>simp[TH]
theorem JR (l:List Rx) (x:Rx):TU (l++[x])=some (db l++aR x):=by
 cases l with
 |nil=>show some (aR x++[])=_;rw[List.append_nil];rfl
 |cons a r=>show some (db ((a::r)++[x]))=_;rw[L9];show some (_++(aR x++[]))=_;rw[List.append_nil]
def zE:List AV:=ab 0 false [] false [] [] 0 []
theorem ov:∀l:List Rx,(db l).length=l.length*7
 | []=>rfl
 |x::r=>by
  obtain⟨o1,na1,xs1,nb1,ys1,nm1,n1,cs1,hA⟩:=bz x;have ih:=ov r
  simp only[db,List.length_append,hA,ih,List.length_cons]
  have:(ab o1 na1 xs1 nb1 ys1 nm1 n1 cs1).length=7:=rfl;omega
theorem Uy (l:List Rx):(db l).take (l.length*7)=db l:=List.take_of_length_le (Nat.le_of_eq (ov l))
theorem Se (t:List (Nat × TV)) (b:List (Nat × Option (List AV))) (q:Nat) (l:List Rx) (x:Rx) (cx:List AV) (hx:aR x=cx):(⟨(q,TH 5001 (l++[x]))::t,(5001,TU (l++[x]))::b⟩:AS)=⟨(q, .own 5001 (l.length+1) 7 41)::t,(5001,some ((db l).take (l.length*7)++cx))::b⟩:=by
 rw[Iu,JR,Uy,hx]
theorem Gd {f t:List UInt8} {args l:List Rx} (hl:l.length<args.length) (h:l=(args.take l.length).map (mT f t)):l++[mT f t args[l.length]]=(args.take (l++[mT f t args[l.length]]).length).map (mT f t):=by
 rw[List.length_append,List.length_singleton,List.take_add_one,List.map_append,<- h]
 simp[hl]
theorem AA (f t:List UInt8):∀x,K0 x->j0 x->aa Tryz.prog 67 [dR x,dL f,dL t] (.one (dR (mT f t x))):=by
 refine dq fun op na xs nb ys nm args ih hx hwx=>?_
 obtain⟨h1,h2,h3,h4⟩:=hx;obtain⟨_,_,hw,hw',_,_,hargs⟩:=hwx;have cl1:aa Tryz.prog 120 [.leaf (aW xs)] (.one (.leaf (aW xs))):=rY hw (by omega);have cl2:aa Tryz.prog 120 [.leaf (aW ys)] (.one (.leaf (aW ys))):=rY hw' (by omega);rw[mT,AT]
 have hz:(if op=2/\nm=f then t else nm)=cond (decide (op=2/\nm=f)) t nm:=by
  by_cases h:op=2/\nm=f
  ·rw[if_pos h,decide_eq_true h];rfl
  ·rw[if_neg h,decide_eq_false h];rfl
 rw[hz];clear hz;generalize hb:decide (op=2/\nm=f)=b;show aa Tryz.prog _ [.agg (ab op na xs nb ys nm args.length (db args)),dL f,dL t] (.one (.agg (ab op na xs nb ys (cond b t nm) (args.map (mT f t)).length (db (args.map (mT f t))))));refine kU func67 ?_;refine kR ?_;refine j3 ⟨[(1, .d (dL f)),(2, .d (dL t)),(3, .box 0 0),(6, .box 1 0)],[(0,some (ab op na xs nb ys (cond b t nm) args.length (db args))),(1,some zE)]⟩ (fun s' hw2=>?_) (fun R hR _=>?_)
 ·refine bW hw2 rfl ?_
  clear hb;refine kW ?_
  refine aq (List Rx) (fun l=>l.length<=args.length/\l=(args.take l.length).map (mT f t)) (fun l=>⟨[(7,TH 5001 l),(1, .d (dL f)),(2, .d (dL t)),(3, .box 0 0),(6, .box 1 0),(22, .d (.leaf (.sl args.length (db args)))),(23, .d (dN .i64 args.length)),(24, .d (dN .i64 l.length))],[(5001,TU l),(0,some (ab op na xs nb ys (cond b t nm) args.length (db args))),(1,some zE)]⟩) (fun l=>args.length-l.length) [] ⟨Nat.zero_le _,rfl⟩
   kw ?_
  rintro l ⟨hi,hl⟩;refine kI ?_
  by_cases hlt:l.length<args.length
  ·refine kT ?_
   obtain⟨o1,na1,xs1,nb1,ys1,nm1,n1,cs1,hA⟩:=bz args[l.length];obtain⟨o2,na2,xs2,nb2,ys2,nm2,n2,cs2,hA2⟩:=bz (mT f t args[l.length]);have hx:args[l.length]? =some args[l.length]:=by simp[hlt]
   have hat:∀(j:Nat) (a:AV),(ab o1 na1 xs1 nb1 ys1 nm1 n1 cs1)[j]? =some a->(db args)[l.length*7+j]? =some a:=fun j a h=>fq args l.length args[l.length] hx j a (by rw[hA];exact h)
   have c:=ih args[l.length] (List.getElem_mem hlt) (h4 _ (List.getElem_mem hlt)) (hargs _ (List.getElem_mem hlt));rw[show dR args[l.length]= .agg (ab o1 na1 xs1 nb1 ys1 nm1 n1 cs1) from congrArg DV.agg hA,show dR (mT f t args[l.length])= .agg (ab o2 na2 xs2 nb2 ys2 nm2 n2 cs2) from congrArg DV.agg hA2]at c;have hs:=Gd hlt hl;have hst:=Se [(1, .d (dL f)),(2, .d (dL t)),(3, .box 0 0),(6, .box 1 0),(22, .d (.leaf (.sl args.length (db args)))),(23, .d (dN .i64 args.length)),(24, .d (dN .i64 ((l++[mT f t args[l.length]]).length:Nat)))] [(0,some (ab op na xs nb ys (cond b t nm) args.length (db args))),(1,some zE)] 7 l _ _ hA2;generalize mT f t args[l.length]=y at *;cases l with
   |nil=>
    refine kW ?_;refine bB (i:=0) (cs':=ab o1 na1 xs1 nb1 ys1 nm1 n1 cs1) hlt hat (Nat.zero_lt_succ 6) rfl rfl rfl rfl rfl rfl rfl rfl ?_;refine kW ?_;refine kC (c) ?_;refine kO ?_;refine cY 5002 (m1:=0) (m2:=1) ac (by decide) (by decide) rfl rfl rfl rfl rfl rfl rfl rfl rfl rfl rfl (.nil rfl rfl) rfl rfl rfl ?_;refine kW ?_;refine⟨[]++[y],⟨by simp at hlt ⊢;omega,hs⟩,by simp;omega,?_⟩
    refine Eq.mpr (congrArg (bu _) hst) (bu.trans (b:=⟨[(7, .own 5002 1 7 41),(1, .d (dL f)),(2, .d (dL t)),(3, .box 0 0),(6, .box 1 0),(22, .d (.leaf (.sl args.length (db args)))),(23, .d (dN .i64 args.length)),(24, .d (dN .i64 (1:Nat)))],[(5002,some ([]++ab o2 na2 xs2 nb2 ys2 nm2 n2 cs2)),(0,some (ab op na xs nb ys (cond b t nm) args.length (db args))),(1,some zE)]⟩) kw ((aD (q:=7) (j:=5002) (j':=5001) rfl rfl rfl rfl).trans kw))
   |cons a r=>
    refine kW ?_;refine bB (i:=(a::r).length) (cs':=ab o1 na1 xs1 nb1 ys1 nm1 n1 cs1) hlt hat (Nat.zero_lt_succ 6) rfl rfl rfl rfl rfl rfl rfl rfl ?_;refine kW ?_;refine kC (c) ?_;refine kO ?_;refine cY 5002 (m1:=(a::r).length) (m2:=1) ac (by decide) (Nat.le_trans (Nat.mul_le_mul_right _ (show(a::r).length+1<=1000000 by omega)) (by decide)) rfl rfl rfl rfl rfl rfl rfl rfl rfl rfl rfl (.own rfl rfl) rfl rfl rfl ?_;refine kW ?_;refine⟨(a::r)++[y],⟨by rw[List.length_append];exact hlt,hs⟩,by simp at hlt ⊢;omega,?_⟩
    refine Eq.mpr (congrArg (bu _) hst) (bu.trans (b:=⟨[(7, .own 5002 ((a::r).length+1) 7 41),(1, .d (dL f)),(2, .d (dL t)),(3, .box 0 0),(6, .box 1 0),(22, .d (.leaf (.sl args.length (db args)))),(23, .d (dN .i64 args.length)),(24, .d (dN .i64 (((a::r)++[y]).length:Nat)))],[(5002,some ((db (a::r)).take ((a::r).length*7)++ab o2 na2 xs2 nb2 ys2 nm2 n2 cs2)),(0,some (ab op na xs nb ys (cond b t nm) args.length (db args))),(1,some zE)]⟩) (weak ⟨rfl,rfl,rfl,rfl,rfl,rfl,rfl,ae (by simp) (by simp at hlt ⊢;omega),trivial⟩ ⟨rfl,rfl,rfl,trivial⟩ rfl) ((aD (q:=7) (j:=5002) (j':=5001) rfl rfl rfl rfl).trans kw))
  ·refine kE ?_
   have he:l=args.map (mT f t):=by rw[hl,show l.length=args.length by omega,List.take_length]
   rw[<- he];clear hl he;refine jR ?_;refine bM (T:=TT) ?_;cases l with
   |nil=>
    refine kW ?_;refine kQ (cl1) ?_;refine kC (cl2) ?_;exact ax
   |cons a r=>
    refine bW (a7 (q:=7) rfl rfl) rfl ?_;refine kW ?_;refine kQ (cl1) ?_;refine kC (cl2) ?_;exact ax
 ·cases b
  ·by_cases ho:op=2
   ·have hn:nm≠f:=fun e=>by rw[decide_eq_true ⟨ho,e⟩]at hb;cases hb
    refine kI ?_
    refine kO2 ?_
    refine kB true ?_ ?_
    ·exact decide_eq_true ho
    refine kO4 ?_
    refine aC rfl rfl rfl rfl rfl rfl rfl (bH (a:=nm) (b:=f) hn) ?_;refine kW ?_;exact hR _ kw
   ·refine kI ?_
    refine kO2 ?_
    refine kB false ?_ ?_
    ·exact decide_eq_false ho
    refine kW ?_;exact hR _ kw
  ·have h:=of_decide_eq_true hb
   refine kI ?_
   refine kO2 ?_
   refine kB true ?_ ?_
   ·exact decide_eq_true h.1
   refine kO4 ?_
   refine aC rfl rfl rfl rfl rfl rfl rfl (bn (a:=nm) (b:=f) h.2) ?_;refine kW ?_;exact hR _ kw
abbrev Pm:=L8 × Rx
abbrev Tb:=List Pm
def bX:Tb->L8->Nat
 | [],_=>0
 |p::r,n=>if p.1=n then 0 else bX r n+1
theorem pm:∀(l:Tb) (n:L8),bX l n<=l.length
 | [],_=>Nat.le_refl _
 |p::r,n=>by
  unfold bX
  split
  ·exact Nat.zero_le _
  ·have:=pm r n;simp only[List.length_cons];omega
theorem iC:∀{l:Tb} {n:L8},bX l n<l.length↔ ∃p∈l,p.1=n
 | [],n=>by simp[bX]
 |p::r,n=>by
  have ih:=iC (l:=r) (n:=n);unfold bX
  split
  ·rename_i h;simp[h]
  ·rename_i h
   simp only[List.length_cons,Nat.add_lt_add_iff_right,ih,List.mem_cons,exists_eq_or_imp,h,false_or]
theorem nh:∀{l:Tb} {n:L8},bX l n<l.length-> ∃p,l[bX l n]? =some p/\p.1=n
 | [],n,h=>by simp[bX]at h
 |p::r,n,h=>by
  unfold bX at h ⊢
  split
  ·rename_i e;exact⟨p,rfl,e⟩
  ·rename_i e
   rw[if_neg e]at h;obtain⟨q,h1,h2⟩:=nh (l:=r) (n:=n) (by simpa using h);exact⟨q,by simpa using h1,h2⟩
theorem fX:∀{l:Tb} {n:L8} {i:Nat} {p:Pm},i<bX l n->l[i]? =some p->p.1≠n
 | [],n,i,p,_,h=>by simp at h
 |q::r,n,i,p,hi,h=>by
  unfold bX at hi
  split at hi
  ·omega
  ·rename_i e
   cases i with
   |zero=>simp at h;subst h;exact e
   |succ i=>exact fX (l:=r) (n:=n) (i:=i) (by omega) (by simpa using h)
theorem G3 {l:Tb} {n:L8} {i:Nat} {p:Pm} (h:l[i]? =some p) (hp:p.1=n) (hb:∀(j:Nat) (q:Pm),j<i->l[j]? =some q->q.1≠n):bX l n=i:=by
 have h1:¬i<bX l n:=fun h2=>fX h2 h hp
 have h2:bX l n<l.length:=iC.2 ⟨p,List.mem_of_getElem? h,hp⟩
 obtain⟨q,h3,h4⟩:=nh h2;rcases Nat.lt_or_ge (bX l n) i with h5|h5
 ·exact absurd h4 (hb _ q h5 h3)
 ·omega
def gt (l:Tb) (n:L8):Int:=if bX l n<l.length then(bX l n:Int)else -1
def A7 (l:Tb):Nat->Tb->Int
 |_,[]=>0
 |i,p::r=>if n6 p.1=true then(if qi p.2=0 then(if bX l p.1<i then 5 else A7 l (i+1) r)else qi p.2)else 1
def gC (l:Tb):Int:=if 200<l.length then 3 else A7 l 0 l
structure lM (l:Tb):Prop where
 len:l.length<=200
 nm:∀p∈l,n6 p.1=true
 ex:∀p∈l,qi p.2=0
 nd:∀(i j:Nat) (p q:Pm),l[i]? =some p->l[j]? =some q->p.1=q.1->i=j
theorem If (l:Tb):∀(i:Nat) (r:Tb),l.drop i=r->A7 l i r=0-> ∀(j:Nat) (p:Pm),i<=j->l[j]? =some p->n6 p.1=true/\qi p.2=0/\j<=bX l p.1
 |i,[],h,_,j,p,hj,hp=>by
  have:=congrArg List.length h;have h1:=(List.getElem?_eq_some_iff.1 hp).1
  simp at this
  omega
 |i,q::r,h,h0,j,p,hj,hp=>by
  have hq:l[i]? =some q:=by
   have:=congrArg (·[0]?) h
   simpa using this
  unfold A7 at h0
  split at h0
  ·rename_i h1
   split at h0
   ·rename_i h2
    split at h0
    ·cases h0
    ·rename_i h3
     by_cases e:j=i
     ·subst e;rw[hq]at hp;cases hp;exact⟨h1,h2,by omega⟩
     ·exact If l (i+1) r (by rw[<- List.drop_drop,h];rfl) h0 j p (by omega) hp
   ·rename_i h2;exact absurd h0 h2
  ·cases h0
theorem lz {l:Tb} (h:gC l=0):lM l:=by
 unfold gC at h
 split at h
 ·cases h
 rename_i hl
 have key:=If l 0 l rfl h;refine⟨by omega,fun p hp=>?_,fun p hp=>?_,?_⟩
 ·obtain⟨i,hi⟩:=List.getElem?_of_mem hp;exact(key i p (Nat.zero_le _) hi).1
 ·obtain⟨i,hi⟩:=List.getElem?_of_mem hp;exact(key i p (Nat.zero_le _) hi).2.1
 ·intro i j p q hi hj e
  have h1:=(key i p (Nat.zero_le _) hi).2.2;have h2:=(key j q (Nat.zero_le _) hj).2.2;rw[<- e]at h2;have h3:¬i<bX l p.1:=fun h4=>fX h4 hi rfl
  have h4:¬j<bX l p.1:=fun h4=>fX h4 hj e.symm
  omega
theorem JT {l:Tb} (h:lM l):∀(i:Nat) (r:Tb),l.drop i=r->A7 l i r=0
 |i,[],_=>rfl
 |i,q::r,hd=>by
  have hq:l[i]? =some q:=by
   have:=congrArg (·[0]?) hd
   simpa using this
  have hm:=List.mem_of_getElem? hq;have h2:bX l q.1<l.length:=iC.2 ⟨q,hm,rfl⟩
  obtain⟨p,h3,h4⟩:=nh h2;have:=h.nd _ _ _ _ h3 hq h4;rw[A7,if_pos (h.nm q hm),if_pos (h.ex q hm),if_neg (by omega)];exact JT h (i+1) r (by rw[<- List.drop_drop,hd];rfl)
theorem Is {l:Tb} (h:lM l):gC l=0:=by
 unfold gC;rw[if_neg (by have:=h.len;omega)];exact JT h 0 l rfl
theorem lM.fd {l:Tb} (h:lM l) {i:Nat} {p:Pm} (hi:l[i]? =some p):bX l p.1=i:=
 G3 hi rfl fun j q hj hq e=>by have:=h.nd _ _ _ _ hq hi e;omega
theorem lM.ne {l:Tb} (h:lM l) {p:Pm} (hp:p∈l):p.1≠[]:=fun e=>by
 have:=h.nm p hp;rw[e]at this;exact absurd this (by decide)
def pQ (x:Rx) (out:List L8):Bool:=(ej x).all fun n=>decide (n∈out)
theorem rB {x:Rx} {out:List L8}:pQ x out=true↔ ∀n∈ej x,n∈out:=by simp[pQ]
def pU (out:List L8) (p:Pm):Bool:=!(decide (p.1∈out)) && pQ p.2 out
def ij (out:List L8) (nx:L8) (p:Pm):L8:=if pU out p=true/\(nx=[]∨Op.bytesLess p.1 nx=true)then p.1 else nx
def pd (l:Tb) (out:List L8):L8:=l.foldl (ij out) []
theorem Ch {out:List L8}:∀(l:Tb) (nx:L8),l.foldl (ij out) nx=nx∨ ∃p∈l,pU out p=true/\l.foldl (ij out) nx=p.1
 | [],nx=> .inl rfl
 |p::r,nx=>by
  simp only[List.foldl_cons]
  by_cases h:pU out p=true/\(nx=[]∨Op.bytesLess p.1 nx=true)
  ·rw[show ij out nx p=p.1 from if_pos h]
   rcases Ch r p.1 with h1| ⟨q,hq,h1,h2⟩
   ·exact .inr ⟨p,by simp,h.1,h1⟩
   ·exact .inr ⟨q,by simp[hq],h1,h2⟩
  ·rw[show ij out nx p=nx from if_neg h]
   rcases Ch r nx with h1| ⟨q,hq,h1,h2⟩
   ·exact .inl h1
   ·exact .inr ⟨q,by simp[hq],h1,h2⟩
theorem rv {l:Tb} {out:List L8} (h:pd l out≠[]):∃p∈l,pU out p=true/\pd l out=p.1:=by
 rcases Ch (out:=out) l []with h1|h1
 ·exact absurd h1 h
 ·exact h1
def fk (l:Tb):Nat->List L8->Option (List L8)
 |0,out=>some out
 |k+1,out=>if pd l out=[]then none else fk l k (out++[pd l out])
def bf (l:Tb):List L8 × Int:=
 if gC l=0 then(if l.all (fun p=>pQ p.2 (l.map (·.1)))=true then(match fk l l.length []with|some o=>(o,0)|none=>([],9))else([],4))else([],gC l)
structure oI (l:Tb) (o:List L8):Prop where
 nd:o.Nodup
 mem:∀n∈o,∃p∈l,p.1=n
 up:∀(i:Nat) (n:L8) (p:Pm),o[i]? =some n->p∈l->p.1=n-> ∀m∈ej p.2,m∈o.take i
theorem oI.nil (l:Tb):oI l []:=⟨List.nodup_nil,fun n h=>(by cases h),fun i n p h=>by simp at h⟩
theorem oI.snoc {l:Tb} (hl:lM l) {o:List L8} (h:oI l o) {p:Pm} (hp:p∈l) (hc:pU o p=true):oI l (o++[p.1]):=by
 unfold pU at hc
 simp only[Bool.and_eq_true,Bool.not_eq_true',decide_eq_false_iff_not]at hc
 refine⟨?_,fun n hn=>?_,fun i n q hi hq e m hm=>?_⟩
 ·rw[List.nodup_append]
  refine⟨h.nd,List.nodup_cons.2 ⟨by simp,List.nodup_nil⟩,fun a ha b hb=>?_⟩;rw[List.mem_singleton.1 hb];exact fun e=>hc.1 (e ▸ ha)
 ·rcases List.mem_append.1 hn with hn|hn
  ·exact h.mem n hn
  ·exact⟨p,hp,(List.mem_singleton.1 hn).symm⟩
 ·rcases Nat.lt_or_ge i o.length with hlt|hge
  ·rw[List.getElem?_append_left hlt]at hi
   rw[List.take_append_of_le_length (by omega)];exact h.up i n q hi hq e m hm
  ·rw[List.getElem?_append_right hge]at hi
   have hi0:i=o.length:=by
    have:=(List.getElem?_eq_some_iff.1 hi).1
    simp at this
    omega
   subst hi0
   simp at hi
   subst hi;obtain⟨a,ha⟩:=List.getElem?_of_mem hp;obtain⟨b,hb⟩:=List.getElem?_of_mem hq;have:=hl.nd _ _ _ _ hb ha e;subst this;rw[ha]at hb;cases hb;rw[List.take_left']
   ·exact rB.1 hc.2 m hm
   ·rfl
theorem AM {l:Tb} (hl:lM l):∀(k:Nat) (out o:List L8),oI l out->fk l k out=some o->oI l o/\o.length=out.length+k
 |0,out,o,h,e=>by cases e;exact⟨h,rfl⟩
 |k+1,out,o,h,e=>by
  unfold fk at e
  split at e
  ·cases e
  ·rename_i hn
   obtain⟨p,hp,hc,hx⟩:=rv hn;rw[hx]at e;obtain⟨h1,h2⟩:=AM hl k _ o (h.snoc hl hp hc) e;exact⟨h1,by simp at h2;omega⟩
theorem iH {l:Tb} {o:List L8} (h:bf l=(o,0)):lM l/\oI l o/\o.length=l.length:=by
 unfold bf at h
 split at h
 ·rename_i hv
  split at h
  ·split at h
   ·rename_i o' ho
    cases h;have:=AM (lz hv) l.length [] o (.nil l) ho;exact⟨lz hv,this.1,by simpa using this.2⟩
   ·cases h
  ·cases h
 ·rename_i hv
  injection h with h1 h2
  exact absurd h2 hv
inductive Bq (l:Tb) (n:L8):L8->Prop
 |base {p:Pm}:p∈l->n∈ej p.2->Bq l n p.1
 |step {p:Pm} {y:L8}:p∈l->y∈ej p.2->Bq l n y->Bq l n p.1
theorem Bq.mem {l:Tb} {n x:L8} (h:Bq l n x):∃p∈l,p.1=x:=by
 cases h with
 |base h _=>exact⟨_,h,rfl⟩
 |step h _ _=>exact⟨_,h,rfl⟩
theorem gZ:∀{a b:List L8},a.Nodup->(∀x∈a,x∈b)->a.length<=b.length
 | [],_,_,_=>Nat.zero_le _
 |x::a,b,h,hs=>by
  have hx:=hs x (by simp);obtain⟨h1,h2⟩:=List.nodup_cons.1 h;have:=gZ (a:=a) (b:=b.erase x) h2 fun y hy=>(List.mem_erase_of_ne (fun e:y=x=>h1 (by rw[<- e];exact hy))).2 (hs y (List.mem_cons_of_mem _ hy))
  rw[List.length_erase_of_mem hx]at this;have:=List.length_pos_of_mem hx
  simp only[List.length_cons]
  omega
theorem oI.all {l:Tb} {o:List L8} (h:oI l o) (hlen:o.length=l.length):∀p∈l,p.1∈o:=fun p hp=>by
 refine Classical.byContradiction fun hn=>?_
 have:=gZ (a:=p.1::o) (b:=l.map (·.1)) (List.nodup_cons.2 ⟨hn,h.nd⟩) fun x hx=>by
  rcases List.mem_cons.1 hx with rfl|hx
  ·exact List.mem_map.2 ⟨p,hp,rfl⟩
  ·obtain⟨q,hq,e⟩:=h.mem x hx;exact List.mem_map.2 ⟨q,hq,e⟩
 simp at this
 omega
def tq (l:Tb) (b:Int) (nx:L8):Prop:=(b= -1/\nx=[])∨ ∃(k:Nat) (p:Pm),b=k/\l[k]? =some p/\p.1=nx
theorem LW {l:Tb} {out:List L8} {i:Nat} {p:Pm} (h:l[i]? =some p):(l.take (i+1)).foldl (ij out) []=ij out ((l.take i).foldl (ij out) []) p:=by
 have hi:=(List.getElem?_eq_some_iff.1 h).1;have e:=(List.getElem?_eq_some_iff.1 h).2;rw[List.take_succ_eq_append_getElem hi,List.foldl_append,e];rfl
def dl (l:Tb) (p:Pm):Tb:=if bX l p.1<l.length then l.set (bX l p.1) p else l++[p]
theorem oC (l:Tb) (p:Pm):(dl l p).length<=l.length+1:=by
 unfold dl
 split
 ·simp
 ·simp
theorem LN (l:Tb) (p:Pm):(dl l p)[bX l p.1]? =some p/\bX (dl l p) p.1=bX l p.1:=by
 have hle:=pm l p.1
 have h1:(dl l p)[bX l p.1]? =some p:=by
  unfold dl
  split
  ·rename_i h;simp[h]
  ·rename_i h
   have e:bX l p.1=l.length:=by omega
   simp[e]
 refine⟨h1,G3 h1 rfl fun j q hj hq=>?_⟩
 have h2:l[j]? =some q:=by
  unfold dl at hq
  split at hq
  ·rwa[List.getElem?_set_ne (by omega)]at hq
  ·rwa[List.getElem?_append_left (by omega)]at hq
 exact fX hj h2
theorem CY (l:Tb) (p:Pm):dl (dl l p) p=dl l p:=by
 obtain⟨h1,h2⟩:=LN l p;have h3:=(List.getElem?_eq_some_iff.1 h1).1;have e:dl (dl l p) p=if bX (dl l p) p.1<(dl l p).length then(dl l p).set (bX (dl l p) p.1) p else dl l p++[p]:=rfl
 rw[e,h2,if_pos h3];refine List.ext_getElem? fun i=>?_
 by_cases hi:bX l p.1=i
 ·subst hi;rw[List.getElem?_set_self h3,h1]
 ·rw[List.getElem?_set_ne hi]
def yC (l:Tb) (p:Pm):Tb × Int:=if(bf (dl l p)).2=0 then(dl l p,0)else([],(bf (dl l p)).2)
theorem PW {l m:Tb} {p:Pm} (h:yC l p=(m,0)):m=dl l p/\(bf m).2=0/\yC m p=(m,0):=by
 unfold yC at h
 split at h
 ·rename_i h0
  cases h;refine⟨rfl,h0,?_⟩;unfold yC;rw[CY,if_pos h0]
 ·rename_i h0
  injection h with h1 h2
  exact absurd h2 h0
def Bw (l:Tb) (n:L8):Tb × Int:=
 if gC l=0 then(if bX l n<l.length then(if(l.eraseIdx (bX l n)).any (fun p=>decide (n∈ej p.2))=true then([],14)else(l.eraseIdx (bX l n),0))else([],4))else([],gC l)
def P6 (f t:L8) (p:Pm):Pm:=(if p.1=f then t else p.1,mT f t p.2)
def Lp (l:Tb) (f t:L8):Tb × Int:=
 if gC l=0 then(if bX l f<l.length then(if n6 t=true then(if f≠t/\bX l t<l.length then([],5)else(l.map (P6 f t),0))else([],1))else([],4))else([],gC l)
structure vq (l:Tb) (n:L8) (out todo:List L8):Prop where
 nd:out.Nodup
 dep:∀x∈out,Bq l n x
 td:∀y∈todo,y=n∨y∈out
 cl:∀y,(y=n∨y∈out)->y∈todo∨ ∀p∈l,y∈ej p.2->p.1∈out
theorem vq.start (l:Tb) (n:L8):vq l n [] [n]:=⟨List.nodup_nil,fun x h=>(by cases h),fun y h=> .inl (List.mem_singleton.1 h),fun y h=> .inl (by rcases h with rfl|h;simp;cases h)⟩
def TM (t:L8) (s:List L8 × List L8) (p:Pm):List L8 × List L8:=if t∈ej p.2/\p.1 ∉ s.1 then(s.1++[p.1],s.2++[p.1])else s
theorem vq.step {l:Tb} {n t:L8} {out r:List L8} (h:vq l n out (t::r)) {p:Pm} (hp:p∈l):∃out' r',TM t (out,t::r) p=(out',t::r')/\vq l n out' (t::r')/\(∀x∈out,x∈out')/\(t∈ej p.2->p.1∈out')/\2*(l.length-out'.length)+r'.length<=2*(l.length-out.length)+r.length:=by
 unfold TM
 by_cases hc:t∈ej p.2/\p.1 ∉ out
 ·rw[if_pos hc]
  have hdp:Bq l n p.1:=by
   rcases h.td t (by simp)with rfl|ht
   ·exact .base hp hc.1
   ·exact .step hp hc.1 (h.dep t ht)
  have hnd:(out++[p.1]).Nodup:=by
   rw[List.nodup_append];refine⟨h.nd,List.nodup_cons.2 ⟨by simp,List.nodup_nil⟩,fun a ha b hb=>?_⟩;rw[List.mem_singleton.1 hb];exact fun e=>hc.2 (e ▸ ha)
  have hdep:∀x∈out++[p.1],Bq l n x:=fun x hx=>by
   rcases List.mem_append.1 hx with hx|hx
   ·exact h.dep x hx
   ·rw[List.mem_singleton.1 hx];exact hdp
  have hlen:=gZ (b:=l.map (·.1)) hnd fun x hx=>by
   obtain⟨q,hq,e⟩:=(hdep x hx).mem;exact List.mem_map.2 ⟨q,hq,e⟩
  simp only[List.length_append,List.length_cons,List.length_nil,List.length_map]at hlen
  refine⟨out++[p.1],r++[p.1],rfl,⟨hnd,hdep,fun y hy=>?_,fun y hy=>?_⟩,fun x hx=>by simp[hx],fun _=>by simp,by simp only[List.length_append,List.length_cons,List.length_nil];omega⟩
  ·simp only[List.mem_cons,List.mem_append,List.not_mem_nil,or_false]at hy ⊢
   rcases hy with rfl|hy|rfl
   ·rcases h.td y (by simp)with h1|h1
    ·exact .inl h1
    ·exact .inr (.inl h1)
   ·rcases h.td y (by simp[hy])with h1|h1
    ·exact .inl h1
    ·exact .inr (.inl h1)
   ·exact .inr (.inr rfl)
  ·by_cases e:y=p.1
   ·subst e;exact .inl (by simp)
   ·have hy':y=n∨y∈out:=by
     rcases hy with hy|hy
     ·exact .inl hy
     ·rcases List.mem_append.1 hy with hy|hy
      ·exact .inr hy
      ·exact absurd (List.mem_singleton.1 hy) e
    rcases h.cl y hy' with h1|h1
    ·refine .inl ?_
     rcases List.mem_cons.1 h1 with h1|h1
     ·simp[h1]
     ·simp[h1]
    ·exact .inr fun q hq hn=>List.mem_append_left _ (h1 q hq hn)
 ·rw[if_neg hc]
  exact⟨out,r,rfl,h,fun x hx=>hx,fun ht=>Classical.byContradiction fun hn=>hc ⟨ht,hn⟩,Nat.le_refl _⟩
theorem vq.next {l:Tb} {n t:L8} {out r:List L8} (h:vq l n out (t::r)) (hd:∀p∈l,t∈ej p.2->p.1∈out):vq l n out r:=
 ⟨h.nd,h.dep,fun y hy=>h.td y (by simp[hy]),fun y hy=>by
  rcases h.cl y hy with h1|h1
  ·rcases List.mem_cons.1 h1 with rfl|h1
   ·exact .inr hd
   ·exact .inl h1
  ·exact .inr h1⟩
theorem vq.full {l:Tb} {n:L8} {out:List L8} (h:vq l n out []):∀x,x∈out↔Bq l n x:=by
 refine fun x=>⟨h.dep x,fun hd=>?_⟩
 have key:∀y,(y=n∨y∈out)-> ∀p∈l,y∈ej p.2->p.1∈out:=fun y hy=>(h.cl y hy).resolve_left (by simp)
 induction hd with
 |base hp hn=>exact key _ (.inl rfl) _ hp hn
 |step hp hy _ ih=>exact key _ (.inr ih) _ hp hy
theorem BZ {l:List L8} (h:l.Nodup):sM (l.mergeSort fun x y=>decide (x<=y)):=by
 have h1:(l.mergeSort fun x y=>decide (x<=y)).Pairwise (fun a b=>decide (a<=b)=true):=List.pairwise_mergeSort (fun a b c h1 h2=>by
  simp only[sF,Bool.not_eq_true']at h1 h2 ⊢
  cases h3:Op.bytesLess c a
  ·rfl
  ·cases h4:Op.bytesLess b c
   ·have:=i8 h4 h2;subst this;rw[h1]at h3;cases h3
   ·rw[dX h4 h3]at h1;cases h1) (fun a b=>by
  simp only[sF,Bool.or_eq_true,Bool.not_eq_true']
  cases h3:Op.bytesLess b a
  ·exact .inl rfl
  ·refine .inr ?_
   cases h4:Op.bytesLess a b
   ·rfl
   ·have:=dX h3 h4;rw[gE]at this;cases this) l
 have h2:(l.mergeSort fun x y=>decide (x<=y)).Nodup:=(List.mergeSort_perm l _).nodup_iff.2 h;refine(List.Pairwise.and h1 h2).imp fun {a b} hab=>?_
 have h3:=hab.1;rw[sF,Bool.not_eq_true']at h3;cases h4:Op.bytesLess a b
 ·exact absurd (i8 h4 h3) hab.2
 ·rfl
theorem IK {l:List L8} {x:L8}:x∈l.mergeSort (fun x y=>decide (x<=y))↔x∈l:=(List.mergeSort_perm l _).mem_iff
def xn:List L8->L8->Nat
 | [],_=>0
 |y::r,n=>if Op.bytesLess y n=true then xn r n+1 else 0
theorem Ci:∀(l:List L8) (n:L8),xn l n<=l.length
 | [],_=>Nat.le_refl _
 |y::r,n=>by
  unfold xn
  split
  ·have:=Ci r n;simp;omega
  ·exact Nat.zero_le _
theorem G9:∀{l:List L8} {n:L8} {i:Nat} {x:L8},i<xn l n->l[i]? =some x->Op.bytesLess x n=true
 | [],n,i,x,_,h=>by simp at h
 |y::r,n,i,x,hi,h=>by
  unfold xn at hi
  split at hi
  ·rename_i hy
   cases i with
   |zero=>simp at h;subst h;exact hy
   |succ i=>exact G9 (l:=r) (n:=n) (i:=i) (by omega) (by simpa using h)
  ·omega
theorem I5:∀{l:List L8} {n:L8} {x:L8},l[xn l n]? =some x->Op.bytesLess x n=false
 | [],n,x,h=>by simp[xn]at h
 |y::r,n,x,h=>by
  unfold xn at h
  split at h
  ·exact I5 (l:=r) (by simpa using h)
  ·rename_i hy;simp at h;subst h;simpa using hy
def jc (l:List L8) (n:L8):List L8:=l.take (xn l n)++n::l.drop (xn l n)
theorem wC:∀(l:List L8) (n:L8),n ∉ l->jc l n=gx l n
 | [],n,_=>rfl
 |y::r,n,h=>by
  have hy:¬y=n:=fun e=>h (by simp[e])
  have ih:=wC r n (fun hn=>h (by simp[hn]));unfold jc at ih ⊢
  by_cases hb:Op.bytesLess y n=true
  ·rw[xn,if_pos hb,gx,if_pos hb,<- ih]
   rfl
  ·rw[xn,if_neg hb,gx,if_neg hb,if_neg hy]
   rfl
def Kh (l:List L8):List L8:=l.foldl jc []
theorem FJ {l:List L8} (h:l.Nodup):Kh l=gJ l:=by
 have key:∀(l acc:List L8),l.Nodup->(∀x∈l,x ∉ acc)->l.foldl jc acc=l.foldl gx acc:=by
  intro l
  induction l with
  |nil=>intro acc _ _;rfl
  |cons x r ih=>
   intro acc hnd hx
   simp only[List.foldl_cons]
   rw[wC acc x (hx x (by simp))];rw[List.nodup_cons]at hnd;refine ih _ hnd.2 fun y hy hya=>?_
   rcases nP.1 hya with rfl|hya
   ·exact hnd.1 hy
   ·exact hx y (by simp[hy]) hya
 exact key l [] h (fun x _ h=>by cases h)
def mg (J:Nat):List L8->TV
 | []=> .nil
 |a::r=> .own J (a::r).length 1 9
def nU:List L8->Option (List AV)
 | []=>none
 |a::r=>some (au (a::r))
theorem cL (l:List L8):(au l).length=l.length:=by simp[au]
theorem lh (a b:List L8):au (a++b)=au a++au b:=by simp[au]
theorem xw {l:List L8} {i:Nat} {x:L8} (h:l[i]? =some x):(au l)[i*1]? =some (.val (vL x)):=by simp[au,h]
theorem d4 {l:List L8} {i:Nat} {x:L8} (h:l[i]? =some x):∀(j:Nat) (a:AV),[AV.val (vL x)][j]? =some a->(au l)[i*1+j]? =some a:=fun j a hj=>by
 cases j with
 |zero=>cases hj;exact xw h
 |succ j=>cases hj
theorem rk:∀{cs:List AV},(∀a∈cs,∃l,a= .val (vL l))->a8 cs=true
 | [],_=>rfl
 |a::r,h=>by
  obtain⟨l,rfl⟩:=h a (by simp);have ih:=rk (cs:=r) (fun b hb=>h b (by simp[hb]))
  simp only[a8,ih]
  rfl
theorem rW {l:List L8} {a:AV} (h:a∈au l):∃x,a= .val (vL x):=by
 obtain⟨x,_,rfl⟩:=List.mem_map.1 h;exact⟨x,rfl⟩
theorem jd (l:List L8):a8 (au l)=true:=rk fun _ h=>rW h
theorem jY (t:List (Nat × TV)) (b:List (Nat × Option (List AV))) (q J:Nat) (l:List L8) (y:L8) (r:List L8):(⟨(q,mg J (l++y::r))::t,(J,nU (l++y::r))::b⟩:AS)=⟨(q, .own J (l.length+(y::r).length) 1 9)::t,(J,some ((au l).take (l.length*1)++au (y::r)))::b⟩:=by
 have e1:mg J (l++y::r)= .own J (l.length+(y::r).length) 1 9:=by
  cases l with
  |nil=>simp[mg]
  |cons a l=>simp[mg];omega
 have e2:nU (l++y::r)=some ((au l).take (l.length*1)++au (y::r)):=by
  rw[Nat.mul_one,List.take_of_length_le (Nat.le_of_eq (cL l)),<- lh];cases l<;>rfl
 rw[e1,e2]
theorem wU {args:List Rx} {i:Nat} (h:i<args.length):fR (args.take (i+1))=fR (args.take i)++ej args[i]:=by
 have app:∀a b:List Rx,fR (a++b)=fR a++fR b:=by
  intro a b
  induction a with
  |nil=>simp[fR]
  |cons x r ih=>simp[fR,ih]
 rw[List.take_add_one,app]
 simp[h,fR]
theorem AD:∀(l:List L8) (x:L8),(gx l x).length<=l.length+1
 | [],x=>by simp[gx]
 |y::r,x=>by
  have ih:=AD r x;unfold gx
  split
  ·simp only[List.length_cons];omega
  ·split <;>simp
theorem tL (l:List L8):(gJ l).length<=l.length:=by
 have:∀(l acc:List L8),(l.foldl gx acc).length<=acc.length+l.length:=by
  intro l
  induction l with
  |nil=>intro acc;simp
  |cons x l ih=>
   intro acc;have h1:=ih (gx acc x);have h2:=AD acc x;rw[List.foldl_cons,List.length_cons];omega
 have:=this l []
 simpa[gJ]using this
theorem ru:∀x,(ej x).length<=gL x:=by
 refine dq fun op na xs nb ys nm args ih=>?_
 have key:∀l:List Rx,(∀y∈l,(ej y).length<=gL y)->(fR l).length<=eB l:=by
  intro l
  induction l with
  |nil=>intro _;simp[fR]
  |cons y l ihl=>
   intro h;have h1:=h y (by simp);have h2:=ihl (fun z hz=>h z (by simp[hz]));rw[fR,eB,List.length_append];omega
 have h1:=key args ih;rw[ej,gL];refine Nat.le_trans (tL _) ?_;rw[List.length_append]
 split <;>simp <;>omega
theorem JD (l:List Rx):(fR l).length<=eB l:=by
 induction l with
 |nil=>simp[fR]
 |cons y l ihl=>
  have h1:=ru y;rw[fR,eB,List.length_append];omega
theorem mv (l:List Rx) (i:Nat):(fR (l.take i)).length<=eB l:=by
 have h:eB (l.take i)<=eB l:=by
  induction l generalizing i with
  |nil=>simp
  |cons y l ih=>
   cases i with
   |zero=>simp[eB]
   |succ i=>have:=ih i;simp only[List.take_succ_cons,eB];omega
 exact Nat.le_trans (JD _) h
theorem Lc {O:List L8} {x:L8} {k:Nat} (hk:k<O.length):(au O).take (k*1)++(([AV.val (vL x)].take (1*1)++((au O).drop (k*1)).take ((O.length-k)*1)).take ((1+(O.length-k))*1))=au (O.take k++x::O.drop k):=by
 simp only[Nat.mul_one]
 have h1:((au O).drop k).take (O.length-k)=(au O).drop k:=List.take_of_length_le (by rw[List.length_drop,cL];exact Nat.le_refl _);rw[h1,List.take_of_length_le (l:=_++_)]
 ·simp[au]
 ·simp[cL];omega
theorem JG (t:List (Nat × TV)) (b:List (Nat × Option (List AV))) (q J:Nat) (l:List L8) (h:l≠[]):(⟨(q,mg J l)::t,(J,nU l)::b⟩:AS)=⟨(q, .own J l.length 1 9)::t,(J,some (au l))::b⟩:=by
 cases l with
 |nil=>exact absurd rfl h
 |cons a r=>rfl
theorem CI {t:TypeId} {p q:Operand} {a b:L8} {v:Bool} (h:Op.bytesLess a b=v):m6 .lss t p q (vL a) (vL b)=some (.bool v):=by rw[wm,h]
theorem MP {O:List L8} {x:L8}:(au O).take (O.length*1)++([AV.val (vL x)].take (1*1))=au (O.take O.length++x::O.drop O.length):=by
 rw[Nat.mul_one,List.take_of_length_le (Nat.le_of_eq (cL O)),List.take_length,List.drop_length]
 simp[au]
theorem fN:∀x,j0 x->gL x<=1000000->aa Tryz.prog 55 [dR x] (.one (.leaf (.sl (ej x).length (au (ej x))))):=by
 refine dq fun op na xs nb ys nm args ih hx hs=>?_
 obtain⟨_,_,_,_,_,_,hargs⟩:=hx;rw[gL]at hs;have hge:=jC args;rw[ej]
 have hz:(if op=2 then [nm]else [])=cond (decide (op=2)) [nm] []:=by
  exact OT
 rw[hz];clear hz;have hbl:(cond (decide (op=2)) [nm] []).length<=1:=by cases decide (op=2)<;>simp
 generalize hb:decide (op=2)=b at *;obtain⟨al,hal⟩:∃al:Nat->List L8,∀i,al i=cond b [nm] []++fR (args.take i):=⟨_,fun _=>rfl⟩;have hal0:al 0=cond b [nm] []:=by rw[hal];simp[fR]
 have hall:∀i,(al i).length<=1000000:=fun i=>by
  have:=mv args i;rw[hal,List.length_append];omega
 have hsn:∀i (h:i<args.length),al (i+1)=al i++ej args[i]:=fun i h=>by rw[hal,hal,wU h,List.append_assoc]
 have hend:cond b [nm] []++fR args=al args.length:=by rw[hal,List.take_length]
 rw[hend];have hlenA:=hall args.length;obtain⟨A,hA0⟩:∃A,al args.length=A:=⟨_,rfl⟩;rw[hA0]at hlenA ⊢;obtain⟨ou,hou⟩:∃ou:Nat->List L8,∀i,ou i=(A.take i).foldl gx []:=⟨_,fun _=>rfl⟩;have hou0:ou 0=[]:=by rw[hou];rfl
 have hos:∀i (h:i<A.length),ou (i+1)=gx (ou i) A[i]:=fun i h=>by
  rw[hou,hou,List.take_add_one,List.foldl_append]
  simp[h]
 have hol:∀i,(ou i).length<=1000000:=fun i=>by
  have:=tL (A.take i);have h2:=List.length_take_le i A;rw[hou];unfold gJ at this;have h3:(A.take i).length<=A.length:=by rw[List.length_take];omega
  omega
 have hoe:gJ A=ou A.length:=by rw[hou,List.take_length];rfl
 rw[hoe];refine CK ?_;refine kU func55 ?_;refine kR ?_;refine kR ?_;refine j3 ⟨[(3,mg 5001 (al 0)),(1, .box 0 0),(2, .nil)],[(5001,nU (al 0)),(0,some (ab op na xs nb ys nm args.length (db args)))]⟩ (fun s' hw2=>?_) (fun R hR _=>?_)
 ·clear hb hal hal0 hend
  refine j3 ⟨[(3, .d (.leaf (.sl A.length (au A)))),(2, .nil)],[]⟩ (fun s' hw3=>?_) (fun R hR _=>?_)
  ·refine bW hw3 rfl ?_
   refine kW ?_
   refine aq Nat (fun i=>i<=A.length) (fun i=>⟨[(5,mg 16001 (ou i)),(3, .d (.leaf (.sl A.length (au A)))),(2, .nil),(6, .d (dN .i64 i))],[(16001,nU (ou i))]⟩) (fun i=>A.length-i) 0 (Nat.zero_le _)
    (by dsimp only;rw[hou0];exact weak ⟨rfl,rfl,rfl,rfl,trivial⟩ trivial rfl) ?_
   intro i hi;have hO1:=hol i
   by_cases hlt:i<A.length
   ·have hsi:=hos i hlt
    have hxx:A[i]? =some A[i]:=by simp[hlt]
    generalize A[i]=x at *;generalize ou i=O at *;cases O with
    |nil=>
     refine xr ?_;refine kW ?_;refine aq Nat (fun k=>k=0) (fun k=>⟨[(7, .d (dN .i64 0)),(5, .nil),(3, .d (.leaf (.sl A.length (au A)))),(2, .nil),(6, .d (dN .i64 i))],[]⟩) (fun k=>k) 0 rfl kw ?_;rintro k rfl;refine kW ?_;refine LS ac rfl rfl rfl rfl rfl rfl rfl rfl ?_;refine I2 ?_;refine Ix ?_;refine wk ac rfl rfl rfl rfl rfl rfl rfl rfl ?_;refine th ?_;refine sY 16004 (m1:=0) (m2:=1) ac (by decide) (by decide) (Nat.le_of_ble_eq_true rfl) rfl rfl rfl rfl rfl rfl rfl rfl rfl (.nil rfl rfl) rfl rfl rfl rfl rfl ?_;refine qW ?_;rw[hsi]
     exact bu.trans (b:=⟨[(5, .own 16004 1 1 9),(3, .d (.leaf (.sl A.length (au A)))),(2, .nil),(6, .d (dN .i64 (i+1:Nat)))],[(16004,some [.val (vL x)])]⟩) (weak ⟨rfl,rfl,rfl,ae (by omega) (by omega),trivial⟩ ⟨rfl,trivial⟩ rfl) ((aD (q:=5) (j:=16004) (j':=16001) rfl rfl rfl rfl).trans kw)
    |cons a r=>
     refine xr ?_;refine kW ?_;refine aq Nat (fun k=>k<=(a::r).length/\ ∀(q:Nat) y,q<k->(a::r)[q]? =some y->Op.bytesLess y x=true) (fun k=>⟨[(7, .d (dN .i64 k)),(5, .own 16001 (a::r).length 1 9),(3, .d (.leaf (.sl A.length (au A)))),(2, .nil),(6, .d (dN .i64 i))],[(16001,some (au (a::r)))]⟩) (fun k=>(a::r).length-k) 0 ⟨Nat.zero_le _,fun q y h=>absurd h (Nat.not_lt_zero _)⟩ kw ?_;rintro k ⟨hk,hq⟩;have hat0:=Dz (l:=a::r) (x:=x) hk hq
     by_cases hko:k<(a::r).length
     ·have hy:(a::r)[k]? =some (a::r)[k]:=by simp[hko]
      generalize(a::r)[k]=y at *;refine xr ?_;refine OE ?_;refine I2 ?_;cases hbx:Op.bytesLess y x
      ·have hat0:=hat0 (fun z hz=>by rw[hy]at hz;cases hz;exact hbx)
       refine aC rfl rfl rfl rfl rfl rfl rfl (CI (a:=y) (b:=x) hbx) ?_;refine jR ?_;refine xr ?_;refine OE ?_;refine I2 ?_
       by_cases e:y=x
       ·refine aC rfl rfl rfl rfl rfl rfl rfl (bn (a:=y) (b:=x) e) ?_
        refine qW ?_;rw[hsi,hat0,if_pos (by rw[hy,e])];exact weak ⟨rfl,rfl,rfl,ae (by omega) (by omega),trivial⟩ ⟨rfl,trivial⟩ rfl
       ·have hnew:gx (a::r) x=(a::r).take k++x::(a::r).drop k:=by rw[hat0,if_neg (fun h=>e (by rw[hy]at h;cases h;rfl))]
        have hne:(a::r).take k++x::(a::r).drop k≠[]:=by simp
        have hcont:=Lc (O:=a::r) (x:=x) hko;have hlenE:k+(1+((a::r).length-k))=((a::r).take k++x::(a::r).drop k).length:=by simp at hk ⊢;omega
        have hst:(⟨[(5,mg 16001 (ou (i+1))),(3, .d (.leaf (.sl A.length (au A)))),(2, .nil),(6, .d (dN .i64 (i+1:Nat)))],[(16001,nU (ou (i+1)))]⟩:AS)=⟨[(5, .own 16001 (k+(1+((a::r).length-k))) 1 9),(3, .d (.leaf (.sl A.length (au A)))),(2, .nil),(6, .d (dN .i64 (i+1:Nat)))],[(16001,some ((au (a::r)).take (k*1)++(([AV.val (vL x)].take (1*1)++((au (a::r)).drop (k*1)).take (((a::r).length-k)*1)).take ((1+((a::r).length-k))*1))))]⟩:=by rw[hsi,hnew,JG _ _ _ _ _ hne,hcont,hlenE]
        refine aC rfl rfl rfl rfl rfl rfl rfl (bH (a:=y) (b:=x) e) ?_;refine O9 ?_;refine Ev ac (i:=k) (Nat.le_of_lt hko) rfl rfl rfl rfl rfl rfl rfl rfl rfl ?_;refine I2 ?_;refine Ix ?_;refine l7 ac (i:=k) hko rfl rfl rfl rfl rfl rfl rfl rfl rfl ?_;refine PK 16003 (m1:=1) (m2:=(a::r).length-k) (p:=k) ac (Nat.sub_pos_of_lt hko) (Nat.le_trans (Nat.mul_le_mul_right _ (show 1+((a::r).length-k)<=1000001 by omega)) (by decide)) (by rw[cL];omega) rfl rfl rfl rfl rfl rfl rfl rfl rfl (.own rfl rfl) rfl rfl rfl (by rw[rk (fun b hb=>rW (List.mem_of_mem_drop (List.mem_of_mem_take hb)))];rfl) rfl ?_
        refine sY 16004 (m1:=k) (m2:=1+((a::r).length-k)) ac (by omega) (Nat.le_trans (Nat.mul_le_mul_right _ (show k+(1+((a::r).length-k))<=1000001 by omega)) (by decide)) (by simp[cL];omega) rfl rfl rfl rfl rfl rfl rfl rfl rfl (.own rfl rfl) rfl rfl rfl (by rw[rk (fun b hb=>(List.mem_append.1 (List.mem_of_mem_take hb)).elim (fun h=>⟨x,by simpa using h⟩) fun h=>rW (List.mem_of_mem_drop (List.mem_of_mem_take h)))];rfl) rfl ?_;refine qW ?_
        exact Eq.mpr (congrArg (bu _) hst) (bu.trans (b:=⟨[(5, .own 16004 (k+(1+((a::r).length-k))) 1 9),(3, .d (.leaf (.sl A.length (au A)))),(2, .nil),(6, .d (dN .i64 (i+1:Nat)))],[(16004,some ((au (a::r)).take (k*1)++(([AV.val (vL x)].take (1*1)++((au (a::r)).drop (k*1)).take (((a::r).length-k)*1)).take ((1+((a::r).length-k))*1))))]⟩) (weak ⟨rfl,rfl,rfl,ae (by omega) (by omega),trivial⟩ ⟨rfl,trivial⟩ rfl) ((aD (q:=5) (j:=16004) (j':=16001) rfl rfl rfl rfl).trans kw))
      ·refine aC rfl rfl rfl rfl rfl rfl rfl (CI (a:=y) (b:=x) hbx) ?_
       refine kW ?_
       exact⟨k+1,⟨hko,fun q z h1 h2=>by
        by_cases e:q=k
        ·subst e;rw[hy]at h2;cases h2;exact hbx
        ·exact hq q z (by omega) h2⟩,by omega,weak ⟨ae (by omega) (by omega),rfl,rfl,rfl,rfl,trivial⟩ ⟨rfl,trivial⟩ rfl⟩
     ·obtain rfl:k=(a::r).length:=by omega
      have hno:(a::r)[(a::r).length]? =none:=List.getElem?_eq_none (Nat.le_refl _);have hat0:=hat0 (fun z hz=>by rw[hno]at hz;cases hz);have hnew:gx (a::r) x=(a::r).take (a::r).length++x::(a::r).drop (a::r).length:=by rw[hat0,if_neg (fun h=>by rw[hno]at h;cases h)]
      have hne:(a::r).take (a::r).length++x::(a::r).drop (a::r).length≠[]:=by simp
      have hcont:=MP (O:=a::r) (x:=x);have hlenE:(a::r).length+1=((a::r).take (a::r).length++x::(a::r).drop (a::r).length).length:=by simp
      have hst:(⟨[(5,mg 16001 (ou (i+1))),(3, .d (.leaf (.sl A.length (au A)))),(2, .nil),(6, .d (dN .i64 (i+1:Nat)))],[(16001,nU (ou (i+1)))]⟩:AS)=⟨[(5, .own 16001 ((a::r).length+1) 1 9),(3, .d (.leaf (.sl A.length (au A)))),(2, .nil),(6, .d (dN .i64 (i+1:Nat)))],[(16001,some ((au (a::r)).take ((a::r).length*1)++([AV.val (vL x)].take (1*1))))]⟩:=by rw[hsi,hnew,JG _ _ _ _ _ hne,hcont,hlenE]
      refine pA ?_;refine jR ?_;refine pA ?_;refine O9 ?_;refine Ev ac (i:=(a::r).length) (Nat.le_refl _) rfl rfl rfl rfl rfl rfl rfl rfl rfl ?_;refine I2 ?_;refine Ix ?_;refine zM ac rfl rfl rfl rfl rfl rfl rfl rfl rfl ?_;refine th ?_;refine sY 16004 (m1:=(a::r).length) (m2:=1) ac (by decide) (Nat.le_trans (Nat.mul_le_mul_right _ (show(a::r).length+1<=1000001 by omega)) (by decide)) (Nat.le_of_ble_eq_true rfl) rfl rfl rfl rfl rfl rfl rfl rfl rfl (.own rfl rfl) rfl rfl rfl rfl rfl ?_;refine qW ?_
      exact Eq.mpr (congrArg (bu _) hst) (bu.trans (b:=⟨[(5, .own 16004 ((a::r).length+1) 1 9),(3, .d (.leaf (.sl A.length (au A)))),(2, .nil),(6, .d (dN .i64 (i+1:Nat)))],[(16004,some ((au (a::r)).take ((a::r).length*1)++([AV.val (vL x)].take (1*1))))]⟩) (weak ⟨rfl,rfl,rfl,ae (by omega) (by omega),trivial⟩ ⟨rfl,trivial⟩ rfl) ((aD (q:=5) (j:=16004) (j':=16001) rfl rfl rfl rfl).trans kw))
   ·have hO:ou A.length=ou i:=by rw[show i=A.length by omega]
    generalize ou i=O at *;refine pA ?_;refine jR ?_;cases O with
    |nil=>
     refine iT ?_;rw[hO];rfl
    |cons a r=>
     refine bM (T:=TT) ?_;refine bW (a7 (q:=5) rfl rfl) rfl ?_;refine iT ?_;rw[hO];rfl
  ·refine bM (T:=TT) ?_
   refine bW hw2 rfl ?_;refine kW ?_
   refine aq Nat (fun i=>i<=args.length) (fun i=>⟨[(3,mg 5001 (al i)),(1, .box 0 0),(2, .nil),(4, .d (dN .i64 i))],[(5001,nU (al i)),(0,some (ab op na xs nb ys nm args.length (db args)))]⟩) (fun i=>args.length-i) 0 (Nat.zero_le _)
    (by dsimp only;generalize al 0=B;cases B<;>first|exact weak ⟨rfl,rfl,rfl,rfl,trivial⟩ ⟨rfl,trivial⟩ rfl|exact weak ⟨rfl,rfl,rfl,rfl,trivial⟩ ⟨rfl,rfl,trivial⟩ rfl) ?_
   intro i hi
   by_cases hlt:i<args.length
   ·obtain⟨o1,na1,xs1,nb1,ys1,nm1,n1,cs1,hA⟩:=bz args[i]
    have hx:args[i]? =some args[i]:=by simp[hlt]
    have hat:∀(j:Nat) (a:AV),(ab o1 na1 xs1 nb1 ys1 nm1 n1 cs1)[j]? =some a->(db args)[i*7+j]? =some a:=fun j a h=>fq args i args[i] hx j a (by rw[hA];exact h)
    have c:=ih args[i] (List.getElem_mem hlt) (hargs _ (List.getElem_mem hlt)) (by have:=jB (List.getElem_mem hlt);omega);rw[show dR args[i]= .agg (ab o1 na1 xs1 nb1 ys1 nm1 n1 cs1) from congrArg DV.agg hA]at c;have hsi:=hsn i hlt;have hl2:=hall (i+1);rw[hsi]at hl2;generalize ej args[i]=Y at *;generalize al i=B at *;cases B with
    |nil=>
     cases Y with
     |nil=>
      refine vV ?_;refine mw ?_;refine Er ?_;refine qW ?_;rw[hsi];exact weak ⟨rfl,rfl,rfl,ae (by omega) (by omega),trivial⟩ ⟨rfl,trivial⟩ rfl
     |cons y r=>
      refine vV ?_;refine mw ?_;refine cY 5002 (m1:=0) (m2:=(y::r).length) ac (Nat.succ_pos _) (Nat.le_trans (Nat.mul_le_mul_right _ (show 0+(y::r).length<=1000000 by simp at hl2 ⊢;omega)) (by decide)) (by simp[au]) rfl rfl rfl rfl rfl rfl rfl rfl rfl rfl (.nil rfl rfl) rfl rfl (by rw[jd];rfl) ?_;refine qW ?_;rw[hsi]
      refine Eq.mpr (congrArg (bu _) (jY [(1, .box 0 0),(2, .nil),(4, .d (dN .i64 (i+1:Nat)))] [(0,some (ab op na xs nb ys nm args.length (db args)))] 3 5001 ([]:List L8) y r)) (bu.trans (b:=⟨[(3, .own 5002 (0+(y::r).length) 1 9),(1, .box 0 0),(2, .nil),(4, .d (dN .i64 (i+1:Nat)))],[(5002,some ((au ([]:List L8)).take (0*1)++au (y::r))),(0,some (ab op na xs nb ys nm args.length (db args)))]⟩) (weak ⟨rfl,rfl,rfl,ae (by omega) (by omega),trivial⟩ ⟨rfl,rfl,trivial⟩ rfl) ((aD (q:=3) (j:=5002) (j':=5001) rfl rfl rfl rfl).trans kw))
    |cons a B=>
     cases Y with
     |nil=>
      refine vV ?_;refine mw ?_;refine th ?_;refine qW ?_;rw[hsi,List.append_nil];exact weak ⟨rfl,rfl,rfl,ae (by omega) (by omega),trivial⟩ ⟨rfl,rfl,trivial⟩ rfl
     |cons y r=>
      refine vV ?_;refine mw ?_;refine cY 5002 (m1:=(a::B).length) (m2:=(y::r).length) ac (Nat.succ_pos _) (Nat.le_trans (Nat.mul_le_mul_right _ (show(a::B).length+(y::r).length<=1000000 by simp at hl2 ⊢;omega)) (by decide)) (by simp[au]) rfl rfl rfl rfl rfl rfl rfl rfl rfl rfl (.own rfl rfl) rfl rfl (by rw[jd];rfl) ?_;refine qW ?_;rw[hsi]
      refine Eq.mpr (congrArg (bu _) (jY [(1, .box 0 0),(2, .nil),(4, .d (dN .i64 (i+1:Nat)))] [(0,some (ab op na xs nb ys nm args.length (db args)))] 3 5001 (a::B) y r)) (bu.trans (b:=⟨[(3, .own 5002 ((a::B).length+(y::r).length) 1 9),(1, .box 0 0),(2, .nil),(4, .d (dN .i64 (i+1:Nat)))],[(5002,some ((au (a::B)).take ((a::B).length*1)++au (y::r))),(0,some (ab op na xs nb ys nm args.length (db args)))]⟩) (weak ⟨rfl,rfl,rfl,ae (by omega) (by omega),trivial⟩ ⟨rfl,rfl,trivial⟩ rfl) ((aD (q:=3) (j:=5002) (j':=5001) rfl rfl rfl rfl).trans kw))
   ·have hO:A=al i:=by rw[show i=args.length by omega,hA0]
    rw[hO]at hR;generalize al i=B at *;cases B with
    |nil=>
     refine kI ?_
     refine kO4 ?_
     refine kE ?_;refine jR ?_;exact hR _ (bu.trans (b:=⟨[(3, .nil),(2, .nil)],[]⟩) kw ((kP (q:=3) rfl).trans kw))
    |cons a r=>
     refine kI ?_
     refine kO4 ?_
     refine kE ?_;refine jR ?_;exact hR _ (bu.trans (b:=⟨[(3, .own 5001 (a::r).length 1 9),(2, .nil)],[(5001,some (au (a::r)))]⟩) kw ((a7 (q:=3) rfl rfl).trans kw))
 ·exact Ng
end Go.Proofs.YtmkggcjajcdlcaaGreatDoor
