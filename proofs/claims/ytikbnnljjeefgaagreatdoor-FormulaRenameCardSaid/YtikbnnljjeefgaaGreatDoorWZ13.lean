/- Parts of a proof: contracts of the functions that the laws reach. -/
import Derived.Test.YtikbnnljjeefgaaGreatDoorWZ12
import Derived.Test.YtikbnnljjeefgaaGreatDoorWZ6
import Derived.ChangeMaps5
import Derived.Shelf.Slices.CompactS
import Derived.Sort.Walk0
import Derived.Test.YtikbnnljjeefgaaGreatDoorWZ10
import Derived.Test.YtikbnnljjeefgaaGreatDoorWShelf
import Derived.Lib.RowBridge
import Derived.Test.YtikbnnljjeefgaaGreatDoorWZ3
import Derived.Test.YtikbnnljjeefgaaGreatDoorWZ7
set_option maxHeartbeats 100000000
set_option linter.all false
open Go.Proofs.Tryz
namespace Go.Proofs.YtikbnnljjeefgaaGreatDoor
open Go.RowKit
theorem jq (x:Rx) (hx:nu x):aa Tryz.prog 11 [dR x] (.one (dB (decide (sd x 120≤120) && vH x))):=by
 have c1:=En x hx 120 (by decide);have c2:=EG x hx;have hn:=og x 120;obtain⟨o1,na1,xs1,nb1,ys1,nm1,n1,cs1,hA⟩:=au x;rw[show dR x= .agg (ac o1 na1 xs1 nb1 ys1 nm1 n1 cs1) from congrArg DV.agg hA]at c1 c2 ⊢;generalize sd x 120=k at *
 by_cases hk:k≤120
 ·rw[decide_eq_true hk,Bool.true_and]
  refine kV func11 ?_;refine kC (c1) ?_;refine kX ?_;refine kC (c2) ?_;exact kF
 ·rw[decide_eq_false hk,Bool.false_and]
  refine kV func11 ?_;refine kC (c1) ?_;refine kE ?_;exact kF
inductive J0:Rx→Prop
 |mk {op:Int} {na:Bool} {xs:List Nat} {nb:Bool} {ys:List Nat} {nm:List UInt8} {args:List Rx}:xs.length≤510→ys.length≤510→nm.length≤65536→(∀x∈args,J0 x)→J0 (.mk op na xs nb ys nm args)
theorem J0.of_lt:∀x,vH x=true→J0 x:=by
 refine dx fun op na xs nb ys nm args ih hlt=>?_
 rw[vH,Bool.and_eq_true,Bool.and_eq_true,Bool.and_eq_true,decide_eq_true_eq,decide_eq_true_eq,decide_eq_true_eq]at hlt;obtain⟨hla,⟨l1,l2⟩,l3⟩:=hlt;exact .mk (by omega) (by omega) (by omega) fun y hy=>ih y hy (m4 hla y hy)
section
open Go.ChangeShapes Go.WideShapes Go.ChangeAt Go.RowKit Go.Joins
theorem wh {H:Type} {enc:TypeId × Value→H} {W:World} {P:Program} {L:List TypeId} (hL:u6 P L=true) {t:TypeId} (ht:t∈L) {fs:Array Field} (hu:P.underlying t=some (.struct fs)) {r:Reach} {b0:Nat} {v:Value} {d:DataW H} {p:List MemPlace} (hv:Value.okWide P W r b0 t v) (h:DataW.Trod enc P W 0 (fun _=>true) true t v d p):
 ∃n cs,DV.M (fun _=>False) W (.agg cs) v∧Sh P n t cs:=by
 obtain⟨cs,rfl,_⟩:=okWide_struct hu hv;obtain⟨n,xs,h1,h2⟩:=FO hL ht h;exact⟨n,xs,Iq h1,h2⟩
def JA:List TypeId:=[29,26,24,4,22,82,3,9,27]
theorem Dn:u6 Tryz.prog JA=true:=by kernel_rfl
set_option maxRecDepth 100000 in
theorem nJ {H:Type} {enc:TypeId × Value→H} {W:World} {r:Reach} {b0:Nat} {v:Value} {d:DataW H} {p:List MemPlace} (hv:Value.okWide Tryz.prog W r b0 29 v) (h:DataW.Trod enc Tryz.prog W 0 (fun _=>true) true 29 v d p):
 ∃x,DV.M (fun _=>False) W (dR x) v∧nu x:=by
 obtain⟨n,cs,h1,h2⟩:=wh Dn (by decide) underlying29 hv h;obtain⟨x,rfl,h3⟩:=Gb n cs h2;exact⟨x,h1,h3⟩
end
theorem pu:∀l:List Rx,l.length≤iw l
 | []=>Nat.zero_le _
 |y::r=>by
  have:=pu r;cases y
  simp only[iw,jm,List.length_cons]
  omega
abbrev L8:=List UInt8
theorem An (x y:L8):decide (x≤y)=!Op.bytesLess y x:=by
 rw[bytesLess_eq];show decide (¬y<x)=_;rw[decide_not]
def wi (l:List L8):Prop:=l.Pairwise fun a b=>Op.bytesLess a b=true
theorem Ae:∀{a b:List L8},wi a→wi b→(∀x,x∈a↔x∈b)→a=b
 | [],[],_,_,_=>rfl
 | [],y::b,_,_,h=>absurd ((h y).2 (by simp)) (by simp)
 |x::a,[],_,_,h=>absurd ((h x).1 (by simp)) (by simp)
 |x::a,y::b,ha,hb,h=>by
  have ha:=List.pairwise_cons.1 ha;have hb:=List.pairwise_cons.1 hb
  have e:x=y:=by
   rcases List.mem_cons.1 ((h x).1 (by simp))with e|hx
   ·exact e
   ·rcases List.mem_cons.1 ((h y).2 (by simp))with e|hy
    ·exact e.symm
    ·have:=i6 (ha.1 y hy) (hb.1 x hx)
     rw[qn]at this;cases this
  subst e
  congr 1
  refine Ae ha.2 hb.2 fun z=>⟨fun hz=>?_,fun hz=>?_⟩
  ·rcases List.mem_cons.1 ((h z).1 (List.mem_cons_of_mem _ hz))with rfl|hz'
   ·have:=ha.1 z hz;rw[qn]at this;cases this
   ·exact hz'
  ·rcases List.mem_cons.1 ((h z).2 (List.mem_cons_of_mem _ hz))with rfl|hz'
   ·have:=hb.1 z hz;rw[qn]at this;cases this
   ·exact hz'
def iE:List L8→L8→List L8
 | [],x=>[x]
 |y::r,x=>if Op.bytesLess y x=true then y::iE r x else if y=x then y::r else x::y::r
theorem pO:∀{l:List L8} {x z:L8},z∈iE l x↔z=x∨z∈l
 | [],x,z=>by simp[iE]
 |y::r,x,z=>by
  have ih:=pO (l:=r) (x:=x) (z:=z);unfold iE
  split
  ·simp only[List.mem_cons,ih]
   constructor
   ·rintro(h|h|h)
    ·exact .inr (.inl h)
    ·exact .inl h
    ·exact .inr (.inr h)
   ·rintro(h|h|h)
    ·exact .inr (.inl h)
    ·exact .inl h
    ·exact .inr (.inr h)
  ·split
   ·rename_i e
    subst e
    simp only[List.mem_cons]
    constructor
    ·exact fun h=> .inr h
    ·rintro(h|h)
     ·exact .inl h
     ·exact h
   ·simp only[List.mem_cons]
theorem xz:∀{l:List L8} {x:L8},wi l→wi (iE l x)
 | [],x,_=>List.pairwise_singleton _ _
 |y::r,x,h=>by
  have h':=List.pairwise_cons.1 h;unfold iE
  split
  ·rename_i hy
   refine List.pairwise_cons.2 ⟨fun z hz=>?_,xz h'.2⟩;rcases pO.1 hz with rfl|hz
   ·exact hy
   ·exact h'.1 z hz
  ·split
   ·exact h
   ·rename_i h1 h2
    have hxy:Op.bytesLess x y=true:=by
     cases hb:Op.bytesLess x y
     ·exact absurd (qu (by simpa using h1) hb) h2
     ·rfl
    refine List.pairwise_cons.2 ⟨fun z hz=>?_,h⟩;rcases List.mem_cons.1 hz with rfl|hz
    ·exact hxy
    ·exact i6 hxy (h'.1 z hz)
def jM (l:List L8):List L8:=l.foldl iE []
theorem oa:∀(l acc:List L8),wi acc→wi (l.foldl iE acc)∧ ∀z,z∈l.foldl iE acc↔z∈acc∨z∈l
 | [],acc,h=>⟨h,fun z=>by simp⟩
 |x::l,acc,h=>by
  obtain⟨h1,h2⟩:=oa l (iE acc x) (xz h);refine⟨h1,fun z=>?_⟩;rw[List.foldl_cons,h2,pO,List.mem_cons]
  constructor
  ·rintro((h|h)|h)
   ·exact .inr (.inl h)
   ·exact .inl h
   ·exact .inr (.inr h)
  ·rintro(h|h|h)
   ·exact .inl (.inr h)
   ·exact .inl (.inl h)
   ·exact .inr h
theorem yz (l:List L8):wi (jM l):=(oa l [] List.Pairwise.nil).1
theorem pK (l:List L8) (z:L8):z∈jM l↔z∈l:=by
 rw[jM,(oa l [] List.Pairwise.nil).2]
 simp
theorem Ad:∀{l:List L8} {x:L8} {k:Nat},k≤l.length→(∀(q:Nat) y,q<k→l[q]? =some y→Op.bytesLess y x=true)→(∀y,l[k]? =some y→Op.bytesLess y x=false)→iE l x=if l[k]? =some x then l else l.take k++x::l.drop k
 | [],x,k,hk,_,_=>by
  obtain rfl:k=0:=by simpa using hk
  rfl
 |y::r,x,0,_,_,h=>by
  have hy:=h y rfl;unfold iE;rw[if_neg (by rw[hy];decide)]
  by_cases e:y=x
  ·subst e;simp
  ·simp[e]
 |y::r,x,k+1,hk,hq,h=>by
  have ih:=Ad (l:=r) (x:=x) (k:=k) (by simpa using hk) (fun q z h1 h2=>hq (q+1) z (by omega) (by simpa using h2)) (fun z hz=>h z (by simpa using hz));unfold iE;rw[if_pos (hq 0 y (by omega) rfl),ih]
  simp only[List.getElem?_cons_succ,List.take_succ_cons,List.drop_succ_cons]
  split <;>rfl
theorem ur (l:List L8) (x:L8):Lib.compact (l++[x])=Lib.compact l++if l.getLast? =some x then []else [x]:=by
 unfold Lib.compact;have hlen:(l++[x]).length=l.length+1:=by simp
 rw[hlen,Lib.compactUpTo_succ]
 have hg:∀j,j<l.length→(l++[x]).toArray[j]! =l.toArray[j]!:=fun j hj=>by
  rw[getElem!_pos _ j (by simp;omega),getElem!_pos _ j (by simpa using hj)]
  simp[List.getElem_append_left hj]
 congr 1
 ·unfold Lib.compactUpTo
  have hk:∀j∈List.range l.length,Lib.keeps (l++[x]).toArray j=Lib.keeps l.toArray j:=fun j hj=>by
   have hj:=List.mem_range.1 hj;unfold Lib.keeps;rw[hg j hj];cases j with
   |zero=>simp
   |succ j=>rw[show j+1-1=j from rfl,hg j (by omega)]
  rw[List.filter_congr hk];refine List.map_congr_left fun j hj=>?_
  exact hg j (List.mem_range.1 (List.mem_filter.1 hj).1)
 ·have hx:(l++[x]).toArray[l.length]! =x:=by
   rw[getElem!_pos _ _ (by simp)]
   simp
  rw[hx]
  by_cases h0:l=[]
  ·subst h0
   rfl
  ·have hp:0<l.length:=List.length_pos_iff.2 h0
   have hlast:l.getLast? =some ((l++[x]).toArray[l.length-1]!):=by
    rw[hg _ (by omega),getElem!_pos _ _ (by simpa using by omega),List.getLast?_eq_getElem?]
    simp[hp]
   rw[hlast];unfold Lib.keeps;rw[hx]
   by_cases e:(l++[x]).toArray[l.length-1]! =x
   ·rw[if_neg,if_pos (by rw[e])]
    rw[decide_eq_true_eq];rintro(h|h)
    ·omega
    ·exact h e.symm
   ·rw[if_pos,if_neg (fun h=>e (Option.some.inj h))]
    rw[decide_eq_true_eq];exact .inr fun h=>e h.symm
theorem yo:∀(n:Nat) (l:List L8),l.length=n→l.Pairwise (fun a b=>Op.bytesLess b a=false)→wi (Lib.compact l)∧ ∀z,z∈Lib.compact l↔z∈l:=by
 intro n
 induction n with
 |zero=>
  intro l hl _;obtain rfl:=List.eq_nil_of_length_eq_zero hl;exact⟨List.Pairwise.nil,fun z=>Iff.rfl⟩
 |succ n ih=>
  intro l hl hp;obtain⟨l,x,rfl⟩:∃l' x,l=l'++[x]:=⟨l.dropLast,l.getLast (by intro e;rw[e]at hl;cases hl),(List.dropLast_concat_getLast _).symm⟩;have hl':l.length=n:=by simpa using hl
  obtain⟨hp1,_,hp2⟩:=List.pairwise_append.1 hp;obtain⟨h1,h2⟩:=ih l hl' hp1;rw[ur]
  by_cases e:l.getLast? =some x
  ·rw[if_pos e,List.append_nil]
   refine⟨h1,fun z=>?_⟩;rw[h2,List.mem_append,List.mem_singleton]
   constructor
   ·exact .inl
   ·rintro(h|rfl)
    ·exact h
    ·exact List.mem_of_getLast? e
  ·rw[if_neg e]
   refine⟨List.pairwise_append.2 ⟨h1,List.pairwise_singleton _ _,fun a ha b hb=>?_⟩,fun z=>?_⟩
   ·rw[List.mem_singleton.1 hb]
    have ha:=(h2 a).1 ha
    obtain⟨y,hy⟩:∃y,l.getLast? =some y:=by
     cases hl:l.getLast? with
     |none=>rw[List.getLast?_eq_none_iff.1 hl]at ha;cases ha
     |some y=>exact⟨y,rfl⟩
    have hyl:=List.mem_of_getLast? hy
    have hyx:Op.bytesLess y x=true:=by
     cases hb2:Op.bytesLess y x
     ·exact absurd (by rw[hy,qu hb2 (hp2 y hyl x (by simp))]) e
     ·rfl
    by_cases ey:a=y
    ·rw[ey];exact hyx
    ·have hay:Op.bytesLess y a=false:=by
      obtain⟨l2,rfl⟩:∃l2,l=l2++[y]:=by
       refine⟨l.dropLast,?_⟩;have:=List.getLast?_eq_some_iff.1 hy;obtain⟨ys,rfl⟩:=this
       simp
      rcases List.mem_append.1 ha with ha|ha
      ·exact(List.pairwise_append.1 hp1).2.2 a ha y (by simp)
      ·exact absurd (List.mem_singleton.1 ha) ey
     have hya:Op.bytesLess a y=true:=by
      cases hb3:Op.bytesLess a y
      ·exact absurd (qu hb3 hay) ey
      ·rfl
     exact i6 hya hyx
   ·rw[List.mem_append,h2,List.mem_append]
theorem mZ (l:List L8):Lib.compact (l.mergeSort fun x y=>decide (x≤y))=jM l:=by
 have hs:(l.mergeSort fun x y=>decide (x≤y)).Pairwise (fun a b=>Op.bytesLess b a=false):=by
  have:=List.pairwise_mergeSort (le:=fun x y:L8=>decide (x≤y)) (fun a b c h1 h2=>?_) (fun a b=>?_) l
  ·refine this.imp fun {a b} h=>?_
   rw[An]at h
   simpa using h
  ·rw[An]at h1 h2 ⊢
   simp only[Bool.not_eq_true']at h1 h2 ⊢
   cases hb:Op.bytesLess c a
   ·rfl
   ·cases h3:Op.bytesLess a b
    ·rw[qu h3 h1,h2]at hb;cases hb
    ·rw[i6 hb h3]at h2;cases h2
  ·rw[An,An]
   cases h1:Op.bytesLess b a
   ·rfl
   ·cases h2:Op.bytesLess a b
    ·rfl
    ·have:=i6 h1 h2;rw[qn]at this;cases this
 obtain⟨h1,h2⟩:=yo _ _ rfl hs;refine Ae h1 (yz l) fun z=>?_
 rw[h2,pK,(List.mergeSort_perm l _).mem_iff]
mutual
def ry:Rx→List L8
 | .mk op _ _ _ _ nm args=>jM ((if op=2 then [nm]else [])++gL args)
def gL:List Rx→List L8
 | []=>[]
 |y::r=>ry y++gL r
end
section
open Go.RowKit Go.Sort Go.Lib
def aY (l:List L8):List AV:=l.map fun x=> .val (vL x)
theorem qE {w:World} {B q:Nat} {arr:Array Value} {e:TypeId} {fz:Nat × Nat} (h:w.heap[B]? =some (.cells arr e fz)) (d:List L8) (os:Array Obj):
 (grow (putRow encStr (Sort.ahead w q) B 0 d.toArray) os).heap[B]? =some (.cells (putCells encStr 0 d.toArray arr) e fz):=by
 have hB:=(Array.getElem?_eq_some_iff.1 h).1;unfold grow putRow mapBlock;show(((Sort.ahead w q).heap.modify B _)++os)[B]? =_;rw[Array.getElem?_append_left (by simpa using hB),Array.getElem?_modify,if_pos rfl];show(w.heap[B]?).map _=_;rw[h];rfl
theorem wN {w:World} {B q k:Nat} (hk:k<w.heap.size) (hne:k≠B) (d:List L8) (os:Array Obj):
 (grow (putRow encStr (Sort.ahead w q) B 0 d.toArray) os).heap[k]? =w.heap[k]?:=by
 unfold grow putRow mapBlock;show(((Sort.ahead w q).heap.modify B _)++os)[k]? =_;rw[Array.getElem?_append_left (by simpa using hk),Array.getElem?_modify,if_neg (fun h=>hne h.symm)];rfl
theorem AH {d:List L8} {arr:Array Value} (hl:d.length≤arr.size) (i:Nat):(putCells encStr 0 d.toArray arr)[i]? =if i<d.length then(d[i]?).map vL else arr[i]?:=by
 unfold putCells;rw[Array.getElem?_mapIdx]
 by_cases h:i<d.length
 ·rw[if_pos h]
  have h2:i<arr.size:=by omega
  simp[h,h2]
  rfl
 ·rw[if_neg h]
  cases hx:arr[i]? with
  |none=>rfl
  |some x=>simp;omega
theorem AJ {S:Nat→Prop} {g:Nat→Nat} {w:World} {l d:List L8} {q:Nat} {os:Array Obj} (hS:Fa S g w [(901,aY l)]) (hd:d.length=l.length):
 mh (Own S g (sB [(901,aY d)])) g (sB [(901,aY d)]) (grow (putRow encStr (Sort.ahead w q) (g 901) 0 d.toArray) os) 901 (aY d) (g 901) ∧
  cS (BX g [(901,aY l)]) w (grow (putRow encStr (Sort.ahead w q) (g 901) 0 d.toArray) os) ∧
  ∀arr e,w.heap[g 901]? =some (.cells arr e (0,0))→ ∃arr',(grow (putRow encStr (Sort.ahead w q) (g 901) 0 d.toArray) os).heap[g 901]? =some (.cells arr' e (0,0))∧arr'.size=arr.size:=by
 obtain⟨arr,e,h1,h2,h3,_,h5⟩:=hS.bm 901 (aY l) (bk.2 ⟨rfl,rfl⟩);have hlen:l.length≤arr.size:=by have:=h2.1;simpa[aY]using this
 have hsz:(putCells encStr 0 d.toArray arr).size=arr.size:=by simp[putCells]
 refine⟨⟨_,e,qE h1 d os,⟨by simp[aY,hsz];omega,fun i a v ha hv=>?_⟩,fun _ v hv=>?_,(fun h=>by cases h),(fun h=>by cases h)⟩,⟨rfl,rfl,rfl,?_,fun k hk hx=>?_,fun k hk hx arr2 e2 fz2 h=>?_⟩,fun arr2 e2 h=>?_⟩
 ·have hi:i<d.length:=by have:=(List.getElem?_eq_some_iff.1 ha).1;simpa[aY]using this
  rw[Array.getElem?_toList,AH (by omega),if_pos hi]at hv
  simp[hi]at hv
  simp[aY,hi]at ha
  subst ha hv;exact .val rfl
 ·obtain⟨i,hi⟩:=List.getElem?_of_mem hv
  rw[Array.getElem?_toList,AH (by omega)]at hi
  split at hi
  ·rename_i hlt
   simp[hlt]at hi
   subst hi;rfl
  ·exact h3 rfl v (by rw[← Array.getElem?_toList]at hi;exact List.mem_of_getElem? hi)
 ·show w.heap.size≤_
  simp[grow,putRow,mapBlock]
 ·rw[ma]at hx
  exact wN hk (fun h=>hx h.symm) d os
 ·rw[ma]at hx
  subst hx;rw[h1]at h;cases h;exact⟨_,_,qE h1 d os,hsz⟩
 ·rw[h1]at h
  cases h;exact⟨_,qE h1 d os,hsz⟩
theorem tj {S:Nat→Prop} {g:Nat→Nat} {w:World} {l:List L8} (hS:Fa S g w [(901,aY l)]):Holds encStr w (g 901) 0 l.toArray∧g 901<w.heap.size:=by
 obtain⟨arr,e,h1,h2,_⟩:=hS.bm 901 (aY l) (bk.2 ⟨rfl,rfl⟩);have hlen:l.length≤arr.size:=by have:=h2.1;simpa[aY]using this
 refine⟨fun j hj=>?_,(Array.getElem?_eq_some_iff.1 h1).1⟩;have hj:j<l.length:=by simpa using hj
 have hv:=h2.2 j (.val (vL l[j])) arr[j] (by simp[aY,hj]) (by simp);rw[Nat.zero_add];refine⟨?_,?_⟩
 ·rw[eh h1,Array.getElem?_eq_getElem (by omega),bP hv]
  simp[hj]
  rfl
 ·unfold World.frozen?
  simp[h1]
theorem Gq {l:List L8} (hl:l.length≤1000000):az Tryz.prog 50 [.own 901 l.length 1 9] [(901,aY l)] (.v (.tup [])) [(901,aY (l.mergeSort fun x y=>decide (x≤y)))]:=
 ⟨ay func50 rfl rfl,fun S g w vs hS hv=>by
  match vs,hv with
  | [v],⟨⟨_,h1⟩,_⟩=>
   obtain⟨c,rfl,_,_,_,_⟩:=h1 (aY l) (bk.2 ⟨rfl,rfl⟩);obtain⟨hH,hB⟩:=tj hS;refine(Tryz.slices_Sort_string (g 901) 0 c l w hH hB (by omega)).mono ?_;rintro e w' ⟨rfl,q,os,rfl⟩;obtain⟨r1,r2,_⟩:=AJ (d:=l.mergeSort fun x y=>decide (x≤y)) (q:=q) (os:=os) hS (List.length_mergeSort _);refine⟨_,g,rfl,fun j cs cs' h h'=>?_,fun j cs' h=>?_,fun i j ci cj hi hj _=>?_,?_,r2⟩
   ·obtain⟨_,rfl⟩:=bk.1 h
    obtain⟨_,rfl⟩:=bk.1 h';exact⟨rfl,by simp[aY]⟩
   ·obtain⟨rfl,rfl⟩:=bk.1 h
    exact⟨.inr (by rw[ma]),r1⟩
   ·rw[(bk.1 hi).1,(bk.1 hj).1]
   ·exact⟨[],rfl,rfl,fun i x u h=>by simp at h⟩⟩
theorem yb {l:List L8} (hl:l.length≤1000000):az Tryz.prog 51 [.own 901 l.length 1 9] [(901,aY l)] (.own 901 (Lib.compact l).length 1 9) [(901,aY (Lib.compact l++List.replicate (l.length-(Lib.compact l).length) []))]:=
 ⟨ay func51 rfl rfl,fun S g w vs hS hv=>by
  match vs,hv with
  | [v],⟨⟨hk,h1⟩,_⟩=>
   obtain⟨c,rfl,h2,h3,h4,arr,h5,h6⟩:=h1 (aY l) (bk.2 ⟨rfl,rfl⟩);obtain⟨hH,hB⟩:=tj hS;have hcl:=Lib.compact_length_le l;refine(Tryz.slices_Compact_string (g 901) 0 c l w hH (by omega) h2).mono ?_;rintro e w' ⟨rfl,q,rfl⟩;obtain⟨r1,r2,r3⟩:=AJ (d:=Lib.compact l++List.replicate (l.length-(Lib.compact l).length) []) (q:=q) (os:= #[]) hS (by simp;omega);rw[grow_empty]at r1 r2 r3;obtain⟨arr',r4,r5⟩:=r3 arr _ h5;refine⟨_,g,rfl,fun j cs cs' h h'=>?_,fun j cs' h=>?_,fun i j ci cj hi hj _=>?_,?_,r2⟩
   ·obtain⟨_,rfl⟩:=bk.1 h
    obtain⟨_,rfl⟩:=bk.1 h';exact⟨rfl,by simp[aY];omega⟩
   ·obtain⟨rfl,rfl⟩:=bk.1 h
    exact⟨.inr (by rw[ma]),r1⟩
   ·rw[(bk.1 hi).1,(bk.1 hj).1]
   ·refine⟨AS.kn_of (bk.2 ⟨rfl,rfl⟩),fun cs hc=>?_⟩
    obtain⟨_,rfl⟩:=bk.1 hc;exact⟨c,rfl,by omega,h3,by simp[aY],arr',r4,by rw[r5,h6]⟩⟩
end
mutual
def xS:Rx→Rx→Bool
 | .mk op na xs nb ys nm args, .mk op' na' xs' nb' ys' nm' args'=>decide (op=op') && (decide (nm=nm') && (decide (args.length=args'.length) && ((sameB na na' xs xs' && sameB nb nb' ys ys') && o6 args args')))
def o6:List Rx→List Rx→Bool
 |x::r,y::s=>xS x y && o6 r s
 | [],_=>true
 |_::_,[]=>true
end
theorem mr:∀(l m:List Rx),l.length=m.length→(o6 l m=true↔ ∀(i:Nat) x y,l[i]? =some x→m[i]? =some y→xS x y=true)
 | [],[],_=>by simp[o6]
 |x::r,y::s,h=>by
  have ih:=mr r s (by simpa using h);rw[o6,Bool.and_eq_true,ih]
  constructor
  ·rintro⟨h1,h2⟩ i a b ha hb
   cases i with
   |zero=>simp at ha hb;subst ha hb;exact h1
   |succ i=>exact h2 i a b (by simpa using ha) (by simpa using hb)
  ·intro hall
   exact⟨hall 0 x y rfl rfl,fun i a b ha hb=>hall (i+1) a b (by simpa using ha) (by simpa using hb)⟩
theorem pU:∀x:Rx,xS x x=true:=by
 refine dx fun op na xs nb ys nm args ih=>?_
 have h:o6 args args=true:=(mr args args rfl).2 fun i x y hx hy=>by
  rw[hx]at hy;cases hy;exact ih x (List.mem_of_getElem? hx)
 rw[xS,h,mU rfl,mU rfl]
 simp
theorem xq {na nb na' nb':Bool} {xs ys xs' ys':List Nat} (hl:xs.length≤2147483648) (hl':ys.length≤2147483648):aa Tryz.prog 46 [JV na xs nb ys,JV na' xs' nb' ys'] (.one (dB (sameB na na' xs xs' && sameB nb nb' ys ys'))):=by
 have c1:aa Tryz.prog 79 [dI na xs,dI na' xs'] (.one (dB (sameB na na' xs xs'))):=lL hl rfl;have c2:aa Tryz.prog 79 [dI nb ys,dI nb' ys'] (.one (dB (sameB nb nb' ys ys'))):=lL hl' rfl;generalize sameB na na' xs xs'=b1 at *;generalize sameB nb nb' ys ys'=b2 at *;cases b1
 ·refine kV func46 ?_;refine kC (c1) ?_;exact kF
 ·cases b2
  all_goals
   refine kV func46 ?_;refine kQ (c1) ?_;refine kC (c2) ?_;exact kF
theorem gm:∀(x:Rx),vm x→ ∀y,vm y→aa Tryz.prog 18 [dR x,dR y] (.one (dB (xS x y))):=by
 refine dx fun op na xs nb ys nm args ih hx=>?_
 rintro⟨op',na',xs',nb',ys',nm',args'⟩ hy;obtain⟨h1,h2,h3,h4⟩:=hx;obtain⟨_,_,g3,g4⟩:=hy;have cs:=xq (na:=na) (nb:=nb) (na':=na') (nb':=nb') (xs':=xs') (ys':=ys') h1 h2;have hall:=mr args args';rw[xS];generalize(sameB na na' xs xs' && sameB nb nb' ys ys')=bs at *;show aa Tryz.prog _ [.agg (ac op na xs nb ys nm args.length (cZ args)), .agg (ac op' na' xs' nb' ys' nm' args'.length (cZ args'))] _;have cs:aa Tryz.prog 46 [.agg (Dm na xs nb ys), .agg (Dm na' xs' nb' ys')] (.one (dB bs)):=cs
 by_cases e1:op=op'
 ·rw[decide_eq_true e1,Bool.true_and]
  by_cases e2:nm=nm'
  ·rw[decide_eq_true e2,Bool.true_and]
   by_cases e3:args.length=args'.length
   ·rw[decide_eq_true e3,Bool.true_and]
    have hall:=hall e3;cases bs
    ·rw[Bool.false_and]
     refine kU func18 ?_;refine kR ?_;refine kI ?_
     refine kO4 ?_
     refine kB false ?_ ?_
     ·exact(by simp[e1])
     refine kO5 ?_
     refine aP rfl rfl rfl rfl rfl rfl rfl (fq (a:=nm) (b:=nm') e2) ?_
     iterate 8 refine kO ?_
     refine kB false ?_ ?_
     ·exact(by simp[e3])
     iterate 6 refine kO ?_
     refine kC (cs) ?_;exact kF
    ·rw[Bool.true_and]
     generalize o6 args args'=B at *;refine kU func18 ?_;refine kR ?_;refine kI ?_
     refine kO4 ?_
     refine kB false ?_ ?_
     ·exact(by simp[e1])
     refine kO5 ?_
     refine aP rfl rfl rfl rfl rfl rfl rfl (fq (a:=nm) (b:=nm') e2) ?_
     iterate 8 refine kO ?_
     refine kB false ?_ ?_
     ·exact(by simp[e3])
     iterate 6 refine kO ?_
     refine kQ (cs) ?_
     refine aS Nat (fun i=>i≤args.length∧ ∀(q:Nat) x y,q<i→args[q]? =some x→args'[q]? =some y→xS x y=true) (fun i=>⟨[(2, .box 0 0),(3, .box 1 0),(4, .d (dB false)),(5, .d (dN .i64 i))],[(0,some (ac op na xs nb ys nm args.length (cZ args))),(1,some (ac op' na' xs' nb' ys' nm' args'.length (cZ args')))]⟩) (fun i=>args.length-i) 0 ⟨Nat.zero_le _,fun q x y h=>absurd h (Nat.not_lt_zero _)⟩
      (weak ⟨rfl,rfl,rfl,rfl,trivial⟩ ⟨rfl,rfl,trivial⟩ rfl) ?_
     rintro i ⟨hi,hq⟩;refine kI ?_
     refine kO4 ?_
     by_cases hlt:i<args.length
     ·refine kT ?_
      have hlt':i<args'.length:=by omega
      obtain⟨o1,na1,xs1,nb1,ys1,nm1,n1,cs1,hA⟩:=au args[i];obtain⟨o2,na2,xs2,nb2,ys2,nm2,n2,cs2,hA2⟩:=au args'[i];have hx:args[i]? =some args[i]:=by simp[hlt]
      have hy:args'[i]? =some args'[i]:=by simp[hlt']
      have hat:∀(j:Nat) (a:AV),(ac o1 na1 xs1 nb1 ys1 nm1 n1 cs1)[j]? =some a→(cZ args)[i*7+j]? =some a:=fun j a h=>fR args i args[i] hx j a (by rw[hA];exact h)
      have hat':∀(j:Nat) (a:AV),(ac o2 na2 xs2 nb2 ys2 nm2 n2 cs2)[j]? =some a→(cZ args')[i*7+j]? =some a:=fun j a h=>fR args' i args'[i] hy j a (by rw[hA2];exact h)
      have c:=ih args[i] (List.getElem_mem hlt) (h4 _ (List.getElem_mem hlt)) args'[i] (g4 _ (List.getElem_mem hlt'));rw[show dR args[i]= .agg (ac o1 na1 xs1 nb1 ys1 nm1 n1 cs1) from congrArg DV.agg hA,show dR args'[i]= .agg (ac o2 na2 xs2 nb2 ys2 nm2 n2 cs2) from congrArg DV.agg hA2]at c;refine kW ?_;refine bl (i:=i) (cs':=ac o1 na1 xs1 nb1 ys1 nm1 n1 cs1) hlt hat (Nat.zero_lt_succ 6) rfl rfl rfl rfl rfl rfl rfl rfl ?_;refine kW ?_;refine bl (i:=i) (cs':=ac o2 na2 xs2 nb2 ys2 nm2 n2 cs2) hlt' hat' (Nat.zero_lt_succ 6) rfl rfl rfl rfl rfl rfl rfl rfl ?_;refine kW ?_;cases hb:xS args[i] args'[i]
      ·rw[hb]at c
       have hB:B=false:=by
        cases B
        ·rfl
        ·rw[hall.1 rfl i _ _ hx hy]at hb;cases hb
       clear hall;cases B
       ·refine kC (c) ?_
        exact kF
       ·cases hB
      ·rw[hb]at c
       refine kQ (c) ?_
       exact⟨i+1,⟨hlt,fun q x y h1 h2 h3=>by
        by_cases e:q=i
        ·subst e;rw[hx]at h2;rw[hy]at h3;cases h2;cases h3;exact hb
        ·exact hq q x y (by omega) h2 h3⟩,by omega,weak ⟨rfl,rfl,rfl,aG (by omega) (by omega),trivial⟩ ⟨rfl,rfl,trivial⟩ rfl⟩
     ·have hB:B=true:=hall.2 fun q x y h2 h3=>hq q x y (by have:=(List.getElem?_eq_some_iff.1 h2).1;omega) h2 h3
      clear hall;cases B
      ·cases hB
      ·refine kE ?_
       exact kF
   ·rw[decide_eq_false e3,Bool.false_and]
    refine kU func18 ?_;refine kR ?_;refine kI ?_
    refine kO4 ?_
    refine kB false ?_ ?_
    ·exact(by simp[e1])
    refine kO5 ?_
    refine aP rfl rfl rfl rfl rfl rfl rfl (fq (a:=nm) (b:=nm') e2) ?_
    iterate 8 refine kO ?_
    refine kB true ?_ ?_
    ·exact(by simp;omega)
    exact kF
  ·rw[decide_eq_false e2,Bool.false_and]
   refine kU func18 ?_;refine kR ?_;refine kI ?_
   refine kO4 ?_
   refine kB false ?_ ?_
   ·exact(by simp[e1])
   refine kO5 ?_
   refine aP rfl rfl rfl rfl rfl rfl rfl (fj (a:=nm) (b:=nm') e2) ?_;exact kF
 ·rw[decide_eq_false e1,Bool.false_and]
  refine kU func18 ?_;refine kR ?_;refine kI ?_
  refine kO4 ?_
  refine kB true ?_ ?_
  ·exact(by simp[e1])
  exact kF
theorem BA {xs ys:List Nat} (hl:xs.length≤2147483648):aa Tryz.prog 80 [dW xs,dW ys] (.one (dB (decide (xs=ys)))):=by
 show aa Tryz.prog _ [.leaf (.sl xs.length (xs.map fun x=>AV.val (bB x))), .leaf (.sl ys.length (ys.map fun x=>AV.val (bB x)))] _
 by_cases hxy:xs.length=ys.length
 ·obtain⟨b,hb⟩:∃b,decide (xs=ys)=b:=⟨_,rfl⟩
  rw[hb];refine kU func80 ?_;refine kR ?_;refine kI ?_
  refine kO4 ?_
  refine kB false ?_ ?_
  ·exact(by simp[hxy])
  refine kW ?_;refine aS Nat (fun j=>j≤xs.length∧ ∀i,i<j→xs[i]? =ys[i]?) (fun j=>⟨[(0, .d (dW xs)),(1, .d (dW ys)),(4, .d (dB false)),(12, .d (dN .i64 xs.length)),(13, .d (dN .i64 j))],[]⟩) (fun j=>xs.length-j) 0 ⟨Nat.zero_le _,fun i h=>absurd h (Nat.not_lt_zero _)⟩ (weak ⟨rfl,rfl,rfl,rfl,rfl,trivial⟩ trivial rfl) ?_;rintro j ⟨hj,hall⟩;refine kI ?_
  by_cases hlt:j<xs.length
  ·refine kT ?_
   have hlt':j<ys.length:=by omega
   refine kW ?_;refine bl (i:=j) (cs':=[AV.val (bB xs[j])]) hlt (tK (by simp[hlt])) (Nat.lt_succ_self 0) rfl rfl rfl rfl rfl rfl rfl rfl ?_;refine kW ?_;refine bl (i:=j) (cs':=[AV.val (bB ys[j])]) hlt' (tK (by simp[hlt'])) (Nat.lt_succ_self 0) rfl rfl rfl rfl rfl rfl rfl rfl ?_;refine kO ?_
   by_cases he:xs[j]=ys[j]
   ·refine kB false ?_ ?_
    ·exact(by simp[he])
    refine kW ?_;refine⟨j+1,⟨hlt,fun i hi=>?_⟩,by omega,weak ⟨rfl,rfl,rfl,rfl,aG (by omega) (by omega),trivial⟩ trivial rfl⟩;rcases Nat.lt_succ_iff_lt_or_eq.1 hi with h3|rfl
    ·exact hall i h3
    ·rw[List.getElem?_eq_getElem hlt,List.getElem?_eq_getElem hlt',he]
   ·have hne:b=false:=by rw[← hb];exact decide_eq_false fun e=>he (by subst e;rfl)
    cases b
    ·refine kB true ?_ ?_
     ·exact(by simp;omega)
     exact kF
    ·cases hne
  ·have he:b=true:=by
    rw[← hb];refine decide_eq_true (List.ext_getElem? fun i=>?_)
    by_cases hi:i<xs.length
    ·exact hall i (by omega)
    ·rw[List.getElem?_eq_none (by omega),List.getElem?_eq_none (by omega)]
   cases b
   ·cases he
   ·refine kE ?_
    exact kF
 ·rw[decide_eq_false (fun e=>hxy (by rw[e]))]
  refine kU func80 ?_;refine kR ?_;refine kI ?_
  refine kO4 ?_
  refine kB true ?_ ?_
  ·exact(by simp;omega)
  exact kF
theorem oE {na nb:Bool} {xs ys:List Nat} (hl:xs.length≤2147483648):aa Tryz.prog 48 [dI na xs,dI nb ys] (.one (dB (sameB na nb xs ys))):=by
 have c:=BA (ys:=ys) hl;unfold sameB;generalize decide (xs=ys)=b at *
 by_cases h:na=nb
 ·subst h
  cases na<;>cases b
  all_goals
   refine kV func48 ?_;refine kC (c) ?_;exact kF
 ·cases na<;>cases nb<;>first|exact absurd rfl h|skip
  all_goals
   refine kU func48 ?_;exact kF
theorem uc {fid:FuncId} (args args':List Rx) (hp:∀x∈args,∀y∈args',aa Tryz.prog fid [dR x,dR y] (.one (dB (xS x y)))) (hl:args.length≤1000000):
 aa Tryz.prog 49 [.leaf (.sl args.length (cZ args)), .leaf (.sl args'.length (cZ args')),dF fid] (.one (dB (decide (args.length=args'.length) && o6 args args'))):=by
 have hall:=mr args args'
 by_cases e3:args.length=args'.length
 ·rw[decide_eq_true e3,Bool.true_and]
  have hall:=hall e3;generalize o6 args args'=B at *;refine kU func49 ?_;refine kR ?_;refine kI ?_
  refine kO4 ?_
  refine kB false ?_ ?_
  ·exact(by simp[e3])
  refine kW ?_
  refine aS Nat (fun i=>i≤args.length∧ ∀(q:Nat) x y,q<i→args[q]? =some x→args'[q]? =some y→xS x y=true) (fun i=>⟨[(1, .d (.leaf (.sl args'.length (cZ args')))),(2, .d (dF fid)),(6, .d (dB false)),(15, .d (.leaf (.sl args.length (cZ args)))),(16, .d (dN .i64 args.length)),(17, .d (dN .i64 i))],[]⟩) (fun i=>args.length-i) 0 ⟨Nat.zero_le _,fun q x y h=>absurd h (Nat.not_lt_zero _)⟩
   (weak ⟨rfl,rfl,rfl,rfl,rfl,rfl,trivial⟩ trivial rfl) ?_
  rintro i ⟨hi,hq⟩;refine kI ?_
  by_cases hlt:i<args.length
  ·refine kT ?_
   have hlt':i<args'.length:=by omega
   obtain⟨o1,na1,xs1,nb1,ys1,nm1,n1,cs1,hA⟩:=au args[i];obtain⟨o2,na2,xs2,nb2,ys2,nm2,n2,cs2,hA2⟩:=au args'[i];have hx:args[i]? =some args[i]:=by simp[hlt]
   have hy:args'[i]? =some args'[i]:=by simp[hlt']
   have hat:∀(j:Nat) (a:AV),(ac o1 na1 xs1 nb1 ys1 nm1 n1 cs1)[j]? =some a→(cZ args)[i*7+j]? =some a:=fun j a h=>fR args i args[i] hx j a (by rw[hA];exact h)
   have hat':∀(j:Nat) (a:AV),(ac o2 na2 xs2 nb2 ys2 nm2 n2 cs2)[j]? =some a→(cZ args')[i*7+j]? =some a:=fun j a h=>fR args' i args'[i] hy j a (by rw[hA2];exact h)
   have c:=hp args[i] (List.getElem_mem hlt) args'[i] (List.getElem_mem hlt');rw[show dR args[i]= .agg (ac o1 na1 xs1 nb1 ys1 nm1 n1 cs1) from congrArg DV.agg hA,show dR args'[i]= .agg (ac o2 na2 xs2 nb2 ys2 nm2 n2 cs2) from congrArg DV.agg hA2]at c;refine kW ?_;refine bl (i:=i) (cs':=ac o1 na1 xs1 nb1 ys1 nm1 n1 cs1) hlt hat (Nat.zero_lt_succ 6) rfl rfl rfl rfl rfl rfl rfl rfl ?_;refine kW ?_;refine bl (i:=i) (cs':=ac o2 na2 xs2 nb2 ys2 nm2 n2 cs2) hlt' hat' (Nat.zero_lt_succ 6) rfl rfl rfl rfl rfl rfl rfl rfl ?_;refine kW ?_;cases hb:xS args[i] args'[i]
   ·rw[hb]at c
    have hB:B=false:=by
     cases B
     ·rfl
     ·rw[hall.1 rfl i _ _ hx hy]at hb;cases hb
    clear hall;cases B
    ·refine kC (c) ?_
     exact kF
    ·cases hB
   ·rw[hb]at c
    refine kQ (c) ?_
    exact⟨i+1,⟨hlt,fun q x y h1 h2 h3=>by
     by_cases e:q=i
     ·subst e;rw[hx]at h2;rw[hy]at h3;cases h2;cases h3;exact hb
     ·exact hq q x y (by omega) h2 h3⟩,by omega,weak ⟨rfl,rfl,rfl,rfl,rfl,aG (by omega) (by omega),trivial⟩ trivial rfl⟩
  ·have hB:B=true:=hall.2 fun q x y h2 h3=>hq q x y (by have:=(List.getElem?_eq_some_iff.1 h2).1;omega) h2 h3
   clear hall;cases B
   ·cases hB
   ·refine kE ?_
    exact kF
 ·rw[decide_eq_false e3,Bool.false_and]
  refine kU func49 ?_;refine kR ?_;refine kI ?_
  refine kO4 ?_
  refine kB true ?_ ?_
  ·exact(by simp;omega)
  exact kF
theorem oA:∀(x:Rx),vm x→ ∀y,vm y→aa Tryz.prog 23 [dR x,dR y] (.one (dB (xS x y))):=by
 refine dx fun op na xs nb ys nm args ih hx=>?_
 rintro⟨op',na',xs',nb',ys',nm',args'⟩ hy;obtain⟨h1,h2,h3,h4⟩:=hx;obtain⟨_,_,g3,g4⟩:=hy;have c1:=oE (na:=na) (nb:=na') (ys:=xs') h1;have c2:=oE (na:=nb) (nb:=nb') (ys:=ys') h2;have c3:=uc (fid:=23) args args' (fun x hx y hy=>ih x hx (h4 x hx) y (g4 y hy)) h3;rw[xS];generalize sameB na na' xs xs'=b1 at *;generalize sameB nb nb' ys ys'=b2 at *;have e0:(decide (args.length=args'.length) && ((b1 && b2) && o6 args args'))=(b1 && (b2 && (decide (args.length=args'.length) && o6 args args'))):=by cases b1<;>cases b2<;>simp
 rw[e0];generalize(decide (args.length=args'.length) && o6 args args')=b3 at *;show aa Tryz.prog _ [.agg (ac op na xs nb ys nm args.length (cZ args)), .agg (ac op' na' xs' nb' ys' nm' args'.length (cZ args'))] _;have c1:aa Tryz.prog 48 [.agg (aI na xs), .agg (aI na' xs')] (.one (dB b1)):=c1;have c2:aa Tryz.prog 48 [.agg (aI nb ys), .agg (aI nb' ys')] (.one (dB b2)):=c2
 by_cases e1:op=op'
 ·rw[decide_eq_true e1,Bool.true_and]
  by_cases e2:nm=nm'
  ·rw[decide_eq_true e2,Bool.true_and]
   cases b1
   ·refine kU func23 ?_
    refine kR ?_;refine kI ?_
    refine kO4 ?_
    refine kB true ?_ ?_
    ·exact(by simp[e1])
    refine kO5 ?_
    refine aP rfl rfl rfl rfl rfl rfl rfl (cP (a:=nm) (b:=nm') e2) ?_
    iterate 8 refine kO ?_
    refine kC (c1) ?_;exact kF
   ·cases b2
    ·refine kU func23 ?_
     refine kR ?_;refine kI ?_
     refine kO4 ?_
     refine kB true ?_ ?_
     ·exact(by simp[e1])
     refine kO5 ?_
     refine aP rfl rfl rfl rfl rfl rfl rfl (cP (a:=nm) (b:=nm') e2) ?_
     iterate 8 refine kO ?_
     refine kC (c1) ?_
     iterate 8 refine kO ?_
     refine kC (c2) ?_;exact kF
    ·cases b3
     all_goals
      refine kU func23 ?_;refine kR ?_;refine kI ?_
      refine kO4 ?_
      refine kB true ?_ ?_
      ·exact(by simp[e1])
      refine kO5 ?_
      refine aP rfl rfl rfl rfl rfl rfl rfl (cP (a:=nm) (b:=nm') e2) ?_
      iterate 8 refine kO ?_
      refine kC (c1) ?_
      iterate 8 refine kO ?_
      refine kQ (c2) ?_;refine kC (c3) ?_;exact kF
  ·rw[decide_eq_false e2,Bool.false_and]
   refine kU func23 ?_;refine kR ?_;refine kI ?_
   refine kO4 ?_
   refine kB true ?_ ?_
   ·exact(by simp[e1])
   refine kO5 ?_
   refine aP rfl rfl rfl rfl rfl rfl rfl (gF (a:=nm) (b:=nm') e2) ?_;exact kF
 ·rw[decide_eq_false e1,Bool.false_and]
  refine kU func23 ?_;refine kR ?_;refine kI ?_
  refine kO4 ?_
  refine kB false ?_ ?_
  ·exact(by simp[e1])
  exact kF
section
variable {P:Program} {T:TypeId→Option Ty} {n:Nat} {ops:Array Oper} {id:Nat} {draw:Bool} {K:AS→Prop} {s:AS} {k:Nat} {o:Oper} {os:List Oper} {fps:List FP}
theorem qi {P:Program} {w:World} {t et q:Nat} (hu:P.underlying t=some (.slice et)) (hks:(P.info? et).map (·.size)=some q) (A:Option Addr) {m i c:Nat} (ik:IntKind) (hi:i≤m):
 (Instr.sliceAt t (.slice A m c) (some (.int ik (i:Nat))) none none).run P w= .ok (.slice (if c=i then A else A.map (·.add (i*q))) (m-i) (c-i)) w:=by
 have hib:(0:Int)≤(i:Int)∧(i:Int)≤(m:Nat):=⟨by omega,by omega⟩;unfold Instr.sliceAt
 simp only[Sem.run_bind,run_underlying hu w,Result.andThen_ok]
 unfold Instr.slice
 simp only[Sem.run_bind,run_underlying hu w,Result.andThen_ok,Instr.sliceBounds,Instr.sliceBound,Sem.run_pure,asIntOf]
 rw[if_pos hib]
 simp only[Sem.run_pure,Result.andThen_ok,Int.toNat_natCast]
 rw[cg hks w];rfl
theorem wU {P:Program} {w:World} {t et q:Nat} (hu:P.underlying t=some (.slice et)) (hks:(P.info? et).map (·.size)=some q) (A:Option Addr) {m i c:Nat} (ik:IntKind) (hi:i≤c):
 (Instr.sliceAt t (.slice A m c) none (some (.int ik (i:Nat))) none).run P w= .ok (.slice (if c=0 then A else A.map (·.add (0*q))) i c) w:=by
 have hib:(0:Int)≤(i:Int)∧(i:Int)≤(c:Nat):=⟨by omega,by omega⟩;unfold Instr.sliceAt
 simp only[Sem.run_bind,run_underlying hu w,Result.andThen_ok]
 unfold Instr.slice
 simp only[Sem.run_bind,run_underlying hu w,Result.andThen_ok,Instr.sliceBounds,Instr.sliceBound,Sem.run_pure,asIntOf]
 simp only[Bool.false_eq_true,if_false,if_true]
 rw[if_pos hib]
 simp only[Sem.run_pure,Result.andThen_ok,Int.toNat_natCast]
 rw[cg hks w];rfl
theorem zT (hT:∀t d,T t=some d→bG P t d) {t:TypeId} {ty:Ty} {x z:Operand} {j et q m i:Nat} {ik:IntKind} {cs:List AV} (hi:i≤m) (h1:gd ops s o=some true) (h2:o.op= .slice t x none (some z) none) (h5:T t=some ty) (h6:ty.elem=some (et,q)) (h7:s.ev x= .own j m q et) (hb:s.bx j=some cs) (h8:s.ev z= .d (.leaf (.val (.int ik (i:Nat)))))
 (h3:bd n o.dst=true) (h4:gN draw ops (aM ops o ⟨.own j i q et,none⟩ [j]) k fps=true) (h:aw P T n ops id draw K (k+1) os (s.eff o.dst ⟨.own j i q et,none⟩) (aM ops o ⟨.own j i q et,none⟩ [j]::fps)):aw P T n ops id draw K k (o::os) s fps:=by
 refine .run h1 (.gen fun s2 ht hrb=>?_) h3 h4 h;have hx:=(aL ht (x:=x) (by simp[h2,Op.operands])).trans h7;have hz:=(aL ht (x:=z) (by simp[h2,Op.operands])).trans h8;have hbj:=(cO (hrb j (by simp))).trans hb;obtain⟨u,hu,_,hel,_⟩:=(hT _ _ h5).und;obtain⟨rfl,hks⟩:=hel et q h6;refine aj fun n S0 w0 g a w hM=>?_
 have hm:=hM.ev x;rw[hx]at hm;obtain⟨c,e1,e2,e3,e4,arr,e5,e6⟩:=hm.2 cs hbj;have hr:=wU (w:=w) hu hks (some ⟨g j,0,none⟩) (m:=m) (i:=i) (c:=c) ik (by omega)
 have ha:(if c=0 then some (⟨g j,0,none⟩:Addr)else(some ⟨g j,0,none⟩:Option Addr).map (·.add (0*q)))=some ⟨g j,0,none⟩:=by
  split
  ·rfl
  ·rw[Nat.zero_mul,Option.map_some,dP]
 rw[ha]at hr;refine⟨.slice (some ⟨g j,0,none⟩) i c,w,?_,Below.refl _ _,hm.1,fun cs' hc=>?_⟩
 ·unfold execOp
  rw[h2]
  simp only[e1,bw hM hz,Option.map_some,Option.map_none,Sem.run_bind,hr,Result.andThen_ok]
  rfl
 ·rw[hbj]at hc
  cases hc;exact⟨c,rfl,by omega,e3,Nat.le_trans (Nat.mul_le_mul_right _ hi) e4,arr,e5,e6⟩
theorem Bl (hT:∀t d,T t=some d→bG P t d) {t:TypeId} {ty:Ty} {x y:Operand} {j et q m i:Nat} {ik:IntKind} {cs:List AV} (hi:i<m) (h1:gd ops s o=some true) (h2:o.op= .slice t x (some y) none none) (h5:T t=some ty) (h6:ty.elem=some (et,q)) (h7:s.ev x= .own j m q et) (hb:s.bx j=some cs) (h8:s.ev y= .d (.leaf (.val (.int ik (i:Nat)))))
 (h3:bd n o.dst=true) (h4:gN draw ops (aM ops o ⟨.vw j i (m-i) q,none⟩ [j]) k fps=true) (h:aw P T n ops id draw K (k+1) os (s.eff o.dst ⟨.vw j i (m-i) q,none⟩) (aM ops o ⟨.vw j i (m-i) q,none⟩ [j]::fps)):aw P T n ops id draw K k (o::os) s fps:=by
 refine .run h1 (.gen fun s2 ht hrb=>?_) h3 h4 h;have hx:=(aL ht (x:=x) (by simp[h2,Op.operands])).trans h7;have hy:=(aL ht (x:=y) (by simp[h2,Op.operands])).trans h8;have hbj:=(cO (hrb j (by simp))).trans hb;obtain⟨u,hu,_,hel,_⟩:=(hT _ _ h5).und;obtain⟨rfl,hks⟩:=hel et q h6;refine aj fun n S0 w0 g a w hM=>?_
 have hm:=hM.ev x;rw[hx]at hm;obtain⟨c,e1,e2,e3,e4,arr,e5,e6⟩:=hm.2 cs hbj;have hr:=qi (w:=w) hu hks (some ⟨g j,0,none⟩) (m:=m) (i:=i) (c:=c) ik (by omega);rw[if_neg (by omega),Option.map_some,dP,Nat.zero_add]at hr;refine⟨.slice (some ⟨g j,i*q,none⟩) (m-i) (c-i),w,?_,Below.refl _ _,hm.1,fun cs' hc=>?_⟩
 ·unfold execOp
  rw[h2]
  simp only[e1,bw hM hy,Option.map_some,Option.map_none,Sem.run_bind,hr,Result.andThen_ok]
  rfl
 ·rw[hbj]at hc
  cases hc;exact⟨c-i,rfl,by omega,by omega,by rw[show i+(m-i)=m by omega];exact e4⟩
theorem C6 (hT:∀t d,T t=some d→bG P t d) {t:TypeId} {ty:Ty} {x y:Operand} {j et q m:Nat} {ik:IntKind} {cs:List AV} (h1:gd ops s o=some true) (h2:o.op= .slice t x (some y) none none) (h5:T t=some ty) (h6:ty.elem=some (et,q)) (h7:s.ev x= .own j m q et) (hb:s.bx j=some cs) (h8:s.ev y= .d (.leaf (.val (.int ik (m:Nat)))))
 (h3:bd n o.dst=true) (h4:gN draw ops (aM ops o ⟨.d (.leaf (.sl 0 [])),none⟩ [j]) k fps=true) (h:aw P T n ops id draw K (k+1) os (s.eff o.dst ⟨.d (.leaf (.sl 0 [])),none⟩) (aM ops o ⟨.d (.leaf (.sl 0 [])),none⟩ [j]::fps)):aw P T n ops id draw K k (o::os) s fps:=by
 refine .run h1 (.gen fun s2 ht hrb=>?_) h3 h4 h;have hx:=(aL ht (x:=x) (by simp[h2,Op.operands])).trans h7;have hy:=(aL ht (x:=y) (by simp[h2,Op.operands])).trans h8;have hbj:=(cO (hrb j (by simp))).trans hb;obtain⟨u,hu,_,hel,_⟩:=(hT _ _ h5).und;obtain⟨rfl,hks⟩:=hel et q h6;refine aj fun n S0 w0 g a w hM=>?_
 have hm:=hM.ev x;rw[hx]at hm;obtain⟨c,e1,e2,e3,e4,arr,e5,e6⟩:=hm.2 cs hbj;have hr:=qi (w:=w) hu hks (some ⟨g j,0,none⟩) (m:=m) (i:=m) (c:=c) ik (Nat.le_refl _);rw[Nat.sub_self]at hr;refine⟨.slice (if c=m then some ⟨g j,0,none⟩else(some ⟨g j,0,none⟩:Option Addr).map (·.add (m*q))) 0 (c-m),w,?_,Below.refl _ _,AV.M.emp (by omega) (by omega) (fun hA=>?_)⟩
 ·unfold execOp
  rw[h2]
  simp only[e1,bw hM hy,Option.map_some,Option.map_none,Sem.run_bind,hr,Result.andThen_ok]
  rfl
 ·split at hA<;>cases hA
theorem Fr (hT:∀t d,T t=some d→bG P t d) {t:TypeId} {ty:Ty} {x z:Operand} {et q:Nat} {ik:IntKind} (h1:gd ops s o=some true) (h2:o.op= .slice t x none (some z) none) (h5:T t=some ty) (h6:ty.elem=some (et,q)) (h7:s.ev x= .nil) (h8:s.ev z= .d (.leaf (.val (.int ik (0:Nat)))))
 (h3:bd n o.dst=true) (h4:gN draw ops (aM ops o ⟨.nil,none⟩ []) k fps=true) (h:aw P T n ops id draw K (k+1) os (s.eff o.dst ⟨.nil,none⟩) (aM ops o ⟨.nil,none⟩ []::fps)):aw P T n ops id draw K k (o::os) s fps:=by
 refine .run h1 (.gen fun s2 ht hrb=>?_) h3 h4 h;have hx:=(aL ht (x:=x) (by simp[h2,Op.operands])).trans h7;have hz:=(aL ht (x:=z) (by simp[h2,Op.operands])).trans h8;obtain⟨u,hu,_,hel,_⟩:=(hT _ _ h5).und;obtain⟨rfl,hks⟩:=hel et q h6;refine aj fun n S0 w0 g a w hM=>?_
 have hm:=hM.ev x;rw[hx]at hm;have hm:a.eval x= .slice none 0 0:=hm;have hr:=wU (w:=w) hu hks none (m:=0) (i:=0) (c:=0) ik (Nat.le_refl _);rw[if_pos rfl]at hr;refine⟨.slice none 0 0,w,?_,Below.refl _ _,rfl⟩;unfold execOp;rw[h2]
 simp only[hm,bw hM hz,Option.map_some,Option.map_none,Sem.run_bind,hr,Result.andThen_ok]
 rfl
theorem Bm (hT:∀t d,T t=some d→bG P t d) {t:TypeId} {ty:Ty} {x y:Operand} {et q:Nat} {ik:IntKind} (h1:gd ops s o=some true) (h2:o.op= .slice t x (some y) none none) (h5:T t=some ty) (h6:ty.elem=some (et,q)) (h7:s.ev x= .nil) (h8:s.ev y= .d (.leaf (.val (.int ik (0:Nat)))))
 (h3:bd n o.dst=true) (h4:gN draw ops (aM ops o ⟨.d (.leaf (.sl 0 [])),none⟩ []) k fps=true) (h:aw P T n ops id draw K (k+1) os (s.eff o.dst ⟨.d (.leaf (.sl 0 [])),none⟩) (aM ops o ⟨.d (.leaf (.sl 0 [])),none⟩ []::fps)):aw P T n ops id draw K k (o::os) s fps:=by
 refine .run h1 (.gen fun s2 ht hrb=>?_) h3 h4 h;have hx:=(aL ht (x:=x) (by simp[h2,Op.operands])).trans h7;have hy:=(aL ht (x:=y) (by simp[h2,Op.operands])).trans h8;obtain⟨u,hu,_,hel,_⟩:=(hT _ _ h5).und;obtain⟨rfl,hks⟩:=hel et q h6;refine aj fun n S0 w0 g a w hM=>?_
 have hm:=hM.ev x;rw[hx]at hm;have hm:a.eval x= .slice none 0 0:=hm;have hr:=qi (w:=w) hu hks none (m:=0) (i:=0) (c:=0) ik (Nat.le_refl _);rw[if_pos rfl]at hr;refine⟨.slice none 0 0,w,?_,Below.refl _ _,AV.M.emp (Nat.le_refl _) (by decide) (fun _=>rfl)⟩;unfold execOp;rw[h2]
 simp only[hm,bw hM hy,Option.map_some,Option.map_none,Sem.run_bind,hr,Result.andThen_ok]
 rfl
theorem FX {S0:Nat→Prop} {w0:fN} {g:Nat→Nat} {a:Act} {w:World} (hM:MG n S0 w0 g s a w) {x:Operand} {j p m q:Nat} {cs:List AV} (hx:s.ev x= .vw j p m q) (hb:s.bx j=some cs):uX (Own S0 g s) w (a.eval x) m q ((cs.drop (p*q)).take (m*q)):=by
 have hm:=hM.ev x;rw[hx]at hm;obtain⟨c,e1,e2,e3,e4⟩:=hm.2 cs hb;obtain⟨_,arr,e,e5,e6,_⟩:=hM.bm j cs hb;have hl:=e6.1;have hsz:(p+m)*q=p*q+m*q:=Nat.add_mul _ _ _;refine⟨_,c,(arr.toList.drop (p*q)).take (m*q),e1,by simp at hl ⊢;omega,fun i u hi=>?_,e6.sub (by omega)⟩;rw[dP,eh e5];rw[List.getElem?_take]at hi
 split at hi
 ·simpa using hi
 ·cases hi
theorem CE {S0:Nat→Prop} {w0:fN} {g:Nat→Nat} {a:Act} {w:World} (hM:MG n S0 w0 g s a w) {x:Operand} {j m q e2:Nat} {cs:List AV} (hx:s.ev x= .own j m q e2) (hb:s.bx j=some cs):uX (Own S0 g s) w (a.eval x) m q (cs.take (m*q)):=by
 have hm:=hM.ev x;rw[hx]at hm;obtain⟨c,e1,e2,e3,e4,_⟩:=hm.2 cs hb;obtain⟨_,arr,e,e5,e6,_⟩:=hM.bm j cs hb;have hl:=e6.1;have h0:=e6.sub (off:=0) (k:=m*q) (by omega);rw[List.drop_zero,List.drop_zero]at h0;refine⟨_,c,arr.toList.take (m*q),e1,by simp at hl ⊢;omega,fun i u hi=>?_,h0⟩;rw[dP,eh e5];rw[List.getElem?_take]at hi
 split at hi
 ·simpa using hi
 ·cases hi
theorem Hn (j':Nat) {d:Nat} {x y:Operand} {t et q m1 m2 j2 p:Nat} {ty te:Ty} {dead:Option Nat} {cs cs2:List AV} (hT:∀t d,T t=some d→bG P t d) (hm:0<m2) (hb:(m1+m2)*te.bytes≤140737488355328) (hlen:(p+m2)*q≤cs2.length) (h1:gd ops s o=some true) (ho:o.op= .call ⟨.builtin .append,#[x,y],#[t,t]⟩) (hd:o.dst=some d) (h3:bd n o.dst=true) (ht:T t=some ty) (hel:ty.elem=some (et,q)) (hte:T et=some te) (hq:te.size=q) (hq0:(Nat.ble 1 q && Nat.ble 1 te.bytes)=true)
 (hbase:fM s x m1 q et dead cs) (hy:s.ev y= .vw j2 p m2 q) (hj2:s.bx j2=some cs2) (hnew:iD s j'=true) (hcl:(gC te.zero && gC ((cs2.drop (p*q)).take (m2*q)) && kM dead)=true)
 (h4:gN draw ops (aM ops o ⟨.own j' (m1+m2) q et,some ((j',some (cs.take (m1*q)++(cs2.drop (p*q)).take (m2*q)))::gQ dead [])⟩ (j'::j2::tz dead)) k fps=true)
 (h:aw P T n ops id draw K (k+1) os (s.eff o.dst ⟨.own j' (m1+m2) q et,some ((j',some (cs.take (m1*q)++(cs2.drop (p*q)).take (m2*q)))::gQ dead [])⟩) (aM ops o ⟨.own j' (m1+m2) q et,some ((j',some (cs.take (m1*q)++(cs2.drop (p*q)).take (m2*q)))::gQ dead [])⟩ (j'::j2::tz dead)::fps)):aw P T n ops id draw K k (o::os) s fps:=by
 rw[Bool.and_eq_true]at hq0
 have h63:m1+m2≤9223372036854775807:=by
  have:=Nat.le_mul_of_pos_right (m1+m2) (Nat.le_of_ble_eq_true hq0.2);omega
 refine .run h1 (.gen fun s2 ht2 hrb=>?_) h3 h4 h;have hx2:s2.ev x=s.ev x:=aL ht2 (by rw[ho];simp[Op.operands,Call.operands]);have hy2:s2.ev y=s.ev y:=aL ht2 (by rw[ho];simp[Op.operands,Call.operands]);have hb2:s2.bx j2=some cs2:=(cO (hrb j2 (by simp))).trans hj2
 have hbase2:fM s2 x m1 q et dead cs:=by
  cases hbase with
  |nil a b=>exact .nil (hx2.trans a) b
  |own a b=>exact .own (hx2.trans a) ((cO (hrb _ (by simp[tz]))).trans b)
 have hnew2:iD s2 j'=true:=(f7 (hrb j' (by simp))).trans hnew;have hsz:(p+m2)*q=p*q+m2*q:=Nat.add_mul _ _ _;intro n S0 w0 g a w K Q hM hdn hK;refine ko (hT _ _ ht) (hT _ _ hte) ho hd hel hq (Nat.le_of_ble_eq_true hq0.1) hbase2 (by simp;omega) hm hb h63 (dh hnew2) (lq hnew2) (.inr hcl) hM (FX hM (hy2.trans hy) hb2) (hdn d hd) fun g' a' w' hM'=>hK g' a' w' ?_
 rw[hd];cases dead<;>exact hM'
theorem yK (j':Nat) {d:Nat} {x y:Operand} {t et q m1 m2 j2 e2:Nat} {ty te:Ty} {dead:Option Nat} {cs cs2:List AV} (hT:∀t d,T t=some d→bG P t d) (hm:0<m2) (hb:(m1+m2)*te.bytes≤140737488355328) (hlen:m2*q≤cs2.length) (h1:gd ops s o=some true) (ho:o.op= .call ⟨.builtin .append,#[x,y],#[t,t]⟩) (hd:o.dst=some d) (h3:bd n o.dst=true) (ht:T t=some ty) (hel:ty.elem=some (et,q)) (hte:T et=some te) (hq:te.size=q) (hq0:(Nat.ble 1 q && Nat.ble 1 te.bytes)=true)
 (hbase:fM s x m1 q et dead cs) (hy:s.ev y= .own j2 m2 q e2) (hj2:s.bx j2=some cs2) (hnew:iD s j'=true) (hcl:(gC te.zero && gC (cs2.take (m2*q)) && kM dead)=true)
 (h4:gN draw ops (aM ops o ⟨.own j' (m1+m2) q et,some ((j',some (cs.take (m1*q)++cs2.take (m2*q)))::gQ dead [])⟩ (j'::j2::tz dead)) k fps=true)
 (h:aw P T n ops id draw K (k+1) os (s.eff o.dst ⟨.own j' (m1+m2) q et,some ((j',some (cs.take (m1*q)++cs2.take (m2*q)))::gQ dead [])⟩) (aM ops o ⟨.own j' (m1+m2) q et,some ((j',some (cs.take (m1*q)++cs2.take (m2*q)))::gQ dead [])⟩ (j'::j2::tz dead)::fps)):aw P T n ops id draw K k (o::os) s fps:=by
 rw[Bool.and_eq_true]at hq0
 have h63:m1+m2≤9223372036854775807:=by
  have:=Nat.le_mul_of_pos_right (m1+m2) (Nat.le_of_ble_eq_true hq0.2);omega
 refine .run h1 (.gen fun s2 ht2 hrb=>?_) h3 h4 h;have hx2:s2.ev x=s.ev x:=aL ht2 (by rw[ho];simp[Op.operands,Call.operands]);have hy2:s2.ev y=s.ev y:=aL ht2 (by rw[ho];simp[Op.operands,Call.operands]);have hb2:s2.bx j2=some cs2:=(cO (hrb j2 (by simp))).trans hj2
 have hbase2:fM s2 x m1 q et dead cs:=by
  cases hbase with
  |nil a b=>exact .nil (hx2.trans a) b
  |own a b=>exact .own (hx2.trans a) ((cO (hrb _ (by simp[tz]))).trans b)
 have hnew2:iD s2 j'=true:=(f7 (hrb j' (by simp))).trans hnew;intro n S0 w0 g a w K Q hM hdn hK;refine ko (hT _ _ ht) (hT _ _ hte) ho hd hel hq (Nat.le_of_ble_eq_true hq0.1) hbase2 (by rw[List.length_take];omega) hm hb h63 (dh hnew2) (lq hnew2) (.inr hcl) hM (CE hM (hy2.trans hy) hb2) (hdn d hd) fun g' a' w' hM'=>hK g' a' w' ?_
 rw[hd];cases dead<;>exact hM'
theorem uv {x y:Operand} {t et q m1 j:Nat} {ty:Ty} {ts:List AV} {cs:List AV} (hT:∀t d,T t=some d→bG P t d) (h1:gd ops s o=some true) (ho:o.op= .call ⟨.builtin .append,#[x,y],#[t,t]⟩) (ht:T t=some ty) (hel:ty.elem=some (et,q)) (h7:s.ev x= .own j m1 q et) (hb:s.bx j=some cs) (hy:s.ev y= .d (.leaf (.sl 0 ts)))
 (h3:bd n o.dst=true) (h4:gN draw ops (aM ops o ⟨.own j m1 q et,none⟩ [j]) k fps=true) (h:aw P T n ops id draw K (k+1) os (s.eff o.dst ⟨.own j m1 q et,none⟩) (aM ops o ⟨.own j m1 q et,none⟩ [j]::fps)):aw P T n ops id draw K k (o::os) s fps:=by
 refine .run h1 (.gen fun s2 ht2 hrb=>?_) h3 h4 h;have hx2:=(aL ht2 (x:=x) (by rw[ho];simp[Op.operands,Call.operands])).trans h7;have hy2:=(aL ht2 (x:=y) (by rw[ho];simp[Op.operands,Call.operands])).trans hy;have hbj:=(cO (hrb j (by simp))).trans hb;obtain⟨u,hu,_,hel',_⟩:=(hT _ _ ht).und;obtain⟨rfl,hks⟩:=hel' et q hel;refine aj fun n S0 w0 g a w hM=>?_
 have hm:=hM.ev x;rw[hx2]at hm;obtain⟨c,e1,e2,e3,e4,arr,e5,e6⟩:=hm.2 cs hbj;have hm0:=hm;rw[e1]at hm0;have hyv:=hM.ev y;rw[hy2]at hyv;have hyv:AV.M (Own S0 g s2) w (.sl 0 ts) (a.eval y):=hyv
 have hA:∃A c2,a.eval y= .slice A 0 c2:=by
  generalize a.eval y=v at hyv;cases hyv with
  |emp=>exact⟨_,_,rfl⟩
  |sl=>exact⟨_,_,rfl⟩
 obtain⟨A,c2,hv⟩:=hA
 have hr:(Builtin.append_ #[t,t] o.type #[.slice (some ⟨g j,0,none⟩) m1 c, .slice A 0 c2]).run P w= .ok (.slice (some ⟨g j,0,none⟩) m1 c) w:=by
  have hz:∀ad:Addr,(loadCells ad 0).run P w= .ok #[] w:=fun ad=>by
   simpa using run_loadCells_list (P:=P) w ad [] (fun j v hj=>by simp at hj)
  cases A with
  |none=>simp[Builtin.append_,run_underlying hu,cg hks w,Builtin.lenOf,Builtin.firstCells,e2,storeCells]
  |some ad=>simp[Builtin.append_,run_underlying hu,cg hks w,Builtin.lenOf,Builtin.firstCells,e2,storeCells,hz]
 refine⟨.slice (some ⟨g j,0,none⟩) m1 c,w,?_,Below.refl _ _,hm0⟩;unfold execOp
 simp only[ho,resolve,invoke,builtin,Sem.run_bind,Sem.run_pure,Result.andThen_ok,List.map_toArray,List.map_cons,List.map_nil,e1,hv,hr]
theorem AA {x y:Operand} {t et q:Nat} {ty:Ty} {ts:List AV} (hT:∀t d,T t=some d→bG P t d) (h1:gd ops s o=some true) (ho:o.op= .call ⟨.builtin .append,#[x,y],#[t,t]⟩) (ht:T t=some ty) (hel:ty.elem=some (et,q)) (h7:s.ev x= .nil) (hy:s.ev y= .d (.leaf (.sl 0 ts)))
 (h3:bd n o.dst=true) (h4:gN draw ops (aM ops o ⟨.nil,none⟩ []) k fps=true) (h:aw P T n ops id draw K (k+1) os (s.eff o.dst ⟨.nil,none⟩) (aM ops o ⟨.nil,none⟩ []::fps)):aw P T n ops id draw K k (o::os) s fps:=by
 refine .run h1 (.gen fun s2 ht2 hrb=>?_) h3 h4 h;have hx2:=(aL ht2 (x:=x) (by rw[ho];simp[Op.operands,Call.operands])).trans h7;have hy2:=(aL ht2 (x:=y) (by rw[ho];simp[Op.operands,Call.operands])).trans hy;obtain⟨u,hu,_,hel',_⟩:=(hT _ _ ht).und;obtain⟨rfl,hks⟩:=hel' et q hel;refine aj fun n S0 w0 g a w hM=>?_
 have hm:=hM.ev x;rw[hx2]at hm;have hm:a.eval x= .slice none 0 0:=hm;have hyv:=hM.ev y;rw[hy2]at hyv;have hyv:AV.M (Own S0 g s2) w (.sl 0 ts) (a.eval y):=hyv
 have hA:∃A c2,a.eval y= .slice A 0 c2:=by
  generalize a.eval y=v at hyv;cases hyv with
  |emp=>exact⟨_,_,rfl⟩
  |sl=>exact⟨_,_,rfl⟩
 obtain⟨A,c2,hv⟩:=hA
 have hr:(Builtin.append_ #[t,t] o.type #[.slice none 0 0, .slice A 0 c2]).run P w= .ok (.slice none 0 0) w:=by
  have hz:∀ad:Addr,(loadCells ad 0).run P w= .ok #[] w:=fun ad=>by
   simpa using run_loadCells_list (P:=P) w ad [] (fun j v hj=>by simp at hj)
  cases A with
  |none=>simp[Builtin.append_,run_underlying hu,cg hks w,Builtin.lenOf,Builtin.firstCells,storeCells]
  |some ad=>simp[Builtin.append_,run_underlying hu,cg hks w,Builtin.lenOf,Builtin.firstCells,storeCells,hz]
 refine⟨.slice none 0 0,w,?_,Below.refl _ _,rfl⟩;unfold execOp
 simp only[ho,resolve,invoke,builtin,Sem.run_bind,Sem.run_pure,Result.andThen_ok,List.map_toArray,List.map_cons,List.map_nil,hm,hv,hr]
theorem DR (j':Nat) {d t et q len:Nat} {ty te:Ty} {parts:Array (Nat × Operand)} {l:List (Nat × DV)} {cs:List AV} (hT:∀t d,T t=some d→bG P t d) (h1:gd ops s o=some true) (ho:o.op= .buildSlice t len parts) (hd:o.dst=some d) (h3:bd n o.dst=true) (ht:T t=some ty) (hel:ty.elem=some (et,q)) (hte:T et=some te)
 (hk:(Nat.ble 1 q && (Nat.ble 1 len && (Nat.beq te.zero.length q && (Nat.ble (len*q) 16777216 && Nat.beq cs.length (len*q)))))=true) (hp:gi s parts.toList=some l) (hf:oX (fun i=>some (i*q,q)) (pb te.zero len) l=some cs) (hB:gC cs=true) (hnew:iD s j'=true)
 (h4:gN draw ops (aM ops o ⟨.own j' len q et,some [(j',some cs)]⟩ [j']) k fps=true) (h:aw P T n ops id draw K (k+1) os (s.eff o.dst ⟨.own j' len q et,some [(j',some cs)]⟩) (aM ops o ⟨.own j' len q et,some [(j',some cs)]⟩ [j']::fps)):aw P T n ops id draw K k (o::os) s fps:=by
 simp only[Bool.and_eq_true]at hk
 obtain⟨k1,k2,k3,k4,k5⟩:=hk;have k1:=Nat.le_of_ble_eq_true k1;have k2:=Nat.le_of_ble_eq_true k2;have k3:=Nat.eq_of_beq_eq_true k3;have k4:=Nat.le_of_ble_eq_true k4;have k5:=Nat.eq_of_beq_eq_true k5;refine .run h1 (.gen fun s2 ht2 hrb=>?_) h3 h4 h;have hnew2:iD s2 j'=true:=(f7 (hrb j' (by simp))).trans hnew
 have hp2:gi s2 parts.toList=some l:=by
  rw[← hp];have:∀x∈parts.toList,s2.ev x.2=s.ev x.2:=fun x hx=>aL ht2 (by rw[ho];simp only[Op.operands];simp;exact⟨x.1,by simpa using hx⟩)
  generalize parts.toList=ps at this;clear hp hf
  induction ps with
  |nil=>rfl
  |cons p ps ih=>
   simp only[gi]
   rw[ih (fun x hx=>this x (by simp[hx])),this p (by simp)]
 intro n S0 w0 g a w K' Q hM hdn hK;obtain⟨u,hu,_,hel',_⟩:=(hT _ _ ht).und;obtain⟨rfl,hks⟩:=hel' et q hel;obtain⟨z,hz,hzm⟩:=(hT _ _ hte).zero;have hpos:0<len*q:=Nat.mul_pos k2 k1
 have hzl':z.cells.size=q:=by have:=(hzm (Own S0 g s2) w).1;simp at this;omega
 have hini:CM (Own S0 g s2) w (pb te.zero len) ((Array.range (len*q)).map (fun i=>z.cells[i%z.cells.size]!)).toList:=by
  refine⟨by rw[jZ,k3];simp,fun i b v h1 h2=>?_⟩;rw[qc _ (by omega)]at h1
  split at h1
  ·rename_i hi
   rw[k3]at h1 hi;have hm:i%q<q:=Nat.mod_lt _ k1
   have hv:v=z.cells[i%q]'(by omega):=by
    simp[hi,hzl']at h2
    rw[← h2]
    simp[hzl',hm]
   exact(hzm _ w).2 (i%q) b v h1 (by rw[hv];simp[hzl',hm])
  ·cases h1
 obtain⟨arr,g1,g2⟩:=pk l _ _ _ cs hini (m9 hM parts.toList l hp2) hf;have e:(parts.map fun x=>match x with|(i,y)=>(i,a.eval y)).toList=parts.toList.map fun(p:Nat × Operand)=>(p.1,a.eval p.2):=by simp
 have hr:(execOp a.eval o).run P w= .ok (.value (.slice (some ⟨w.heap.size,0,none⟩) len len)) (w.alloc (.cells arr et)):=by
  unfold execOp;rw[ho]
  simp only[Instr.buildSlice,Sem.run_bind,run_underlying hu w,Result.andThen_ok,cg hks w]
  rw[if_neg (by omega),if_neg (by omega)]
  simp only[Sem.run_bind,kK hz w,Result.andThen_ok,Sem.run_pure,e,g1]
  rfl
 unfold Oper.wp;rw[hr];show K' (a.put o.dst _) _;rw[hd]at hK ⊢;have hsz:arr.size=len*q:=by have:=g2.1;simp at this;omega
 have hl1:len≤9223372036854775807:=by
  have:=Nat.le_mul_of_pos_right len k1;omega
 refine hK _ _ _ (hM.alloc (hdn d hd) (dh hnew2).1 (dh hnew2).2 g2.cp (fun _=>nT g2 hB) (pe hB) (fun h=>by rw[pv hnew2]at h;cases h) fun g' s' hg hb=>?_);refine⟨AS.kn_of hb,fun cs' hc=>⟨len,by rw[hg],Nat.le_refl _,hl1,?_,arr,?_,hsz⟩⟩
 ·rw[hb]at hc;cases hc;exact Nat.le_of_eq k5.symm
 ·rw[hg];exact heap_alloc_new w _
theorem CZ {q:Nat} (hq:s.tv q= .nil):aV s ⟨(q, .d (.leaf (.sl 0 [])))::s.t,s.b⟩:=by
 rintro n S0 w0 a w ⟨g,h⟩;have hm:=h.tm q;rw[hq]at hm;exact⟨g,h.reslot (ES (tv:= .nil) rfl hm) rfl (by show rZ (s.tv q)=true;rw[hq];rfl)⟩
theorem CC {q m:Nat} {cs:List AV} (i:Nat) (hq:s.tv q= .d (.leaf (.sl m cs))):aV s ⟨(q, .d (.leaf (.sl m (cs.take i))))::s.t,s.b⟩:=by
 rintro n S0 w0 a w ⟨g,h⟩;have hm:=h.tm q;rw[hq]at hm;have hm:AV.M (Own S0 g s) w (.sl m cs) (a.tmps.getD q Go.undef):=hm
 have key:AV.M (Own S0 g s) w (.sl m (cs.take i)) (a.tmps.getD q Go.undef):=by
  generalize a.tmps.getD q Go.undef=v at hm
  have hc:∀(p:Nat) (b:AV),(cs.take i)[p]? =some b→cs[p]? =some b:=fun p b hb=>by
   rw[List.getElem?_take]at hb
   split at hb
   ·exact hb
   ·cases hb
  cases hm with
  |emp h1 h2 h3=>rw[List.take_nil];exact .emp h1 h2 h3
  |sl f h1 h2 h3 h4 h5 h6=>exact .sl f h1 h2 h3 h4 (fun p b hb=>h5 p b (hc p b hb)) (fun p b hb=>h6 p b (hc p b hb))
 exact⟨g,h.reslot key rfl (by show rZ (s.tv q)=true;rw[hq];rfl)⟩
end
end Go.Proofs.YtikbnnljjeefgaaGreatDoor
