/- Parts of a proof: contracts of the functions that the laws reach. -/
import Derived.Test.YtnchbpoopnjghaaGreatDoorHZ8
set_option maxHeartbeats 100000000
set_option linter.all false
open Go.Proofs.Tryz
namespace Go.Proofs.YtnchbpoopnjghaaGreatDoor
open Go.RowKit
def bO:B4->Nat
 | .add=>1
 | .sub=>1
 | .mul=>2
 | .div=>2
def tw:Ex->Nat
 | .num _ _=>4
 | .nam _=>4
 | .neg _=>3
 | .bin k _ _=>bO k
def VA:Ex->Int
 | .num _ _=>1
 | .nam _=>2
 | .neg _=>3
 | .bin k _ _=>k.code
def f8:B4->List UInt8
 | .add=>[32,43,32]
 | .sub=>[32,45,32]
 | .mul=>[32,42,32]
 | .div=>[32,47,32]
noncomputable def tW (v:Rat):List UInt8:=(fg v).getD []
def el (u:List UInt8):List UInt8:=if u=[]then []else 32::u
def fS (lv least:Nat) (t:List UInt8):List UInt8:=if lv<least then [40]++t++[41]else t
noncomputable def aH:Ex->Nat->List UInt8
 | .num v u,n=>fS 4 n (tW v++el u)
 | .nam s,n=>fS 4 n s
 | .neg a,n=>fS 3 n ([45]++aH a 3)
 | .bin k a b,n=>fS (bO k) n (aH a (bO k)++f8 k++aH b (bO k+1))
def f4:Ex->Prop
 | .num v u=>(fg v).isSome=true/\dO 510 v/\(u=[]∨kh u=true)
 | .nam s=>kh s=true
 | .neg a=>f4 a
 | .bin _ a b=>f4 a/\f4 b
theorem g8 (lv n:Nat) (t:List UInt8):t.length<=(fS lv n t).length/\(fS lv n t).length<=t.length+2:=by
 unfold fS
 split
 ·simp;omega
 ·omega
theorem mw (e:Ex) (n:Nat):aH e n=fS (tw e) n (aH e 0):=by
 have h0:∀(lv:Nat) (t:List UInt8),fS lv 0 t=t:=fun lv t=>if_neg (Nat.not_lt_zero _)
 cases e<;>simp only[aH,tw,h0]
theorem nF (e:Ex):aa Tryz.prog 113 [dN .i64 (VA e)] (.one (dN .i64 (tw e))):=by
 cases e with
 |num v u=>
  refine kU func113 ?_;exact ap
 |nam s=>
  refine kU func113 ?_;exact ap
 |neg a=>
  refine kU func113 ?_;exact ap
 |bin k a b=>
  cases k
  all_goals
   refine kU func113 ?_;exact kF
theorem gI {e:Ex} (n:Nat) (hn:n<=9) (hl:(aH e n).length<=1000000000) (ht:aa Tryz.prog 68 [dE e] (.one (dL (aH e 0)))):aa Tryz.prog 112 [dE e,dN .i64 n] (.one (dL (aH e n))):=by
 have hw:=mw e n;have hwl:=g8 (tw e) n (aH e 0);rw[<- hw]at hwl;have cl:=nF e;obtain⟨o1,na1,xs1,nb1,ys1,nm1,n1,cs1,hA⟩:=aY e
 have ho:o1=(VA e):=by
  have h:=congrArg (fun l:List AV=>l[0]?) hA;cases e<;>(injection h with h;injection h with h;injection h with _ h;exact h.symm)
 rw[<- ho]at cl;rw[show dE e= .agg (ab o1 na1 xs1 nb1 ys1 nm1 n1 cs1) from congrArg DV.agg hA]at ht ⊢
 by_cases hlt:tw e<n
 ·rw[fS,if_pos hlt]at hw
  rw[hw];refine kU func112 ?_;refine Bx ?_;refine kC (cl) ?_;refine FN ?_;refine kC (ht) ?_;refine aq rfl rfl rfl rfl rfl rfl rfl (aD (a:=[40]) (b:=aH e 0) (by simp;omega)) ?_;refine aq rfl rfl rfl rfl rfl rfl rfl (aD (a:=[40]++aH e 0) (b:=[41]) (by simp;omega)) ?_;exact ap
 ·rw[fS,if_neg hlt]at hw
  rw[hw];refine kU func112 ?_;refine Bx ?_;refine kC (cl) ?_;refine ug ?_;refine kC (ht) ?_;exact ap
theorem gO:∀(e:Ex),f4 e->(aH e 0).length<=1000000000->aa Tryz.prog 68 [dE e] (.one (dL (aH e 0)))
 | .num v u,hf,hl=>by
  obtain⟨h1,h2,h3⟩:=hf;obtain⟨t,c,ht⟩:=oX h2 (by decide);obtain⟨d,hd⟩:=Option.isSome_iff_exists.1 h1;rw[ht d hd,h1]at c
  have e0:aH (.num v u) 0=d++el u:=by
   show tW v++el u=_;rw[tW,hd];rfl
  rw[e0]at hl ⊢;refine C0 ?_
  by_cases hu:u=[]
  ·subst hu
   rw[show el []=[] from rfl,List.append_nil];refine kV func68 ?_;refine kC (c) ?_;refine kG ?_
   refine kO2 ?_
   refine C9 ?_;exact ap
  ·have hu2:el u=32::u:=if_neg hu
   rw[hu2]at hl ⊢
   simp only[List.length_append,List.length_cons]at hl
   refine kV func68 ?_;refine kC (c) ?_;refine u9 ?_;refine aq rfl rfl rfl rfl rfl rfl rfl (aD (a:=[32]) (b:=u) (by simp;omega)) ?_;refine aq rfl rfl rfl rfl rfl rfl rfl (aD (a:=d) (b:=[32]++u) (by simp;omega)) ?_;exact ap
 | .nam s,hf,hl=>by
  show aa Tryz.prog _ [.agg ([.val (.int .i64 2)]++iP++[.val (vL s), .sl 0 []])] (.one (dL s));refine kU func68 ?_;exact ap
 | .neg a,hf,hl=>by
  have e0:aH (.neg a) 0=[45]++aH a 3:=rfl;rw[e0]at hl ⊢
  simp only[List.length_append,List.length_cons,List.length_nil]at hl
  have hla:=g8 (tw a) 3 (aH a 0);rw[<- mw]at hla;have c:=gI (e:=a) 3 (by decide) (by omega) (gO a hf (by omega));obtain⟨o1,na1,xs1,nb1,ys1,nm1,n1,cs1,hA⟩:=aY a;refine Uo ?_;rw[show dE a= .agg (ab o1 na1 xs1 nb1 ys1 nm1 n1 cs1) from congrArg DV.agg hA]at c;refine kU func68 ?_;refine IZ ?_;refine kO ?_;refine kC (c) ?_;refine aq rfl rfl rfl rfl rfl rfl rfl (aD (a:=[45]) (b:=aH a 3) (by simp;omega)) ?_;exact ap
 | .bin k a b,hf,hl=>by
  have e0:aH (.bin k a b) 0=aH a (bO k)++f8 k++aH b (bO k+1):=by
   show fS (bO k) 0 _=_;exact if_neg (Nat.not_lt_zero _)
  rw[e0]at hl ⊢
  simp only[List.length_append]at hl
  have hla:=g8 (tw a) (bO k) (aH a 0);rw[<- mw]at hla;have hlb:=g8 (tw b) (bO k+1) (aH b 0);rw[<- mw]at hlb;have hk3:bO k<=2:=by cases k<;>decide
  have ca:=gI (e:=a) (bO k) (by omega) (by omega) (gO a hf.1 (by omega));have cb:=gI (e:=b) (bO k+1) (by omega) (by omega) (gO b hf.2 (by omega));have cl:=nF (.bin k a b);obtain⟨o1,na1,xs1,nb1,ys1,nm1,n1,cs1,hA⟩:=aY a;obtain⟨o2,na2,xs2,nb2,ys2,nm2,n2,cs2,hA2⟩:=aY b;rw[show dE (.bin k a b)= .agg ([.val (.int .i64 k.code)]++iP++[.val (vL []), .sl 2 (aE a++aE b)]) from congrArg DV.agg (iY k a b),hA,hA2];rw[show dE a= .agg (ab o1 na1 xs1 nb1 ys1 nm1 n1 cs1) from congrArg DV.agg hA]at ca;rw[show dE b= .agg (ab o2 na2 xs2 nb2 ys2 nm2 n2 cs2) from congrArg DV.agg hA2]at cb;have hsy:(f8 k).length=3:=by cases k<;>rfl
  generalize hxa:aH a (bO k)=ta at *;generalize hxb:aH b (bO k+1)=tb at *;cases k
  ·refine kV func68 ?_
   refine aG (i:=0) (cs':=[.val (vL (f8 .add))]) (by decide) (fun j a h=>by
    match j,h with
    |0,h=>exact h) (by decide) rfl rfl rfl rfl rfl rfl rfl rfl ?_
   refine O6 ?_;refine aq rfl rfl rfl rfl rfl rfl rfl (aD (a:=ta) (b:=f8 .add) (by omega)) ?_;refine Mo ?_;refine kC (cb) ?_;refine aq rfl rfl rfl rfl rfl rfl rfl (aD (a:=ta++f8 .add) (b:=tb) (by rw[List.length_append];omega)) ?_;exact ap
  ·refine kV func68 ?_
   refine aG (i:=1) (cs':=[.val (vL (f8 .sub))]) (by decide) (fun j a h=>by
    match j,h with
    |0,h=>exact h) (by decide) rfl rfl rfl rfl rfl rfl rfl rfl ?_
   refine O6 ?_;refine aq rfl rfl rfl rfl rfl rfl rfl (aD (a:=ta) (b:=f8 .sub) (by omega)) ?_;refine Mo ?_;refine kC (cb) ?_;refine aq rfl rfl rfl rfl rfl rfl rfl (aD (a:=ta++f8 .sub) (b:=tb) (by rw[List.length_append];omega)) ?_;exact ap
  ·refine kV func68 ?_
   refine aG (i:=2) (cs':=[.val (vL (f8 .mul))]) (by decide) (fun j a h=>by
    match j,h with
    |0,h=>exact h) (by decide) rfl rfl rfl rfl rfl rfl rfl rfl ?_
   refine O6 ?_;refine aq rfl rfl rfl rfl rfl rfl rfl (aD (a:=ta) (b:=f8 .mul) (by omega)) ?_;refine Mo ?_;refine kC (cb) ?_;refine aq rfl rfl rfl rfl rfl rfl rfl (aD (a:=ta++f8 .mul) (b:=tb) (by rw[List.length_append];omega)) ?_;exact ap
  ·refine kV func68 ?_
   refine aG (i:=3) (cs':=[.val (vL (f8 .div))]) (by decide) (fun j a h=>by
    match j,h with
    |0,h=>exact h) (by decide) rfl rfl rfl rfl rfl rfl rfl rfl ?_
   refine O6 ?_;refine aq rfl rfl rfl rfl rfl rfl rfl (aD (a:=ta) (b:=f8 .div) (by omega)) ?_;refine Mo ?_;refine kC (cb) ?_;refine aq rfl rfl rfl rfl rfl rfl rfl (aD (a:=ta++f8 .div) (b:=tb) (by rw[List.length_append];omega)) ?_;exact ap
theorem nE {P:Program} {w:World} (t u ty:TypeId) (e:TypeId) (i:TypeInfo) (ht:P.underlying t=some (.slice e)) (hu:P.underlying u=some .string) (hi:P.info? e=some i) (hz:i.zero=some (.int .u8 0))
 (hsize:i.size=1) (hby:i.bytes=1)
 (v:Value) (n:Nat) (xs:List Value) (hown:w.ownsRow 0 e 1 v n xs) (s:ByteArray)
 (hm:0<s.size) (h63:n+s.size<=maxLen) (hbytes:n+s.size<=140737488355328):
 ∃g cap w',(Builtin.append_ #[t,u] ty #[v, .string s]).run P w= .ok (.slice (some ⟨g,0,none⟩) (n+s.size) cap) w' /\
  w'.ownsRow 0 e 1 (.slice (some ⟨g,0,none⟩) (n+s.size) cap) (n+s.size) (xs++Lib.strCells s)/\w.grownBy w' v.ownBlock/\(v.ownBlock=some g∨g=w.heap.size)/\g<w'.heap.size /\
  (v.ownBlock≠some g-> ∀b,b<w.heap.size->w'.heap[b]? =w.heap[b]?) /\
  (∀arr,v.ownBlock=some g->w.heap[g]? =some (.cells arr e (0,0))-> ∀cur,w'.heap[g]? =some (.cells cur e (0,0))->cur.size=arr.size) /\
  (∀(p:Value->Prop),p (.int .u8 0)->(∀u∈Lib.strCells s,p u)->(∀b,v.ownBlock=some b-> ∀arr,w.heap[b]? =some (.cells arr e (0,0))-> ∀u∈arr.toList,p u)-> ∀cur,w'.heap[g]? =some (.cells cur e (0,0))-> ∀u∈cur.toList,p u):=by
 have hsmall:n+s.size<=9223372036854775807:=by simp only[maxLen]at h63;omega
 have hxl:xs.length=n:=by simpa using hown.1
 have hsl:(Lib.strCells s).length=s.size:=Lib.strCells_length s;have hlen:(xs++Lib.strCells s).length=(n+s.size)*1:=by rw[List.length_append,hxl,hsl,Nat.mul_one]
 have pz:∀(p:Value->Prop) k,p (.int .u8 0)-> ∀u∈(Builtin.zeroCells (Value.int .u8 0).cells k).toList,p u:=by
  intro p k hp u hu;obtain⟨q,hq⟩:=List.getElem?_of_mem hu;obtain⟨hql,hqe⟩:=(List.getElem?_eq_some_iff.1 hq)
  simp only[Builtin.zeroCells]at hqe hql
  rw[<- hqe];have hc:(Value.int IntKind.u8 0).cells= #[.int .u8 0]:=rfl
  simp only[Array.getElem_toList,Array.getElem_map,Array.getElem_range,hc]
  have h1:(#[Value.int IntKind.u8 0]:Array Value).size=1:=rfl;have h2:q%(#[Value.int IntKind.u8 0]:Array Value).size=0:=by rw[h1];omega
  rw[h2];exact hp
 have grown:∀(old:Nat),old<n+s.size-> ∀(row:Option Nat),
  (w.drew.alloc (.cells (xs.toArray++(Lib.strCells s).toArray++Builtin.zeroCells (Value.int .u8 0).cells (grownCap w (n+s.size) old e-(n+s.size))) e)).ownsRow 0 e 1
   (.slice (some ⟨w.heap.size,0,none⟩) (n+s.size) (grownCap w (n+s.size) old e)) (n+s.size) (xs++Lib.strCells s) /\
  w.grownBy (w.drew.alloc (.cells (xs.toArray++(Lib.strCells s).toArray++Builtin.zeroCells (Value.int .u8 0).cells (grownCap w (n+s.size) old e-(n+s.size))) e)) row:=by
  intro old ho row;have hge:=grownCap_ge w (n+s.size) old e;have hcm:grownCap w (n+s.size) old e<=maxLen:=grownCap_le_maxLen w (n+s.size) old e h63;refine⟨⟨hlen, .inr ⟨w.heap.size,_,_,rfl,Nat.zero_le _,heap_alloc_new w.drew _,hge,hcm,?_,?_⟩⟩,⟨rfl,rfl,rfl,by simp,fun k hk _=>Below.heap_alloc w.drew _ k hk⟩⟩
  ·have hz1:(Value.int IntKind.u8 0).cells.size=1:=rfl
   simp only[Array.size_append,List.size_toArray,size_zeroCells,hz1,hxl,hsl]
   omega
  ·simp only[Array.toList_append,List.append_assoc]
   rw[<- List.append_assoc,<- hlen];exact List.take_left
 have fresh:∀(old:Nat) (p:Value->Prop),p (.int .u8 0)->(∀u∈Lib.strCells s,p u)->(∀u∈xs,p u)-> ∀cur,(w.drew.alloc (.cells (xs.toArray++(Lib.strCells s).toArray++Builtin.zeroCells (Value.int .u8 0).cells (grownCap w (n+s.size) old e-(n+s.size))) e)).heap[w.heap.size]? =some (.cells cur e (0,0))-> ∀u∈cur.toList,p u:=by
  intro old p h2 h3 h4 cur hc u hu;have h5:=heap_alloc_new w.drew (.cells (xs.toArray++(Lib.strCells s).toArray++Builtin.zeroCells (Value.int .u8 0).cells (grownCap w (n+s.size) old e-(n+s.size))) e);have h6:(w.drew.alloc (.cells (xs.toArray++(Lib.strCells s).toArray++Builtin.zeroCells (Value.int .u8 0).cells (grownCap w (n+s.size) old e-(n+s.size))) e)).heap[w.heap.size]? =some (.cells (xs.toArray++(Lib.strCells s).toArray++Builtin.zeroCells (Value.int .u8 0).cells (grownCap w (n+s.size) old e-(n+s.size))) e (0,0)):=h5;rw[h6]at hc
  simp only[Option.some.injEq,Obj.cells.injEq]at hc
  rw[<- hc.1]at hu
  simp only[Array.toList_append,List.mem_append]at hu
  rcases hu with(hu|hu)|hu
  ·exact h4 u (by simpa using hu)
  ·exact h3 u (by simpa using hu)
  ·exact pz p _ h2 u hu
 rcases hown.2 with⟨rfl,rfl⟩| ⟨g,cap,cur,rfl,hbg,hg,hnc,hcm,hcs,htake⟩
 ·have hx:xs=[]:=List.eq_nil_of_length_eq_zero hxl
  subst hx;have hr:=run_append_nil_string (P:=P) w t u ty e i (.int .u8 0) ht hu hi hz s hm (by omega) (by rw[hby];omega);have hgr:=grown 0 (by omega) (Value.ownBlock (.slice none 0 0));have hfr:=fresh 0
  simp only[Nat.zero_add,List.nil_append,Array.empty_append]at hgr hfr ⊢
  have e1:(s.data.map fun b=>Value.int .u8 b.toNat)=(Lib.strCells s).toArray:=by
   apply Array.ext'
   simp[Lib.strCells]
  rw[e1]at hr;refine⟨_,_,_,hr,hgr.1,hgr.2,Or.inr rfl,?_,fun _ b hb=>Below.heap_alloc w.drew _ b hb,fun _ h=>by simp[Value.ownBlock]at h,fun p h2 h3 _=>hfr p h2 h3 (fun u hu=>by cases hu)⟩;show w.heap.size<(w.heap.push _).size
  simp
 ·by_cases hroom:n+s.size<=cap
  ·have hcs':cur.size=cap:=by simpa using hcs
   have hr:=Lib.run_append_room_string (P:=P) w t u ty e i ht hu hi hsize g n cap cur hg s hroom (by omega);have hset:=setRow_heap w g cur (cur.toList.take n++Lib.strCells s++cur.toList.drop (n+s.size)).toArray e (0,0) hg;refine⟨g,cap,_,hr,⟨hlen, .inr ⟨g,cap,_,rfl,hbg,hset,hroom,hcm,?_,?_⟩⟩,⟨rfl,rfl,rfl,by simp,fun k _ hk=>setRow_other w g k _ (fun e=>hk (by simp[Value.ownBlock,e]))⟩,Or.inl rfl,?_,fun h=>absurd rfl h,?_,?_⟩
   ·exact Nu
   ·have ht':cur.toList.take n=xs:=by simpa using htake
    rw[ht',<- hlen];exact List.take_left
   ·exact(Array.getElem?_eq_some_iff.1 hset).1
   ·intro arr _ harr cur' hc
    rw[hset]at hc;rw[hg]at harr
    simp only[Option.some.injEq,Obj.cells.injEq]at hc harr
    rw[<- hc.1,<- harr.1];exact Nu
   ·intro p _ h3 h4 cur' hc u hu
    rw[hset]at hc
    simp only[Option.some.injEq,Obj.cells.injEq]at hc
    rw[<- hc.1]at hu
    simp only[List.mem_append]at hu
    have hold:=h4 g rfl cur hg;rcases hu with(hu|hu)|hu
    ·exact hold u (List.mem_of_mem_take hu)
    ·exact h3 u hu
    ·exact hold u (List.mem_of_mem_drop hu)
  ·have holds:∀j u,xs[j]? =some u->w.cell? ((⟨g,0,none⟩:Addr).add j)=some u:=hown.cells (g:=g) rfl
   have hr:=Lib.run_append_grow_string (P:=P) w t u ty e i (.int .u8 0) ht hu hi hz ⟨g,0,none⟩ n cap xs (by rw[hsize];simpa using hxl) holds s (by omega) (by omega) (by rw[hby];exact growslice_fits (by omega) (by omega));have hgr:=grown cap (by omega) (Value.ownBlock (.slice (some ⟨g,0,none⟩) n cap));have hgl:g<w.heap.size:=(Array.getElem?_eq_some_iff.1 hg).1
   refine⟨_,_,_,hr,hgr.1,hgr.2,Or.inr rfl,?_,fun _ b hb=>Below.heap_alloc w.drew _ b hb,fun arr h=>?_,fun p h2 h3 h4=>fresh cap p h2 h3 (fun u hu=>h4 g rfl cur hg u ?_)⟩
   ·show w.heap.size<(w.heap.push _).size
    simp
   ·simp only[Value.ownBlock,Option.some.injEq]at h
    omega
   ·rw[<- htake]at hu
    exact List.mem_of_mem_take hu
def pZ (l:List UInt8):List AV:=l.map fun c=>AV.val (.int .u8 c.toNat)
theorem Em (l:List UInt8):(pZ l).length=l.length:=by simp[pZ]
theorem Nj (l m:List UInt8):pZ (l++m)=pZ l++pZ m:=by simp[pZ]
theorem uY (l:List UInt8):Lib.strCells (Bs l)=l.map fun c=>Value.int .u8 c.toNat:=by
 simp[Lib.strCells,Bs]
theorem TX (S:Nat->Prop) (w:World) (l:List UInt8):CM S w (pZ l) (Lib.strCells (Bs l)):=by
 rw[uY];refine⟨by simp[pZ],fun i a v h1 h2=>?_⟩
 simp only[pZ,List.getElem?_map,Option.map_eq_some_iff]at h1 h2
 obtain⟨c,h3,rfl⟩:=h1;obtain⟨c',h4,rfl⟩:=h2;rw[h3]at h4;cases h4;exact .val rfl
section
variable {P:Program} {T:TypeId->Option Ty} {n:Nat} {ops:Array Oper} {id:Nat} {draw:Bool} {K:AS->Prop} {s:AS} {k:Nat} {o:Oper} {os:List Oper} {fps:List FP}
structure JJ (P:Program) (t u e:TypeId):Prop where
 sl:P.underlying t=some (.slice e)
 str:P.underlying u=some .string
 inf:∃i,P.info? e=some i/\i.zero=some (.int .u8 0)/\i.size=1/\i.bytes=1
theorem ID (j':Nat) {d:Nat} {x y:Operand} {t u et m1 m:Nat} {dead:Option Nat} {cs cs':List AV} {l:List UInt8} (em:m1+l.length=m) (ec:cs.take (m1*1)++pZ l=cs') (hbt:JJ P t u et) (hm:l≠[]) (hb:m1+l.length<=140737488355328) (h0:draw=false) (h1:gd ops s o=some true) (ho:o.op= .call ⟨.builtin .append,#[x,y],#[t,u]⟩) (hd:o.dst=some d) (h3:aL n o.dst=true)
 (hbase:eU s x m1 1 et dead cs) (hy:s.ev y= .d (.leaf (.val (vL l)))) (hnew:ge s j'=true) (hcl:kd dead=true)
 (h:au P T n ops id draw K (k+1) os ⟨(d, .own j' m 1 et)::s.t,(j',some cs')::f3 dead s.b⟩ (aB ops o ⟨.junk,none⟩ []::fps)):au P T n ops id draw K k (o::os) s fps:=by
 subst em ec;refine .snd h0 h1 (fun S0 w0 g a w K' Q hM hK=>?_) h;obtain⟨i,hi,hz,his,hib⟩:=hbt.inf;obtain⟨v,hxv,olds,hown,hblk,hcln,holds⟩:=qJ hM hbase;have hyv:=bg hM hy;have hsz:(Bs l).size=l.length:=aF l;have hpos:0<(Bs l).size:=by rw[hsz];exact List.length_pos_iff.2 hm
 obtain⟨B,cap,w',hr,h2,h3',h4,_,h5,h6,h7⟩:=nE (P:=P) (w:=w) t u o.type et i hbt.sl hbt.str hi hz his hib v m1 olds hown (Bs l) hpos (by unfold maxLen;omega) (by omega);rw[hsz]at hr h2
 have:=rD (d:=d) hM (dG h3 d hd) hbase (xs:=pZ l) (m2:=l.length) (by rw[Em];omega) (bD hnew) (kL hnew) hown hblk hcln holds (TX _ _ l) h2 h3' h4 h5 h6 (fun hwf cur hc u' hu=>by
  refine h7 (fun u=>fX u=true) rfl (fun u hu=>?_) (fun b hb arr har u hu=>?_) cur hc u' hu
  ·rw[uY]at hu
   obtain⟨c,_,rfl⟩:=List.mem_map.1 hu;rfl
  ·obtain⟨j,hj,rfl⟩:=hblk b hb
   obtain⟨_,arr',h11,h12⟩:=hcln j hj;rw[h11]at har
   simp only[Option.some.injEq,Obj.cells.injEq]at har
   obtain⟨rfl,_⟩:=har;rw[hj]at hcl;exact h12 (by simpa[kd]using hcl) u hu)
 unfold Oper.wp execOp
 simp only[ho,resolve,invoke,builtin,Sem.run_bind,Sem.run_pure,Result.andThen_ok,List.map_toArray,List.map_cons,List.map_nil,hxv,hyv,vL,hr]
 show K' (a.put o.dst _) w';rw[hd];exact hK _ _ _ this
theorem Uk (hz:(P.info? vN).bind (·.zero)=some (.agg #[.pointer none, .slice none 0 0])) {d:Nat} (h1:gd ops s o=some true) (ho:o.op= .alloc vN) (hd:o.dst=some d) (hj:ak s.b 850=none) (h3:aL n o.dst=true)
 (h4:fh draw ops (aB ops o ⟨.box 850 0,some [(850,some [.val (.pointer none), .nl])]⟩ [850]) k fps=true) (h:au P T n ops id draw K (k+1) os (s.eff o.dst ⟨.box 850 0,some [(850,some [.val (.pointer none), .nl])]⟩) (aB ops o ⟨.box 850 0,some [(850,some [.val (.pointer none), .nl])]⟩ [850]::fps)):au P T n ops id draw K k (o::os) s fps:=
 .run h1 (.gen fun s2 _ hrb=>n8 hd ⟨(hrb 850 (by simp)).trans hj,rfl⟩ (fun n S0 w0 g a w hM=>by
  refine⟨#[.pointer none, .slice none 0 0],vN,?_,CM.cons (.val rfl) (CM.cons .nl (CM.nil _ _)),fun _=>⟨rfl,rfl⟩⟩;unfold execOp;rw[ho]
  simp only[Instr.alloc,Sem.run_bind,jN hz w,Result.andThen_ok]
  rfl) rfl) h3 h4 h
end
theorem H7:JJ Tryz.prog 137 9 5:=⟨underlying137,underlying9,by
 obtain⟨i,h1,h2⟩:=Option.map_eq_some_iff.1 rg
 simp only[Prod.mk.injEq]at h2
 exact⟨i,h1,h2.1,h2.2.1,h2.2.2⟩⟩
theorem yW:((Tryz.prog).info? vN).bind (·.zero)=some (.agg #[.pointer none, .slice none 0 0]):=by kernel_rfl
def Px:Ty:=⟨true,2,32,[.val (.pointer none), .nl],[(0,1,false),(1,1,false)],none,false,false,none⟩
theorem QO:a8 Tryz.prog 139 Px where
 size:=by kernel_rfl
 bytes:=by kernel_rfl
 und:=by
  refine⟨_,underlying139,rfl,fun et k h=>(by cases h),fun fs h=>?_,fun h=>(by cases h),fun h=>(by cases h),fun k h=>(by cases h),fun f o k b h=>?_⟩
  ·cases h;rfl
  ·match f,h with
   |0,h=>cases h;exact⟨_,_,_,rfl,rfl,rfl,by kernel_rfl,by decide,underlying136,rfl⟩
   |1,h=>cases h;exact⟨_,_,_,rfl,rfl,rfl,by kernel_rfl,by decide,underlying137,rfl⟩
   |n+2,h=>simp[Px]at h
 zero:=⟨_,yW,fun S w=>CM.cons (.val rfl) (CM.cons .nl (CM.nil _ _))⟩
 zlen:=rfl
section
variable {P:Program} {T:TypeId->Option Ty} {n:Nat} {ops:Array Oper} {id:Nat} {draw:Bool} {K:AS->Prop} {s:AS} {k:Nat} {o:Oper} {os:List Oper} {fps:List FP}
theorem SB {t:TypeId} {ty:Ty} {x:Operand} {f off k0 j i:Nat} {ag:Bool} {cs:List AV} (hT:a8 P t ty) (hf:ty.flds[f]? =some (off,k0,ag)) (h1:gd ops s o=some true) (ho:o.op= .fieldAddr t x f) (hx:s.ev x= .box j i) (hj:s.bx j=some cs) (h3:aL n o.dst=true)
 (h4:fh draw ops (aB ops o ⟨.box j (i+off),none⟩ [j]) k fps=true) (h:au P T n ops id draw K (k+1) os (s.eff o.dst ⟨.box j (i+off),none⟩) (aB ops o ⟨.box j (i+off),none⟩ [j]::fps)):au P T n ops id draw K k (o::os) s fps:=
 .run h1 (.gen fun s2 ht hrb=>by
  have hx2:=(ax ht (x:=x) (by simp[ho,Op.operands])).trans hx;exact jx hT ho hf hx2 rfl (fun j' k' e=>by cases e;exact⟨cs,(bh (hrb j (by simp))).trans hj⟩)) h3 h4 h
theorem NX {v:Value} (hv:v.oneCell'=true) (h1:gd ops s o=some true) (ho:o.op= .assign (.const v)) (h3:aL n o.dst=true) (h4:fh draw ops (aB ops o ⟨.d (.leaf (.val v)),none⟩ []) k fps=true)
 (h:au P T n ops id draw K (k+1) os (s.eff o.dst ⟨.d (.leaf (.val v)),none⟩) (aB ops o ⟨.d (.leaf (.val v)),none⟩ []::fps)):au P T n ops id draw K k (o::os) s fps:=
 .run h1 (.gen fun s2 _ _=>am (tv:= .d (.leaf (.val v))) fun n S0 w0 g a w hM=>⟨v,w,(by
  unfold execOp;rw[ho]
  rfl),Below.refl _ _,AV.M.val hv⟩) h3 h4 h
end
section
open Go.Shelf Go.RowKit
abbrev Ad:BL:=[(950,[.val (.pointer none), .nl])]
abbrev il (r:Nat) (l:List UInt8):BL:=[(950,[.bp 950 0, .ow r l.length 1 5]),(r,pZ l)]
theorem DT {r:Nat} {l:List UInt8}:dp Ad (il r l):=fun j cs cs' h h'=>by
 obtain⟨rfl,rfl⟩:=bd.1 h;have h':some _=some cs':=h';cases h';exact Nat.le_refl 2
theorem qa {r r':Nat} {l l':List UInt8} (h5:(r == r')=false) (h9:(r == 950)=false) (h9':(r' == 950)=false):dp (il r l) (il r' l'):=fun j cs cs' h h'=>by
 rw[beq_eq_false_iff_ne]at h5 h9 h9';rw[bM]at h h'
 by_cases e:j=950
 ·subst e
  have h:some (some _)=some (some cs):=h;have h':some (some _)=some (some cs'):=h';cases h;cases h';exact Nat.le_refl 2
 ·rw[av,ar _ _ (Ne.symm e),av]at h h'
  by_cases e2:r=j
  ·subst e2
   rw[ar _ _ (Ne.symm h5)]at h';cases h'
  ·rw[ar _ _ e2]at h
   cases h
theorem SW {S:Nat->Prop} {w:World} {v:Value} (h:AV.M S w .nl v):v= .slice none 0 0:=by cases h;rfl
theorem HL {S:Nat->Prop} {g:Nat->Nat} {b:BL} {r:RT} {w:World} {v:Value} (h:EW S g w b) (hv:TV.M (Own S g (sB b)) g (sB b) w r.tv v):wk S g b r b w (.returned v) w:=
 ⟨v,g,rfl,fun j cs cs' h1 h2=>by rw[h1]at h2;cases h2;exact⟨rfl,Nat.le_refl _⟩,fun j cs' hj=>⟨.inr ⟨j,cs',hj,rfl⟩,h.bm j cs' hj⟩,h.inj,hv,b8.refl _ _⟩
theorem Si {S:Nat->Prop} {g:Nat->Nat} {s:AS} {w:World}:TV.M S g s w (RT.v (.tup [])).tv (.tuple #[]):=⟨[],rfl,rfl,fun i x u h1 _=>by simp at h1⟩
theorem wj {S:Nat->Prop} {g:Nat->Nat} {b:BL} {w:World} {j:Nat} {cs:List AV} {vs:List Value} (hj:(sB b).bx j=some cs) (hv:nK S g (sB b) w [.box j 0] vs):vs=[.pointer (some ⟨g j,0,none⟩)]:=by
 match vs,hv with
 | [v],⟨h,_⟩=>rw[h.2 cs hj]
theorem K8 (r:Nat) (l:List UInt8):aw Tryz.prog 145 [.box 950 0] (il r l) (.v (.tup [])) (il r l):=by
 refine⟨aA func145 rfl rfl,fun S g w vs hpre hv=>?_⟩;have hj:(sB (il r l)).bx 950=some [.bp 950 0, .ow r l.length 1 5]:=rfl;rw[wj hj hv];obtain⟨arr,e,h1,h2,_,h4,h5⟩:=hpre.bm 950 _ hj;have hlen:=(h5 rfl).2
 have h0:w.cell? ⟨g 950,0,none⟩=some (.pointer (some ⟨g 950,0,none⟩)):=by
  rw[dm h1];have hx:arr.toList[0]? =some arr[0]:=by simp[hlen]
  have:=h4 rfl 0 (.bp 950 0) arr[0] rfl hx;rw[show arr[0]? =some arr[0] by simp[hlen],this.2 _ hj]
 refine(j3 (g 950) w h0).mono ?_;rintro e w' ⟨rfl,rfl⟩;exact HL hpre Si
theorem FM {w:World} {B:Nat} {arr:Array Value} {e:TypeId} {v:Value} (h:w.heap[B]? =some (.cells arr e (0,0))):(w.setCell ⟨B,0,none⟩ v).heap[B]? =some (.cells (arr.setIfInBounds 0 v) e (0,0)):=by
 simp[World.setCell,Array.getElem?_modify,h]
theorem Af {w:World} {B k:Nat} {v:Value} (h:k≠B):(w.setCell ⟨B,0,none⟩ v).heap[k]? =w.heap[k]?:=by
 simp[World.setCell,Array.getElem?_modify,Ne.symm h]
theorem It:aw Tryz.prog 145 [.box 950 0] Ad (.v (.tup [])) [(950,[.bp 950 0, .nl])]:=by
 refine⟨aA func145 rfl rfl,fun S g w vs hpre hv=>?_⟩;have hj:(sB Ad).bx 950=some [.val (.pointer none), .nl]:=rfl;rw[wj hj hv];obtain⟨arr,e,h1,h2,h3,h4,h5⟩:=hpre.bm 950 _ hj;obtain⟨rfl,hlen⟩:=h5 rfl;have h20:=h2.2 0 (.val (.pointer none)) arr[0] rfl (by simp[hlen]);have h21:=h2.2 1 .nl arr[1] rfl (by simp[hlen])
 have h0:w.cell? ⟨g 950,0,none⟩=some (.pointer none):=by
  rw[dm h1,show arr[0]? =some arr[0] by simp[hlen],a6 h20]
 refine(jz (g 950) w h0 (by simp[World.shape?,h1,hlen];rfl) (by simp[World.frozen?,h1])).mono ?_;rintro e w' ⟨rfl,rfl⟩;have hh:=FM (v:= .pointer (some ⟨g 950,0,none⟩)) h1;have hO:∀c c',Own S g (sB [(950,c)])=Own S g (sB [(950,c')]):=fun c c'=>by rw[lf,lf]
 refine⟨_,g,rfl,?_,?_,?_,Si,?_⟩
 ·intro j cs cs' k1 k2
  obtain⟨rfl,rfl⟩:=bd.1 k1;obtain⟨_,rfl⟩:=bd.1 k2;exact⟨rfl,Nat.le_refl _⟩
 ·intro j cs' k2
  obtain⟨rfl,rfl⟩:=bd.1 k2;refine⟨.inr ⟨950,_,hj,rfl⟩,_,_,hh,⟨by simp[hlen],fun i a v ha hv=>?_⟩,fun _ v hv=>?_,fun _ i a v ha hv=>?_,fun _=>⟨rfl,by simp[hlen]⟩⟩
  ·match i,ha with
   |0,ha=>
    cases ha;have:v= .pointer (some ⟨g 950,0,none⟩):=by simpa[hlen]using hv.symm
    subst this;exact .bp rfl
   |1,ha=>
    cases ha;have:v=arr[1]:=by simpa[hlen]using hv.symm
    subst this;rw[SW h21];exact .nl
  ·simp only[Array.toList_setIfInBounds]at hv
   rcases List.mem_or_eq_of_mem_set hv with h|h
   ·exact h3 rfl v h
   ·subst h;rfl
  ·match i,ha with
   |0,ha=>
    cases ha;have:v= .pointer (some ⟨g 950,0,none⟩):=by simpa[hlen]using hv.symm
    subst this;exact⟨⟨_,rfl⟩,fun _ _=>rfl⟩
   |1,ha=>cases ha;trivial
 ·intro i j ci cj k1 k2 _
  rw[(bd.1 k1).1,(bd.1 k2).1]
 ·refine⟨rfl,rfl,rfl,by simp[World.setCell],fun k hk hx=>?_,fun k hk hx a e fz ha=>?_⟩
  ·exact Af (fun h=>hx ⟨950,_,hj,h.symm⟩)
  ·rw[mg]at hx
   subst hx;rw[h1]at ha;cases ha;exact⟨_,_,hh,by simp⟩
theorem FC (l:List UInt8) (hl:l≠[]) (hs:l.length<=100000000000000):gH Tryz.prog 103 [.box 950 0, .d (dL l)] Ad (.v (.tup [dN .i64 l.length, .leaf (.val .nilIface)])) (il 701 l):=by
 have hB:=aF l;refine qO ah dq func103 rfl rfl rfl rfl rfl DT ?_;refine kW ?_;refine kD (It) ?_;refine Df ?_;refine kW ?_;refine ID 701 (Nat.zero_add _) rfl H7 hl (by omega) rfl rfl rfl rfl rfl (.nil rfl rfl) rfl rfl rfl ?_;refine Df ?_;refine kG ?_;refine kO ?_;refine cg (v':= .int .i64 ((l.length:Nat))) rfl rfl rfl rfl ?_ ?_
 ·exact congrArg (Value.int .i64) (by rw[hB])
 refine kO ?_;refine NX rfl rfl rfl rfl rfl ?_;exact IS
theorem FW (l m:List UInt8) (hm:m≠[]) (hs:l.length+m.length<=100000000000000):gH Tryz.prog 103 [.box 950 0, .d (dL m)] (il 700 l) (.v (.tup [dN .i64 m.length, .leaf (.val .nilIface)])) (il 701 (l++m)):=by
 have hB:=aF m;have e1:pZ (l++m)=(pZ l).take (l.length*1)++pZ m:=by rw[Nj,Nat.mul_one,List.take_of_length_le (by rw[Em];exact Nat.le_refl _)]
 refine qO ah dq func103 rfl rfl rfl rfl rfl (qa rfl rfl rfl) ?_;refine kW ?_;refine kD (K8 700 l) ?_;refine Df ?_;refine kW ?_;refine ID 701 (List.length_append).symm e1.symm H7 hm (by omega) rfl rfl rfl rfl rfl (.own rfl rfl) rfl rfl rfl ?_;refine Df ?_;refine kG ?_;refine kO ?_;refine cg (v':= .int .i64 ((m.length:Nat))) rfl rfl rfl rfl ?_ ?_
 ·exact congrArg (Value.int .i64) (by rw[hB])
 refine kO ?_;refine NX rfl rfl rfl rfl rfl ?_;exact IS
end
section
open Go.Shelf Go.RowKit
def lx (a:Nat):Bool:=Nat.ble 700 a && Nat.ble a 740
theorem Bd {a:Nat} (h:lx a=true):700<=a/\a<=740:=by
 simp only[lx,Bool.and_eq_true]at h
 exact⟨Nat.le_of_ble_eq_true h.1,Nat.le_of_ble_eq_true h.2⟩
theorem AP {a:Nat} (h:lx a=true):bG a=false/\b5 a=false/\gN a=false:=by
 have:=Bd h;refine⟨?_,?_,?_⟩
 ·unfold bG
  cases hb:Nat.ble 1000000 a
  ·rfl
  ·have:=Nat.le_of_ble_eq_true hb;omega
 ·have e:a/50=14:=by omega
  unfold b5;rw[e];rfl
 ·have h1:Nat.beq (a/10) 85=false:=by
   cases hb:Nat.beq (a/10) 85
   ·rfl
   ·have:=Nat.eq_of_beq_eq_true hb;omega
  have h2:Nat.beq (a/10) 95=false:=by
   cases hb:Nat.beq (a/10) 95
   ·rfl
   ·have:=Nat.eq_of_beq_eq_true hb;omega
  unfold gN;rw[h1,h2];rfl
theorem GM {a b:Nat} (ha:lx a=true) (hb:lx b=true):nH a b=true:=by
 obtain⟨h1,h2,h3⟩:=AP ha;obtain⟨k1,k2,k3⟩:=AP hb;rw[nH,h1,h2,h3,k1,k2,k3];rfl
theorem BA {x y:Nat} (hx:lx x=true) (hy:lx y=true):sw x y 950=950:=by
 have:=Bd hx;have:=Bd hy;unfold sw;rw[if_neg (by omega),if_neg (by omega)]
theorem UJ {x y r:Nat} (hx:lx x=true) (hy:lx y=true) (hr:lx r=true):lx (sw x y r)=true:=by
 unfold sw
 split
 ·exact hy
 ·split
  ·exact hx
  ·exact hr
theorem Bi {x y r:Nat} (l:List UInt8) (hx:lx x=true) (hy:lx y=true) (hr:lx r=true):nY x y (il r l)=il (sw x y r) l:=by
 have e1:vi x y 950 [.bp 950 0, .ow r l.length 1 5]=[.bp (sw x y 950) 0, .ow (sw x y r) l.length 1 5]:=rfl;have e2:vi x y r (pZ l)=pZ l:=by unfold vi;rw[(AP hr).2.1]
 show [(sw x y 950,vi x y 950 _),(sw x y r,vi x y r (pZ l))]=_;rw[e1,e2,BA hx hy]
theorem P1 {x y:Nat} (hx:lx x=true) (hy:lx y=true):nY x y Ad=Ad:=by
 have e1:vi x y 950 [.val (.pointer none), .nl]=[.val (.pointer none), .nl]:=rfl;show [(sw x y 950,vi x y 950 _)]=_;rw[e1,BA hx hy]
theorem CU {x y:Nat} (hx:lx x=true) (hy:lx y=true) (ds:List DV):(TV.box 950 0::ds.map .d).map (Ra x y)= .box 950 0::ds.map .d:=by
 rw[List.map_cons,List.map_map];show TV.box (sw x y 950) 0::_=_;rw[BA hx hy]
 congr 1
section
variable {C:List TV->BL->RT->BL->Prop} (hs:∀{ts:List TV} {l:BL} {r:RT} {l':BL} (a b:Nat),nH a b=true->C ts l r l'->C (ts.map (Ra a b)) (nY a b l) (Tq a b r) (nY a b l'))
include hs
theorem JG {ds:List DV} {r:RV} {l m:List UInt8} {p q:Nat} (x y:Nat) (hx:lx x=true) (hy:lx y=true) (hp:lx p=true) (hq:lx q=true) (h:C (.box 950 0::ds.map .d) (il p l) (.v r) (il q m)):C (.box 950 0::ds.map .d) (il (sw x y p) l) (.v r) (il (sw x y q) m):=by
 have:=hs x y (GM hx hy) h;rw[CU hx hy,Bi l hx hy hp,Bi m hx hy hq]at this;exact this
theorem Dr {ds:List DV} {r:RV} {l m:List UInt8} (a b:Nat) (ha:lx a=true) (hb:lx b=true) (hab:(a == b)=false) (h:C (.box 950 0::ds.map .d) (il 700 l) (.v r) (il 701 m)):C (.box 950 0::ds.map .d) (il a l) (.v r) (il b m):=by
 have h1:=JG hs 700 a rfl ha rfl rfl h;have ho:lx (sw 700 a 701)=true:=UJ rfl ha rfl;have e1:sw 700 a 700=a:=if_pos rfl
 have hne:sw 700 a 701≠a:=fun e=>by
  have:=wG (e.trans e1.symm);omega
 rw[e1]at h1;have h2:=JG hs (sw 700 a 701) b ho hb ha ho h1;rw[beq_eq_false_iff_ne]at hab
 have e2:sw (sw 700 a 701) b a=a:=by
  unfold sw at hne ⊢;rw[if_neg (Ne.symm hne),if_neg hab]
 have e3:sw (sw 700 a 701) b (sw 700 a 701)=b:=if_pos rfl;rw[e2,e3]at h2;exact h2
theorem Cs {ds:List DV} {r:RV} {m:List UInt8} (b:Nat) (hb:lx b=true) (h:C (.box 950 0::ds.map .d) Ad (.v r) (il 701 m)):C (.box 950 0::ds.map .d) Ad (.v r) (il b m):=by
 have:=hs 701 b (GM rfl hb) h;rw[CU rfl hb,P1 rfl hb,Bi m rfl hb rfl]at this;rw[show sw 701 b 701=b from if_pos rfl]at this;exact this
end
theorem FJ (a b:Nat) (l m:List UInt8) (hm:m≠[]) (hs:l.length+m.length<=100000000000000) (ha:lx a=true) (hb:lx b=true) (hab:(a == b)=false):gH Tryz.prog 103 [.box 950 0, .d (dL m)] (il a l) (.v (.tup [dN .i64 m.length, .leaf (.val .nilIface)])) (il b (l++m)):=
 Dr (C:=gH Tryz.prog 103) (ds:=[dL m]) (fun a b h=>gH.swap a b h) a b ha hb hab (FW l m hm hs)
theorem Sy (b:Nat) (m:List UInt8) (hm:m≠[]) (hs:m.length<=100000000000000) (hb:lx b=true):gH Tryz.prog 103 [.box 950 0, .d (dL m)] Ad (.v (.tup [dN .i64 m.length, .leaf (.val .nilIface)])) (il b m):=
 Cs (C:=gH Tryz.prog 103) (ds:=[dL m]) (fun a b h=>gH.swap a b h) b hb (FC m hm hs)
abbrev Ly (r:Nat) (l:List UInt8):BL:=[(850,[.bp 850 0, .ow r l.length 1 5]),(r,pZ l)]
abbrev VX:BL:=[(850,[.val (.pointer none), .nl])]
theorem Q9 (l:List UInt8) (hl:l.length<=100000000000000):aw Tryz.prog 106 [.box 850 0] (Ly 701 l) (.v (.one (dN .i64 l.length))) (Ly 701 l):=by
 have h:aw Tryz.prog 106 [.box 950 0] [(950,[.bp 950 0, .ow 901 l.length 1 5]),(901,pZ l)] (.v (.one (dN .i64 l.length))) [(950,[.bp 950 0, .ow 901 l.length 1 5]),(901,pZ l)]:=by
  refine aS ah dq func106 rfl rfl rfl rfl rfl ((dp.refl _)) ?_;refine Df ?_;exact IS
 exact((h.swap 950 850 rfl).swap 901 701 rfl)
set_option maxRecDepth 100000 in
theorem FZ (l:List UInt8) (h0:l≠[]):aw Tryz.prog 104 [.box 850 0] (Ly 701 l) (.v (.one (dL l))) []:=by
 refine⟨aA func104 rfl rfl,fun S g w vs hpre hv=>?_⟩;have hj:(sB (Ly 701 l)).bx 850=some [.bp 850 0, .ow 701 l.length 1 5]:=rfl;have hj2:(sB (Ly 701 l)).bx 701=some (pZ l):=rfl;rw[wj hj hv];obtain⟨arr,e,h1,h2,_,h4,h5⟩:=hpre.bm 850 _ hj;obtain⟨rfl,hlen⟩:=h5 rfl;have hx:arr.toList[1]? =some arr[1]:=by simp[hlen]
 have hw:TV.M (Own S g (sB (Ly 701 l))) g (sB (Ly 701 l)) w (.own 701 l.length 1 5) arr[1]:=h4 rfl 1 (.ow 701 l.length 1 5) arr[1] rfl hx;obtain⟨cap,e1,e2,e3,e4,cur,e5,e6⟩:=hw.2 _ hj2;obtain⟨cur',e',q1,q2,_⟩:=hpre.bm 701 _ hj2;rw[e5]at q1;cases q1;have hne:g 850≠g 701:=fun e=>by have:=hpre.inj 850 701 _ _ hj hj2 e;omega
 have hl0:l.length≠0:=by simpa using h0
 have c1:w.drew.cell? ⟨g 850,1,none⟩=some (.slice (some ⟨g 701,0,none⟩) l.length cap):=by
  have:w.drew.heap[g 850]? =some (.cells arr vN (0,0)):=h1;rw[dm this,<- e1]
  simp[hlen]
 have hSD:(Builtin.unsafeSliceData_ #[137] 183 #[.slice (some ⟨g 701,0,none⟩) l.length cap]).run Tryz.prog w.drew= .ok (.pointer (some ⟨g 701,0,none⟩)) w.drew:=
  Lib.run_unsafeSliceData_row _ _ _ _ _ _ (by omega)
 have hUS:(Builtin.unsafeString_ #[183,3] 9 #[.pointer (some ⟨g 701,0,none⟩), .int .i64 l.length]).run Tryz.prog w.drew= .ok (.string ⟨l.toArray⟩) (w.drew.freeze ⟨g 701,0,none⟩ l.length):=by
  refine Lib.run_unsafeString_row w.drew 183 3 9 5 underlying183 (by kernel_rfl) (g 701) cur.size (by have hg':w.drew.heap[g 701]? =some (.cells cur 5 (0,0)):=e5;simp[World.shape?,hg']) l h0 (by omega) (by omega) ?_;intro j x hx;have hjl:=(List.getElem?_eq_some_iff.1 hx).1;have hg':w.drew.heap[g 701]? =some (.cells cur 5 (0,0)):=e5;have hcell:(pZ l)[j]? =some (.val (.int .u8 x.toNat)):=by simp[pZ,hx]
  have hcl:j<cur.size:=by omega
  have:=a6 (q2.2 j (.val (.int .u8 x.toNat)) cur[j] hcell (by simp[hcl]));rw[b7,dm hg',Nat.zero_add,show cur[j]? =some cur[j] by simp[hcl],this]
 have hfr:b8 (BX g (Ly 701 l)) w (w.drew.freeze ⟨g 701,0,none⟩ l.length):=by
  unfold World.freeze;rw[if_neg hl0];refine⟨rfl,rfl,rfl,by show w.heap.size<=(w.heap.modify _ _).size;rw[Array.size_modify];exact Nat.le_refl _,fun k hk hx=>?_,fun k hk hx a e fz ha=>?_⟩
  ·have hkne:g 701≠k:=fun h=>hx ⟨701,_,hj2,h⟩
   show(w.heap.modify (g 701) _)[k]? =_;rw[Array.getElem?_modify,if_neg hkne]
  ·show ∃arr' fz',(w.heap.modify (g 701) _)[k]? =_/\_
   rw[Array.getElem?_modify]
   by_cases hk1:g 701=k
   ·rw[if_pos hk1,ha]
    obtain⟨lo,hi⟩:=fz;exact⟨a,_,rfl,rfl⟩
   ·rw[if_neg hk1,ha]
    exact⟨a,fz,rfl,rfl⟩
 have hmx:=dq
 go_enter func104,ntmps104
 go_wp2
 go_region_o
 all_goals(go_wp2;go_ret;exact⟨_,g,rfl,fun j cs cs' _ h=>(by cases h),fun j cs h=>(by cases h),fun i j ci cj h=>(by cases h),AV.M.val rfl,hfr⟩)
end
section
variable {P:Program} {T:TypeId->Option Ty} {n:Nat} {ops:Array Oper} {id:Nat} {draw:Bool} {K:AS->Prop} {s:AS} {k:Nat} {o:Oper} {os:List Oper} {fps:List FP}
theorem fW {t e:TypeId} {x y:Operand} {m i:Nat} {ik:IntKind} {cs:List AV} (hu:P.underlying t=some (.array m e)) (hs:(P.info? e).map (·.size)=some 1) (hi:i<m) (h1:gd ops s o=some true) (ho:o.op= .indexAddr t x y) (hx:s.ev x= .rp cs) (hy:s.ev y= .d (.leaf (.val (.int ik (i:Nat)))))
 (h3:aL n o.dst=true) (h4:fh draw ops (aB ops o ⟨.rp (cs.drop i),none⟩ []) k fps=true) (h:au P T n ops id draw K (k+1) os (s.eff o.dst ⟨.rp (cs.drop i),none⟩) (aB ops o ⟨.rp (cs.drop i),none⟩ []::fps)):au P T n ops id draw K k (o::os) s fps:=
 .run h1 (.gen fun s2 ht _=>am (tv:= .rp (cs.drop i)) fun n S0 w0 g a w hM=>by
  have hx2:=(ax ht (x:=x) (by simp[ho,Op.operands])).trans hx;have hy2:=(ax ht (x:=y) (by simp[ho,Op.operands])).trans hy;have h:=hM.ev x;rw[hx2]at h;obtain⟨b,off,f,e1,h1,h2,h3,h4⟩:=h;refine⟨.pointer (some ⟨b,off+i,none⟩),w,?_,Below.refl _ _,b,off+i,fun q=>f (i+q),rfl,h1,h2,fun q c hq=>?_,fun q c hq=>?_⟩
  ·refine Du ?_
   have e2:(0:Int)<=i/\(i:Int)<m:=by omega
   simp only[e2,and_self,if_true,Sem.run_bind,bE hs w,Result.andThen_ok,Sem.run_pure,b7,Int.toNat_natCast,Nat.mul_one]
  ·rw[Nat.add_assoc];exact h3 (i+q) c (by simpa using hq)
  ·exact h4 (i+q) c (by simpa using hq)) h3 h4 h
end
theorem d8 (e:Ex):aa Tryz.prog 147 [dE e] (.one (dN .i64 (tw e))):=by
 cases e with
 |num v u=>
  refine C0 ?_;refine kU func147 ?_;exact ap
 |nam s=>
  show aa Tryz.prog _ [.agg ([.val (.int .i64 2)]++iP++[.val (vL s), .sl 0 []])] _;refine kU func147 ?_;exact ap
 |neg a=>
  rw[show dE (.neg a)= .agg ([.val (.int .i64 3)]++iP++[.val (vL []), .sl 1 (aE a)]) from congrArg DV.agg (n6 a)];refine kU func147 ?_;exact ap
 |bin k a b=>
  refine Hz ?_;cases k
  all_goals
   refine kU func147 ?_;exact kF
theorem tM (lv:Nat) (t:List UInt8):fS lv 0 t=t:=if_neg (Nat.not_lt_zero lv)
theorem Mt {k:Nat} {s:List UInt8} (h:s≠[]):jc k s≠[]:=by
 intro e;unfold jc at e
 split at e
 ·simp at e
 ·unfold du at e
  exact h (List.append_eq_nil_iff.1 e).2
theorem zB {q:Rat} {d:List UInt8}:∀(n k:Nat),lr q n k=some d->d≠[]
 |0,_,h=>by cases h
 |n+1,k,h=>by
  rw[lr]at h
  split at h
  ·split at h
   ·cases h;exact Mt (List.length_pos_iff.1 (Ib _))
   ·cases h
  ·exact zB n (k+1) h
theorem qh {q:Rat} {d:List UInt8} (h:fg q=some d):d≠[]:=by
 unfold fg at h
 split at h
 ·cases h
 ·exact zB _ _ h
theorem th {r:Nat} {l:List UInt8}:dp Ad (il r l):=DT
structure JP (e:Ex) (least:Nat):Prop where
 w0:(aH e least).length<=1000000000->aw Tryz.prog 105 [.box 950 0, .d (dE e), .d (dN .i64 least)] Ad (.v (.tup [])) (il 701 (aH e least))
 w1:∀l:List UInt8,l.length+(aH e least).length<=1000000000->aw Tryz.prog 105 [.box 950 0, .d (dE e), .d (dN .i64 least)] (il 700 l) (.v (.tup [])) (il 701 (l++aH e least))
theorem JP.n0 {e:Ex} {least:Nat} (h:JP e least) (b:Nat) (hl:(aH e least).length<=1000000000) (hb:lx b=true):aw Tryz.prog 105 [.box 950 0, .d (dE e), .d (dN .i64 least)] Ad (.v (.tup [])) (il b (aH e least)):=
 Cs (C:=aw Tryz.prog 105) (ds:=[dE e,dN .i64 least]) (fun a b h=>aw.swap a b h) b hb (h.w0 hl)
theorem JP.n1 {e:Ex} {least:Nat} (h:JP e least) (a b:Nat) (l:List UInt8) (hl:l.length+(aH e least).length<=1000000000) (ha:lx a=true) (hb:lx b=true) (hab:(a == b)=false):aw Tryz.prog 105 [.box 950 0, .d (dE e), .d (dN .i64 least)] (il a l) (.v (.tup [])) (il b (l++aH e least)):=
 Dr (C:=aw Tryz.prog 105) (ds:=[dE e,dN .i64 least]) (fun a b h=>aw.swap a b h) a b ha hb hab (h.w1 l hl)
theorem K3 {v:Rat} {u:List UInt8} {least:Nat} (h4:least<=3) (hf:f4 (.num v u)) (hl:(aH (.num v u) least).length<=1000000000):aw Tryz.prog 105 [.box 950 0, .d (dE (.num v u)), .d (dN .i64 least)] Ad (.v (.tup [])) (il 701 (aH (.num v u) least)):=by
 obtain⟨h1,h2,h3⟩:=hf;obtain⟨t,c,ht⟩:=iN h2 (by decide);obtain⟨d,hd⟩:=Option.isSome_iff_exists.1 h1;rw[ht d hd,h1]at c;have hd0:d≠[]:=qh hd;have cl:=d8 (.num v u)
 have e0:aH (.num v u) least=d++el u:=by
  refine NO ?_;show fS 4 0 (tW v++el u)=_;rw[tM,tW,hd];rfl
 rw[e0]at hl ⊢;have hdn:dE (.num v u)= .agg ([.val (.int .i64 1)]++aQ v++[.val (vL u), .sl 0 []]):=rfl;rw[hdn]at cl ⊢
 by_cases hu:u=[]
 ·subst hu
  rw[show el []=[] from rfl,List.append_nil]at hl ⊢;refine DR ?_;refine Cy ?_;refine cR ((Sy 701 (d) hd0 (by omega) rfl).toT) rfl rfl rfl rfl rfl ⟨rfl,trivial⟩ rfl rfl rfl rfl ?_;refine kG ?_
  refine kO2 ?_
  refine C9 ?_;exact US
 ·have hu2:el u=[32]++u:=if_neg hu
  rw[hu2]at hl ⊢
  simp only[List.length_append,List.length_cons,List.length_nil]at hl
  rw[show(d++([32]++u))=(d)++([32]++u) by simp];refine DR ?_;refine Cy ?_;refine cR ((Sy 702 (d) hd0 (by omega) rfl).toT) rfl rfl rfl rfl rfl ⟨rfl,trivial⟩ rfl rfl rfl rfl ?_;refine u9 ?_;refine aq rfl rfl rfl rfl rfl rfl rfl (aD (a:=[32]) (b:=u) (by simp <;>omega)) ?_;refine cR ((FJ 702 701 (d) ([32]++u) (by simp) (by simp <;>omega) rfl rfl rfl).toT) rfl rfl rfl rfl rfl ⟨rfl,rfl,trivial⟩ rfl rfl rfl rfl ?_;exact US
theorem MP {s:List UInt8} {least:Nat} (h4:least<=3) (hf:f4 (.nam s)) (hl:(aH (.nam s) least).length<=1000000000):aw Tryz.prog 105 [.box 950 0, .d (dE (.nam s)), .d (dN .i64 least)] Ad (.v (.tup [])) (il 701 (aH (.nam s) least)):=by
 have hs0:s≠[]:=fun e=>by subst e;cases hf
 have cl:=d8 (.nam s)
 have e0:aH (.nam s) least=s:=by
  refine NO ?_;exact tM _ _
 rw[e0]at hl ⊢;have hdn:dE (.nam s)= .agg ([.val (.int .i64 2)]++iP++[.val (vL s), .sl 0 []]):=rfl;rw[hdn]at cl ⊢;refine DR ?_;refine gL ?_;refine Qu ?_;refine cR ((Sy 701 (s) hs0 (by omega) rfl).toT) rfl rfl rfl rfl rfl ⟨rfl,trivial⟩ rfl rfl rfl rfl ?_;exact US
theorem Mg {a:Ex} {least:Nat} (h4:least<=3) (ih:JP a 3) (hl:(aH (.neg a) least).length<=1000000000):aw Tryz.prog 105 [.box 950 0, .d (dE (.neg a)), .d (dN .i64 least)] Ad (.v (.tup [])) (il 701 (aH (.neg a) least)):=by
 have cl:=d8 (.neg a)
 have e0:aH (.neg a) least=[45]++aH a 3:=by
  rw[mw,fS,if_neg (by show ¬3<least;omega)];exact tM _ _
 rw[e0]at hl ⊢
 simp only[List.length_append,List.length_cons,List.length_nil]at hl
 obtain⟨o1,na1,xs1,nb1,ys1,nm1,n1,cs1,hA⟩:=aY a;have hdn:dE (.neg a)= .agg ([.val (.int .i64 3)]++iP++[.val (vL []), .sl 1 (ab o1 na1 xs1 nb1 ys1 nm1 n1 cs1)]):=by rw[<- hA];exact congrArg DV.agg (n6 a)
 rw[hdn]at cl ⊢;have cw:=ih.n1 702 701 ([45]) (by simp <;>omega) rfl rfl rfl;rw[show dE a= .agg (ab o1 na1 xs1 nb1 ys1 nm1 n1 cs1) from congrArg DV.agg hA]at cw;rw[show([45]++aH a 3)=([45])++aH a 3 by simp];refine DR ?_;refine gL ?_;refine yM ?_;refine cR ((Sy 702 ([45]) (by simp) (by simp <;>omega) rfl).toT) rfl rfl rfl rfl rfl ⟨rfl,trivial⟩ rfl rfl rfl rfl ?_;refine IZ ?_;refine kW ?_;refine kC (cl) ?_;refine kD (cw) ?_;exact US
theorem Lc {a b:Ex} (k:B4) {least:Nat} (iha:JP a (bO k)) (ihb:JP b (bO k+1)) (hl:(aH (.bin k a b) least).length<=1000000000):aw Tryz.prog 105 [.box 950 0, .d (dE (.bin k a b)), .d (dN .i64 least)] Ad (.v (.tup [])) (il 701 (aH (.bin k a b) least)):=by
 have cl:aa Tryz.prog 147 [dE (.bin k a b)] (.one (dN .i64 ((bO k:Nat):Int))):=d8 (.bin k a b);obtain⟨o1,na1,xs1,nb1,ys1,nm1,n1,cs1,hA⟩:=aY a;obtain⟨o2,na2,xs2,nb2,ys2,nm2,n2,cs2,hA2⟩:=aY b;have hdn:dE (.bin k a b)= .agg ([.val (.int .i64 k.code)]++iP++[.val (vL []), .sl 2 (ab o1 na1 xs1 nb1 ys1 nm1 n1 cs1++ab o2 na2 xs2 nb2 ys2 nm2 n2 cs2)]):=by rw[<- hA,<- hA2];exact congrArg DV.agg (iY k a b)
 have hsy:(f8 k).length=3:=by cases k<;>rfl
 have hEa:dE a= .agg (ab o1 na1 xs1 nb1 ys1 nm1 n1 cs1):=congrArg DV.agg hA;have hEb:dE b= .agg (ab o2 na2 xs2 nb2 ys2 nm2 n2 cs2):=congrArg DV.agg hA2
 by_cases hlt:bO k<least
 ·have e0:aH (.bin k a b) least=[40]++(aH a (bO k)++f8 k++aH b (bO k+1))++[41]:=if_pos hlt
  rw[e0]at hl ⊢
  simp only[List.length_append,List.length_cons,List.length_nil,hsy]at hl
  have ca:=iha.n1 704 702 ([40]) (by simp <;>omega) rfl rfl rfl;have cb:=ihb.n1 703 705 ([40]++aH a (bO k)++f8 k) (by simp only[List.length_append,List.length_cons,List.length_nil,hsy];omega) rfl rfl rfl;have hfin:=FJ 705 701 ([40]++aH a (bO k)++f8 k++aH b (bO k+1)) [41] (by simp) (by simp only[List.length_append,List.length_cons,List.length_nil,hsy];omega) rfl rfl rfl;have cy:=(FJ 702 703 ([40]++aH a (bO k)) (f8 k) (fun e=>by rw[e]at hsy;cases hsy) (by simp only[List.length_append,List.length_cons,List.length_nil,hsy];omega) rfl rfl rfl).toT;rw[hdn]at cl ⊢;rw[hEa]at ca;rw[hEb]at cb;rw[show([40]++(aH a (bO k)++f8 k++aH b (bO k+1))++[41])=[40]++aH a (bO k)++f8 k++aH b (bO k+1)++[41] by simp];generalize aH a (bO k)=ta at *;generalize aH b (bO k+1)=tb at *;cases k
  all_goals
   refine gh ah dq func105 rfl rfl rfl rfl rfl rfl th ?_;refine kR ?_;refine kI ?_;refine kO ?_;refine kC (cl) ?_;refine kO ?_;refine kX ?_;refine cR ((Sy 704 ([40]) (by simp) (by simp <;>omega) rfl).toT) rfl rfl rfl rfl rfl ⟨rfl,trivial⟩ rfl rfl rfl rfl ?_;refine kW ?_;refine CG rfl rfl rfl rfl rfl rfl rfl ?_;refine kW ?_;refine aG (i:=0) (cs':=ab o1 na1 xs1 nb1 ys1 nm1 n1 cs1) (by decide) (m5 _ _) (Nat.zero_lt_succ 6) rfl rfl rfl rfl rfl rfl rfl rfl ?_;refine kW ?_;refine kC (cl) ?_;refine kZ (ca) ?_;refine fW underlying184 (by kernel_rfl) (by decide) rfl rfl rfl rfl rfl rfl ?_;refine kW ?_;refine kZ (cy) ?_;refine aG (i:=1) (cs':=ab o2 na2 xs2 nb2 ys2 nm2 n2 cs2) (by decide) (mx _ rfl) (Nat.zero_lt_succ 6) rfl rfl rfl rfl rfl rfl rfl rfl ?_
   refine kW ?_;refine kQ (cl) ?_;refine kZ (cb) ?_;exact .inr ⟨_,_,_,_,_,{ dk:=rfl,one:=rfl,body:=hfin,kn:=rfl,bx:=⟨rfl,rfl,trivial⟩,cl:=rfl,new:=rfl,fin:=⟨rfl,rfl,trivial⟩ }⟩
 ·have e0:aH (.bin k a b) least=aH a (bO k)++f8 k++aH b (bO k+1):=if_neg hlt
  rw[e0]at hl ⊢
  simp only[List.length_append,hsy]at hl
  have ca:=iha.n0 702 (by omega) rfl;have cb:=ihb.n1 703 701 (aH a (bO k)++f8 k) (by simp only[List.length_append,List.length_cons,List.length_nil,hsy];omega) rfl rfl rfl;have cy:=(FJ 702 703 (aH a (bO k)) (f8 k) (fun e=>by rw[e]at hsy;cases hsy) (by simp only[List.length_append,List.length_cons,List.length_nil,hsy];omega) rfl rfl rfl).toT;rw[hdn]at cl ⊢;rw[hEa]at ca;rw[hEb]at cb;rw[show(aH a (bO k)++f8 k++aH b (bO k+1))=aH a (bO k)++f8 k++aH b (bO k+1) by simp];generalize aH a (bO k)=ta at *;generalize aH b (bO k+1)=tb at *;cases k
  all_goals
   refine gh ah dq func105 rfl rfl rfl rfl rfl rfl th ?_;refine kR ?_;refine kI ?_;refine kO ?_;refine kC (cl) ?_;refine kO ?_;refine kY ?_;refine aG (i:=0) (cs':=ab o1 na1 xs1 nb1 ys1 nm1 n1 cs1) (by decide) (m5 _ _) (Nat.zero_lt_succ 6) rfl rfl rfl rfl rfl rfl rfl rfl ?_;refine kW ?_;refine kC (cl) ?_;refine kZ (ca) ?_;refine fW underlying184 (by kernel_rfl) (by decide) rfl rfl rfl rfl rfl rfl ?_;refine kW ?_;refine kZ (cy) ?_;refine aG (i:=1) (cs':=ab o2 na2 xs2 nb2 ys2 nm2 n2 cs2) (by decide) (mx _ rfl) (Nat.zero_lt_succ 6) rfl rfl rfl rfl rfl rfl rfl rfl ?_;refine kW ?_;refine kQ (cl) ?_;refine kZ (cb) ?_;exact .inl ⟨⟨_,rfl,rfl⟩,⟨rfl,rfl,trivial⟩⟩
theorem L6 (l:List UInt8) {v:Rat} {u:List UInt8} {least:Nat} (h4:least<=3) (hf:f4 (.num v u)) (hl:l.length+(aH (.num v u) least).length<=1000000000):aw Tryz.prog 105 [.box 950 0, .d (dE (.num v u)), .d (dN .i64 least)] (il 700 l) (.v (.tup [])) (il 701 (l++aH (.num v u) least)):=by
 obtain⟨h1,h2,h3⟩:=hf;obtain⟨t,c,ht⟩:=iN h2 (by decide);obtain⟨d,hd⟩:=Option.isSome_iff_exists.1 h1;rw[ht d hd,h1]at c;have hd0:d≠[]:=qh hd;have cl:=d8 (.num v u)
 have e0:aH (.num v u) least=d++el u:=by
  refine NO ?_;show fS 4 0 (tW v++el u)=_;rw[tM,tW,hd];rfl
 rw[e0]at hl ⊢;have hdn:dE (.num v u)= .agg ([.val (.int .i64 1)]++aQ v++[.val (vL u), .sl 0 []]):=rfl;rw[hdn]at cl ⊢
 by_cases hu:u=[]
 ·subst hu
  rw[show el []=[] from rfl,List.append_nil]at hl ⊢;refine qW ?_;refine Cy ?_;refine cR ((FJ 700 701 l (d) hd0 (by omega) rfl rfl rfl).toT) rfl rfl rfl rfl rfl ⟨rfl,rfl,trivial⟩ rfl rfl rfl rfl ?_;refine kG ?_
  refine kO2 ?_
  refine C9 ?_;exact US
 ·have hu2:el u=[32]++u:=if_neg hu
  rw[hu2]at hl ⊢
  simp only[List.length_append,List.length_cons,List.length_nil]at hl
  rw[show l++(d++([32]++u))=(l++d)++([32]++u) by simp];refine qW ?_;refine Cy ?_;refine cR ((FJ 700 702 l (d) hd0 (by omega) rfl rfl rfl).toT) rfl rfl rfl rfl rfl ⟨rfl,rfl,trivial⟩ rfl rfl rfl rfl ?_;refine u9 ?_;refine aq rfl rfl rfl rfl rfl rfl rfl (aD (a:=[32]) (b:=u) (by simp <;>omega)) ?_;refine cR ((FJ 702 701 (l++d) ([32]++u) (by simp) (by simp <;>omega) rfl rfl rfl).toT) rfl rfl rfl rfl rfl ⟨rfl,rfl,trivial⟩ rfl rfl rfl rfl ?_;exact US
theorem MD (l:List UInt8) {s:List UInt8} {least:Nat} (h4:least<=3) (hf:f4 (.nam s)) (hl:l.length+(aH (.nam s) least).length<=1000000000):aw Tryz.prog 105 [.box 950 0, .d (dE (.nam s)), .d (dN .i64 least)] (il 700 l) (.v (.tup [])) (il 701 (l++aH (.nam s) least)):=by
 have hs0:s≠[]:=fun e=>by subst e;cases hf
 have cl:=d8 (.nam s)
 have e0:aH (.nam s) least=s:=by
  refine NO ?_;exact tM _ _
 rw[e0]at hl ⊢;have hdn:dE (.nam s)= .agg ([.val (.int .i64 2)]++iP++[.val (vL s), .sl 0 []]):=rfl;rw[hdn]at cl ⊢;refine qW ?_;refine gL ?_;refine Qu ?_;refine cR ((FJ 700 701 l (s) hs0 (by omega) rfl rfl rfl).toT) rfl rfl rfl rfl rfl ⟨rfl,rfl,trivial⟩ rfl rfl rfl rfl ?_;exact US
theorem LW (l:List UInt8) {a:Ex} {least:Nat} (h4:least<=3) (ih:JP a 3) (hl:l.length+(aH (.neg a) least).length<=1000000000):aw Tryz.prog 105 [.box 950 0, .d (dE (.neg a)), .d (dN .i64 least)] (il 700 l) (.v (.tup [])) (il 701 (l++aH (.neg a) least)):=by
 have cl:=d8 (.neg a)
 have e0:aH (.neg a) least=[45]++aH a 3:=by
  rw[mw,fS,if_neg (by show ¬3<least;omega)];exact tM _ _
 rw[e0]at hl ⊢
 simp only[List.length_append,List.length_cons,List.length_nil]at hl
 obtain⟨o1,na1,xs1,nb1,ys1,nm1,n1,cs1,hA⟩:=aY a;have hdn:dE (.neg a)= .agg ([.val (.int .i64 3)]++iP++[.val (vL []), .sl 1 (ab o1 na1 xs1 nb1 ys1 nm1 n1 cs1)]):=by rw[<- hA];exact congrArg DV.agg (n6 a)
 rw[hdn]at cl ⊢;have cw:=ih.n1 702 701 (l++[45]) (by simp <;>omega) rfl rfl rfl;rw[show dE a= .agg (ab o1 na1 xs1 nb1 ys1 nm1 n1 cs1) from congrArg DV.agg hA]at cw;rw[show l++([45]++aH a 3)=(l++[45])++aH a 3 by simp];refine qW ?_;refine gL ?_;refine yM ?_;refine cR ((FJ 700 702 l ([45]) (by simp) (by simp <;>omega) rfl rfl rfl).toT) rfl rfl rfl rfl rfl ⟨rfl,rfl,trivial⟩ rfl rfl rfl rfl ?_;refine IZ ?_;refine kW ?_;refine kC (cl) ?_;refine kD (cw) ?_;exact US
theorem Ls (l:List UInt8) {a b:Ex} (k:B4) {least:Nat} (iha:JP a (bO k)) (ihb:JP b (bO k+1)) (hl:l.length+(aH (.bin k a b) least).length<=1000000000):aw Tryz.prog 105 [.box 950 0, .d (dE (.bin k a b)), .d (dN .i64 least)] (il 700 l) (.v (.tup [])) (il 701 (l++aH (.bin k a b) least)):=by
 have cl:aa Tryz.prog 147 [dE (.bin k a b)] (.one (dN .i64 ((bO k:Nat):Int))):=d8 (.bin k a b);obtain⟨o1,na1,xs1,nb1,ys1,nm1,n1,cs1,hA⟩:=aY a;obtain⟨o2,na2,xs2,nb2,ys2,nm2,n2,cs2,hA2⟩:=aY b;have hdn:dE (.bin k a b)= .agg ([.val (.int .i64 k.code)]++iP++[.val (vL []), .sl 2 (ab o1 na1 xs1 nb1 ys1 nm1 n1 cs1++ab o2 na2 xs2 nb2 ys2 nm2 n2 cs2)]):=by rw[<- hA,<- hA2];exact congrArg DV.agg (iY k a b)
 have hsy:(f8 k).length=3:=by cases k<;>rfl
 have hEa:dE a= .agg (ab o1 na1 xs1 nb1 ys1 nm1 n1 cs1):=congrArg DV.agg hA;have hEb:dE b= .agg (ab o2 na2 xs2 nb2 ys2 nm2 n2 cs2):=congrArg DV.agg hA2
 by_cases hlt:bO k<least
 ·have e0:aH (.bin k a b) least=[40]++(aH a (bO k)++f8 k++aH b (bO k+1))++[41]:=if_pos hlt
  rw[e0]at hl ⊢
  simp only[List.length_append,List.length_cons,List.length_nil,hsy]at hl
  have ca:=iha.n1 704 702 (l++[40]) (by simp <;>omega) rfl rfl rfl;have cb:=ihb.n1 703 705 (l++[40]++aH a (bO k)++f8 k) (by simp only[List.length_append,List.length_cons,List.length_nil,hsy];omega) rfl rfl rfl;have hfin:=FJ 705 701 (l++[40]++aH a (bO k)++f8 k++aH b (bO k+1)) [41] (by simp) (by simp only[List.length_append,List.length_cons,List.length_nil,hsy];omega) rfl rfl rfl;have cy:=(FJ 702 703 (l++[40]++aH a (bO k)) (f8 k) (fun e=>by rw[e]at hsy;cases hsy) (by simp only[List.length_append,List.length_cons,List.length_nil,hsy];omega) rfl rfl rfl).toT;rw[hdn]at cl ⊢;rw[hEa]at ca;rw[hEb]at cb;rw[show l++([40]++(aH a (bO k)++f8 k++aH b (bO k+1))++[41])=l++[40]++aH a (bO k)++f8 k++aH b (bO k+1)++[41] by simp];generalize aH a (bO k)=ta at *
  generalize aH b (bO k+1)=tb at *;cases k
  all_goals
   refine gh ah dq func105 rfl rfl rfl rfl rfl rfl (qa rfl rfl rfl) ?_;refine kR ?_;refine kI ?_;refine kO ?_;refine kC (cl) ?_;refine kO ?_;refine kX ?_;refine cR ((FJ 700 704 l ([40]) (by simp) (by simp <;>omega) rfl rfl rfl).toT) rfl rfl rfl rfl rfl ⟨rfl,rfl,trivial⟩ rfl rfl rfl rfl ?_;refine kW ?_;refine CG rfl rfl rfl rfl rfl rfl rfl ?_;refine kW ?_;refine aG (i:=0) (cs':=ab o1 na1 xs1 nb1 ys1 nm1 n1 cs1) (by decide) (m5 _ _) (Nat.zero_lt_succ 6) rfl rfl rfl rfl rfl rfl rfl rfl ?_;refine kW ?_;refine kC (cl) ?_;refine kZ (ca) ?_;refine fW underlying184 (by kernel_rfl) (by decide) rfl rfl rfl rfl rfl rfl ?_;refine kW ?_;refine kZ (cy) ?_
   refine aG (i:=1) (cs':=ab o2 na2 xs2 nb2 ys2 nm2 n2 cs2) (by decide) (mx _ rfl) (Nat.zero_lt_succ 6) rfl rfl rfl rfl rfl rfl rfl rfl ?_;refine kW ?_;refine kQ (cl) ?_;refine kZ (cb) ?_;exact .inr ⟨_,_,_,_,_,{ dk:=rfl,one:=rfl,body:=hfin,kn:=rfl,bx:=⟨rfl,rfl,trivial⟩,cl:=rfl,new:=rfl,fin:=⟨rfl,rfl,trivial⟩ }⟩
 ·have e0:aH (.bin k a b) least=aH a (bO k)++f8 k++aH b (bO k+1):=if_neg hlt
  rw[e0]at hl ⊢
  simp only[List.length_append,hsy]at hl
  have ca:=iha.n1 700 702 l (by omega) rfl rfl rfl;have cb:=ihb.n1 703 701 (l++aH a (bO k)++f8 k) (by simp only[List.length_append,List.length_cons,List.length_nil,hsy];omega) rfl rfl rfl;have cy:=(FJ 702 703 (l++aH a (bO k)) (f8 k) (fun e=>by rw[e]at hsy;cases hsy) (by simp only[List.length_append,List.length_cons,List.length_nil,hsy];omega) rfl rfl rfl).toT;rw[hdn]at cl ⊢;rw[hEa]at ca;rw[hEb]at cb;rw[show l++(aH a (bO k)++f8 k++aH b (bO k+1))=l++aH a (bO k)++f8 k++aH b (bO k+1) by simp];generalize aH a (bO k)=ta at *;generalize aH b (bO k+1)=tb at *;cases k
  all_goals
   refine gh ah dq func105 rfl rfl rfl rfl rfl rfl (qa rfl rfl rfl) ?_;refine kR ?_;refine kI ?_;refine kO ?_;refine kC (cl) ?_;refine kO ?_;refine kY ?_;refine aG (i:=0) (cs':=ab o1 na1 xs1 nb1 ys1 nm1 n1 cs1) (by decide) (m5 _ _) (Nat.zero_lt_succ 6) rfl rfl rfl rfl rfl rfl rfl rfl ?_;refine kW ?_;refine kC (cl) ?_;refine kZ (ca) ?_;refine fW underlying184 (by kernel_rfl) (by decide) rfl rfl rfl rfl rfl rfl ?_;refine kW ?_;refine kZ (cy) ?_;refine aG (i:=1) (cs':=ab o2 na2 xs2 nb2 ys2 nm2 n2 cs2) (by decide) (mx _ rfl) (Nat.zero_lt_succ 6) rfl rfl rfl rfl rfl rfl rfl rfl ?_;refine kW ?_;refine kQ (cl) ?_;refine kZ (cb) ?_;exact .inl ⟨⟨_,rfl,rfl⟩,⟨rfl,rfl,trivial⟩⟩
theorem l5:∀(e:Ex),f4 e-> ∀least:Nat,least<=3->JP e least
 | .num v u,hf,n,hn=>⟨fun hl=>K3 hn hf hl,fun l hl=>L6 l hn hf hl⟩
 | .nam s,hf,n,hn=>⟨fun hl=>MP hn hf hl,fun l hl=>MD l hn hf hl⟩
 | .neg a,hf,n,hn=>⟨fun hl=>Mg hn (l5 a hf 3 (by decide)) hl,fun l hl=>LW l hn (l5 a hf 3 (by decide)) hl⟩
 | .bin k a b,hf,n,hn=>⟨fun hl=>Lc k (l5 a hf.1 _ (by cases k<;>decide)) (l5 b hf.2 _ (by cases k<;>decide)) hl,fun l hl=>Ls l k (l5 a hf.1 _ (by cases k<;>decide)) (l5 b hf.2 _ (by cases k<;>decide)) hl⟩
theorem vQ {fid:FuncId} {p:Rx->Bool} (args:List Rx) (hp:∀x∈args,aa Tryz.prog fid [dR x] (.one (dB (p x)))) (hl:args.length<=1000000):aa Tryz.prog 86 [.leaf (.sl args.length (dY args)),dF fid] (.one (dN .i64 (if args.findIdx p<args.length then((args.findIdx p:Nat):Int)else -1))):=by
 have hf:=List.findIdx_le_length (p:=p) (xs:=args)
 have hn:∀(i:Nat) (hi:i<args.length),i<args.findIdx p->p args[i]=false:=fun i hi h=>by
  exact OD
 have hy:∀(h:args.findIdx p<args.length),p (args[args.findIdx p])=true:=fun h=>List.findIdx_getElem
 generalize args.findIdx p=f at *;refine kV func86 ?_
 refine ay Nat (fun i=>i<=f) (fun i=>⟨[(0, .d (.leaf (.sl args.length (dY args)))),(1, .d (dF fid)),(4, .d (dN .i64 0)),(7, .d (dN .i64 args.length)),(8, .d (dN .i64 i))],[]⟩) (fun i=>args.length-i) 0 (Nat.zero_le _)
  kw ?_
 intro i hi;refine kI ?_
 by_cases hlt:i<args.length
 ·refine kT ?_
  obtain⟨o1,na1,xs1,nb1,ys1,nm1,n1,cs1,hA⟩:=aM args[i];have hx:args[i]? =some args[i]:=by simp[hlt]
  have hat:∀(j:Nat) (a:AV),(ab o1 na1 xs1 nb1 ys1 nm1 n1 cs1)[j]? =some a->(dY args)[i*7+j]? =some a:=fun j a h=>dP args i args[i] hx j a (by rw[hA];exact h)
  have c:=hp args[i] (List.getElem_mem hlt);rw[show dR args[i]= .agg (ab o1 na1 xs1 nb1 ys1 nm1 n1 cs1) from congrArg DV.agg hA]at c;refine KL ?_;refine kO ?_;cases hb:p args[i]
  ·rw[hb]at c
   refine kC (c) ?_;refine Hn ?_
   by_cases e:i=f
   ·subst e;have:=hy hlt;rw[hb]at this;cases this
   ·omega
  ·rw[hb]at c
   have e:i=f:=by
    by_cases e:i<f
    ·have:=hn i hlt e;rw[hb]at this;cases this
    ·omega
   subst e;rw[if_pos hlt];refine kC (c) ?_;exact ap
 ·rw[if_neg (by omega)]
  refine kE ?_;exact ap
theorem ez {fid:FuncId} {p:Rx->Bool} (args:List Rx) (hp:∀x∈args,aa Tryz.prog fid [dR x] (.one (dB (p x)))) (hl:args.length<=1000000) {b:Bool} (hb:args.any p=b):aa Tryz.prog 42 [.leaf (.sl args.length (dY args)),dF fid] (.one (dB b)):=by
 have c:=vQ args hp hl
 have hlt:(args.findIdx p<args.length)↔args.any p=true:=by
  rw[List.any_eq_true];exact List.findIdx_lt_length
 cases b with
 |true=>
  rw[if_pos (hlt.2 hb)]at c;refine kV func42 ?_;refine kC (c) ?_;refine kT ?_;exact ap
 |false=>
  rw[if_neg (fun h=>by rw[hlt.1 h]at hb;cases hb)]at c;refine kV func42 ?_;refine kC (c) ?_;exact ap
theorem sG:aa Tryz.prog 126 [Jw] (.one (dB true)):=by
 show aa Tryz.prog _ [.agg iP] _;refine kU func126 ?_;exact ap
theorem f7 {x:Rx} {b:Bool} (h:aa Tryz.prog 87 [dR x] (.one (dB b))):aa Tryz.prog 127 [dR x] (.one (dB (!b))):=by
 obtain⟨o1,na1,xs1,nb1,ys1,nm1,n1,cs1,hA⟩:=aM x;rw[show dR x= .agg (ab o1 na1 xs1 nb1 ys1 nm1 n1 cs1) from congrArg DV.agg hA]at h ⊢;cases b
 all_goals
  refine kV func127 ?_;refine kC (h) ?_;exact kF
theorem U3 (a:Ex):dY [rx a]=aE a:=by
 show aR (rx a)++[]=_;rw[List.append_nil];rfl
theorem UI (a b:Ex):dY [rx a,rx b]=aE a++aE b:=by
 show aR (rx a)++(aR (rx b)++[])=_;rw[List.append_nil];rfl
theorem g7:∀(e:Ex),f4 e->aa Tryz.prog 87 [dE e] (.one (dB true))
 | .num v u,hf=>by
  obtain⟨h1,h2,h3⟩:=hf;obtain⟨t,c,ht⟩:=iN h2 (by decide);rw[h1]at c;refine C0 ?_
  by_cases hu:u=[]
  ·subst hu
   refine gM ?_;refine KA ?_;refine kW ?_;refine kC (c) ?_;refine kG ?_
   refine kO4 ?_
   refine Pt ?_;exact ap
  ·have hn:=h3.resolve_left hu
   have ci:=fM u (by
    cases u with
    |nil=>exact absurd rfl hu
    |cons c r=>simp only[kh,Bool.and_eq_true,decide_eq_true_eq]at hn;omega)
   rw[hn]at ci;refine gM ?_;refine KA ?_;refine kW ?_;refine kC (c) ?_;refine kG ?_
   refine kO4 ?_
   refine Sw ?_
   refine kO3 ?_
   refine kC (ci) ?_;exact ap
 | .nam s,hf=>by
  have hn:kh s=true:=hf
  have ci:=fM s (by
   cases s with
   |nil=>cases hn
   |cons c r=>simp only[kh,Bool.and_eq_true,decide_eq_true_eq]at hn;omega)
  rw[hn]at ci;show aa Tryz.prog _ [.agg ([.val (.int .i64 2)]++iP++[.val (vL s), .sl 0 []])] _;refine gM ?_;refine Ou ?_;refine kW ?_;refine kQ (sG) ?_;refine kC (ci) ?_;exact ap
 | .neg a,hf=>by
  have c:=ez (fid:=127) (p:=fun _=>false) [rx a] (fun x hx=>by
   cases List.mem_singleton.1 hx;exact f7 (g7 a hf)) (by simp) (b:=false) rfl
  rw[U3]at c;obtain⟨o1,na1,xs1,nb1,ys1,nm1,n1,cs1,hA⟩:=aY a;rw[show dE (.neg a)= .agg ([.val (.int .i64 3)]++iP++[.val (vL []), .sl 1 (aE a)]) from congrArg DV.agg (n6 a)];rw[hA]at c ⊢;refine gM ?_;refine NR ?_;refine Ic ?_;exact ap
 | .bin k a b,hf=>by
  have c:=ez (fid:=127) (p:=fun _=>false) [rx a,rx b] (fun x hx=>by
   rcases List.mem_cons.1 hx with rfl|hx
   ·exact f7 (g7 a hf.1)
   ·cases List.mem_singleton.1 hx
    exact f7 (g7 b hf.2)) (by simp) (b:=false) rfl
  rw[UI]at c;obtain⟨o1,na1,xs1,nb1,ys1,nm1,n1,cs1,hA⟩:=aY a;obtain⟨o2,na2,xs2,nb2,ys2,nm2,n2,cs2,hA2⟩:=aY b;refine Hz ?_;rw[hA,hA2]at c ⊢;cases k
  ·refine gM ?_
   refine Oc ?_;refine Ic ?_;exact ap
  ·refine gM ?_
   refine C2 ?_;refine Ic ?_;exact ap
  ·refine gM ?_
   refine Oy ?_;refine Ic ?_;exact ap
  ·refine gM ?_
   refine Pf ?_;refine Ic ?_;exact ap
theorem AI {e:Ex} (hf:f4 e) (hw:ls (rx e)) (hs:fi (rx e)<=1000000) (hd:pO (rx e)<=40):aa Tryz.prog 44 [dE e] (.one (dN .i64 0)):=by
 have c1:=g7 e hf;have c2:aa Tryz.prog 81 [dE e] (.one (dN .i64 (pO (rx e)))):=l4 (rx e) hw hs;obtain⟨o1,na1,xs1,nb1,ys1,nm1,n1,cs1,hA⟩:=aY e;rw[show dE e= .agg (ab o1 na1 xs1 nb1 ys1 nm1 n1 cs1) from congrArg DV.agg hA]at c1 c2 ⊢;refine kU func44 ?_;exact PR
theorem QX:∀(e:Ex),f4 e->aH e 0≠[]
 | .num v u,hf=>by
  obtain⟨d,hd⟩:=Option.isSome_iff_exists.1 hf.1;show fS 4 0 (tW v++el u)≠[];rw[tM,tW,hd];intro h;exact qh hd (List.append_eq_nil_iff.1 h).1
 | .nam s,hf=>by
  show fS 4 0 s≠[];rw[tM];intro h;subst h;cases hf
 | .neg a,hf=>by
  show fS 3 0 ([45]++aH a 3)≠[];rw[tM]
  simp
 | .bin k a b,hf=>by
  show fS (bO k) 0 (aH a (bO k)++f8 k++aH b (bO k+1))≠[];rw[tM];cases k<;>simp[f8]
theorem xM {e:Ex} (hf:f4 e) (hw:ls (rx e)) (hs:fi (rx e)<=1000000) (hd:pO (rx e)<=40) (hl:(aH e 0).length<=65536):aa Tryz.prog 63 [dE e] (.tup [dL (aH e 0),dN .i64 0]):=by
 have c1:=AI hf hw hs hd;have c2:aw Tryz.prog 105 [.box 850 0, .d (dE e), .d (dN .i64 0)] VX (.v (.tup [])) (Ly 701 (aH e 0)):=((l5 e hf 0 (by decide)).w0 (by omega)).swap 950 850 rfl;have c3:=Q9 (aH e 0) (by omega);have c4:=FZ (aH e 0) (QX e hf);generalize aH e 0=t at *;obtain⟨o1,na1,xs1,nb1,ys1,nm1,n1,cs1,hA⟩:=aY e;rw[show dE e= .agg (ab o1 na1 xs1 nb1 ys1 nm1 n1 cs1) from congrArg DV.agg hA]at c1 c2 ⊢;refine kU func63 ?_;refine io ?_;refine Uk yW rfl rfl rfl rfl rfl rfl ?_;refine kW ?_;refine kZ (c2) ?_;refine kD (c3) ?_;refine kY ?_;refine kD (c4) ?_;exact ap
end Go.Proofs.YtnchbpoopnjghaaGreatDoor
