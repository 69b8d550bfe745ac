/- Parts of a proof: contracts of the functions that the laws reach. -/
import Derived.Test.YtnchbpoopnjghaaGreatDoorQZ8
set_option maxHeartbeats 100000000
set_option linter.all false
open Go.Proofs.Tryz
namespace Go.Proofs.YtnchbpoopnjghaaGreatDoor
open Go.RowKit
theorem az.ren0 {P:Program} {f:FuncId} {j:Nat} {cs cs':List AV} {r:RV} (h:az P f [.box j 0] [(j,cs)] (.v r) [(j,cs')]) (j':Nat) (hw:bL j'=bL j) (hl:cM j=false) (hl':cM j'=false):az P f [.box j' 0] [(j',cs)] (.v r) [(j',cs')]:=az.ren (ds:=[]) h j' hw hl hl'
theorem az.ren1 {P:Program} {f:FuncId} {j:Nat} {d:DV} {cs cs':List AV} {r:RV} (h:az P f [.box j 0, .d d] [(j,cs)] (.v r) [(j,cs')]) (j':Nat) (hw:bL j'=bL j) (hl:cM j=false) (hl':cM j'=false):az P f [.box j' 0, .d d] [(j',cs)] (.v r) [(j',cs')]:=az.ren (ds:=[d]) h j' hw hl hl'
noncomputable def Gy (T:List Tk) (b:Int) (E:Nat):Except (Nat × Int) Ex:=match pP (5*T.length+5) .sum T with
 |some (.ok (e,t::_))=>if t.1≠0 then .error (t.2.2,2)else if b≠0 then .error (E,b)else if uq (rx e)<=40 then .ok e else .error (Ip T,3)
 |some (.error (p,c))=> .error (p,Wp E b p c)
 |_=> .error (0,2)
noncomputable def IJ (x:Except (Nat × Int) Ex):RV:=match x with
 | .ok e=> .tup [dE e,dN .i64 0,dN .i64 0]
 | .error (p,c)=> .tup [dR z7,dN .i64 p,dN .i64 c]
structure Mk (T:List Tk) (E:Nat):Prop where
 w:fI T
 z:Rh E T
 s:∀t∈T,t.2.1.length<=65536
 l:T.length<=999999
theorem Mk.le {T:List Tk} {E:Nat} (h:Mk T E):∀t∈T,t.2.2<=E:=fun t ht=>by
 by_cases h0:t.1=0
 ·exact Nat.le_of_eq ((h.z t ht).1 h0)
 ·exact Nat.le_of_lt ((h.z t ht).2 h0)
theorem A6 (T:List Tk):∃x,pP (5*T.length+5) .sum T=some x:=Se _ .sum T (l_ _)
theorem MN {T:List Tk} {E:Nat} (hT:Mk T E) {e:Ex} {r:List Tk} {f:Nat} (h:pP f .sum T=some (.ok (e,r))):j3 (rx e)/\f8 (rx e)<=1000000/\fI r/\ ∀t∈r,t∈T:=by
 have a:=ka _ _ _ _ _ hT.s (fun _ _ h=>by cases h) h;have b:=ga (E:=E) _ _ _ _ hT.w hT.le h;have:=a.2.2;have:=hT.l;exact⟨a.1,by dsimp only at *;omega,b,a.2.1⟩
theorem qi (s:List UInt8) (T:List Tk) (cT:aa Tryz.prog 77 [dL s] (C7 (.ok T))) (hT:Mk T s.length):aa Tryz.prog 35 [dL s] (IJ (Gy T 0 s.length)):=by
 have cT:aa Tryz.prog 77 [dL s] (.tup [.leaf (.sl T.length (gx T)),dN .i64 0,dN .i64 0]):=cT;obtain⟨x,hx⟩:=A6 T;have cs:=(Jn 0 _).sum T x hT.w hx;unfold Gy;rw[hx];cases x with
 |ok z=>
  obtain⟨e,r⟩:=z;obtain⟨hwx,hsz,hwr,hsub⟩:=MN hT hx;obtain⟨t,r,rfl⟩:=hwr.ne;have cs:=cs.1.ren0 4002 rfl rfl rfl;have cn:=(dA t r 0 0).ren0 4002 rfl rfl rfl;have cf:=(ku t r 0 2).ren1 4002 rfl rfl rfl;have cd:=mo (rx e) hwx hsz;dsimp only;obtain⟨o1,na1,xs1,nb1,ys1,nm1,n1,cs1,hA⟩:=aN e;rw[show dR (rx e)= .agg (ab o1 na1 xs1 nb1 ys1 nm1 n1 cs1) from congrArg DV.agg hA]at cd;have hE:dE e= .agg (ab o1 na1 xs1 nb1 ys1 nm1 n1 cs1):=congrArg DV.agg hA;rw[hE]at cs
  by_cases h0:t.1=0
  ·rw[if_neg (fun h=>h h0),if_neg (fun h=>h rfl)]
   by_cases hd:uq (rx e)<=40
   ·rw[if_pos hd]
    unfold IJ;dsimp only;rw[hE];refine kU func35 ?_;refine gy ?_;refine It ?_;refine uD ?_;refine kW ?_;refine kC (cd) ?_;refine kE ?_;exact aj
   ·rw[if_neg hd]
    obtain⟨t0,r0,rfl⟩:=hT.w.ne;unfold IJ;dsimp only;refine kU func35 ?_;refine gy ?_;refine It ?_;refine uD ?_;refine kW ?_;refine kC (cd) ?_;refine kX ?_
    refine aH (i:=0) (cs':=AM t0) (Z_ _) (fun j a h=>by
     rw[Nat.zero_mul,J_];show(AM t0++gx r0)[j]? =some a;rw[List.getElem?_append_left (G_.1 h).1];exact h) (Z_ 2) rfl rfl rfl rfl rfl rfl rfl rfl ?_
    exact aj
  ·rw[if_pos h0]
   unfold IJ;dsimp only;refine OS ?_;exact aj
 |error z=>
  obtain⟨p,c⟩:=z;obtain⟨hc,y,ts',cs,hw⟩:=cs;obtain⟨t,r,rfl⟩:=hw.ne;have cs:=cs.ren0 4002 rfl rfl rfl;have cn:=(dA t r p c).ren0 4002 rfl rfl rfl;have cf:=(x7 t r p c 2 hc).ren1 4002 rfl rfl rfl;obtain⟨o1,na1,xs1,nb1,ys1,nm1,n1,cs1,hA⟩:=aY y;rw[show dR y= .agg (ab o1 na1 xs1 nb1 ys1 nm1 n1 cs1) from congrArg DV.agg hA]at cs;dsimp only;rw[TD];unfold IJ;dsimp only
  by_cases h0:t.1=0
  ·refine kU func35 ?_
   refine gy ?_;refine It ?_;refine uD ?_;refine kG ?_
   refine kO4 ?_
   refine kB true ?_ ?_
   ·exact(by simp[hc])
   exact aj
  ·refine OS ?_
   refine kG ?_
   refine kO4 ?_
   refine kB true ?_ ?_
   ·exact(by simp[hc])
   exact aj
def fw:B4->Nat
 | .add=>1
 | .sub=>1
 | .mul=>2
 | .div=>2
def Vz:Ex->Nat
 | .num _ _=>4
 | .nam _=>4
 | .neg _=>3
 | .bin k _ _=>fw k
def oy:B4->List UInt8
 | .add=>[32,43,32]
 | .sub=>[32,45,32]
 | .mul=>[32,42,32]
 | .div=>[32,47,32]
noncomputable def NL (v:Rat):List UInt8:=(gg v).getD []
def tq (u:List UInt8):List UInt8:=if u=[]then []else 32::u
def yS (lv least:Nat) (t:List UInt8):List UInt8:=if lv<least then [40]++t++[41]else t
noncomputable def cx:Ex->Nat->List UInt8
 | .num v u,n=>yS 4 n (NL v++tq u)
 | .nam s,n=>yS 4 n s
 | .neg a,n=>yS 3 n ([45]++cx a 3)
 | .bin k a b,n=>yS (fw k) n (cx a (fw k)++oy k++cx b (fw k+1))
def qB:Ex->Prop
 | .num v u=>(gg v).isSome=true/\b8 510 v/\(u=[]∨pO u=true)
 | .nam s=>pO s=true
 | .neg a=>qB a
 | .bin _ a b=>qB a/\qB b
theorem IY (e:Ex) (n:Nat):cx e n=yS (Vz e) n (cx e 0):=by
 have h0:∀(lv:Nat) (t:List UInt8),yS lv 0 t=t:=fun lv t=>if_neg (Nat.not_lt_zero _)
 cases e<;>simp only[cx,Vz,h0]
theorem nc {P:Program} {w:World} (t u ty:TypeId) (e:TypeId) (i:TypeInfo) (ht:P.underlying t=some (.slice e)) (hu:P.underlying u=some .string) (hi:P.info? e=some i) (hz:i.zero=some (.int .u8 0))
 (hsize:i.size=1) (hby:i.bytes=1)
 (v:Value) (n:Nat) (xs:List Value) (hown:w.ownsRow 0 e 1 v n xs) (s:ByteArray)
 (hm:0<s.size) (h63:n+s.size<=maxLen) (hbytes:n+s.size<=140737488355328):
 ∃g cap w',(Builtin.append_ #[t,u] ty #[v, .string s]).run P w= .ok (.slice (some ⟨g,0,none⟩) (n+s.size) cap) w' /\
  w'.ownsRow 0 e 1 (.slice (some ⟨g,0,none⟩) (n+s.size) cap) (n+s.size) (xs++Lib.strCells s)/\w.grownBy w' v.ownBlock/\(v.ownBlock=some g∨g=w.heap.size)/\g<w'.heap.size /\
  (v.ownBlock≠some g-> ∀b,b<w.heap.size->w'.heap[b]? =w.heap[b]?) /\
  (∀arr,v.ownBlock=some g->w.heap[g]? =some (.cells arr e (0,0))-> ∀cur,w'.heap[g]? =some (.cells cur e (0,0))->cur.size=arr.size) /\
  (∀(p:Value->Prop),p (.int .u8 0)->(∀u∈Lib.strCells s,p u)->(∀b,v.ownBlock=some b-> ∀arr,w.heap[b]? =some (.cells arr e (0,0))-> ∀u∈arr.toList,p u)-> ∀cur,w'.heap[g]? =some (.cells cur e (0,0))-> ∀u∈cur.toList,p u):=by
 have hsmall:n+s.size<=9223372036854775807:=by simp only[maxLen]at h63;omega
 have hxl:xs.length=n:=by simpa using hown.1
 have hsl:(Lib.strCells s).length=s.size:=Lib.strCells_length s;have hlen:(xs++Lib.strCells s).length=(n+s.size)*1:=by rw[L_,hxl,hsl,o_]
 have pz:∀(p:Value->Prop) k,p (.int .u8 0)-> ∀u∈(Builtin.zeroCells (Value.int .u8 0).cells k).toList,p u:=by
  intro p k hp u hu;obtain⟨q,hq⟩:=W_ hu;obtain⟨hql,hqe⟩:=(G_.1 hq)
  simp only[Builtin.zeroCells]at hqe hql
  rw[<- hqe];have hc:(Value.int IntKind.u8 0).cells= #[.int .u8 0]:=rfl
  simp only[Array.getElem_toList,Array.getElem_map,Array.getElem_range,hc]
  have h1:(#[Value.int IntKind.u8 0]:Array Value).size=1:=rfl;have h2:q%(#[Value.int IntKind.u8 0]:Array Value).size=0:=by rw[h1];omega
  rw[h2];exact hp
 have grown:∀(old:Nat),old<n+s.size-> ∀(row:Option Nat),
  (w.drew.alloc (.cells (xs.toArray++(Lib.strCells s).toArray++Builtin.zeroCells (Value.int .u8 0).cells (grownCap w (n+s.size) old e-(n+s.size))) e)).ownsRow 0 e 1
   (.slice (some ⟨w.heap.size,0,none⟩) (n+s.size) (grownCap w (n+s.size) old e)) (n+s.size) (xs++Lib.strCells s) /\
  w.grownBy (w.drew.alloc (.cells (xs.toArray++(Lib.strCells s).toArray++Builtin.zeroCells (Value.int .u8 0).cells (grownCap w (n+s.size) old e-(n+s.size))) e)) row:=by
  intro old ho row;have hge:=grownCap_ge w (n+s.size) old e;have hcm:grownCap w (n+s.size) old e<=maxLen:=grownCap_le_maxLen w (n+s.size) old e h63;refine⟨⟨hlen, .inr ⟨w.heap.size,_,_,rfl,Nat.zero_le _,heap_alloc_new w.drew _,hge,hcm,?_,?_⟩⟩,⟨rfl,rfl,rfl,by simp,fun k hk _=>Below.heap_alloc w.drew _ k hk⟩⟩
  ·have hz1:(Value.int IntKind.u8 0).cells.size=1:=rfl
   simp only[Array.size_append,List.size_toArray,size_zeroCells,hz1,hxl,hsl]
   omega
  ·simp only[Array.toList_append,e_]
   rw[<- e_,<- hlen];exact List.take_left
 have fresh:∀(old:Nat) (p:Value->Prop),p (.int .u8 0)->(∀u∈Lib.strCells s,p u)->(∀u∈xs,p u)-> ∀cur,(w.drew.alloc (.cells (xs.toArray++(Lib.strCells s).toArray++Builtin.zeroCells (Value.int .u8 0).cells (grownCap w (n+s.size) old e-(n+s.size))) e)).heap[w.heap.size]? =some (.cells cur e (0,0))-> ∀u∈cur.toList,p u:=by
  intro old p h2 h3 h4 cur hc u hu;have h5:=heap_alloc_new w.drew (.cells (xs.toArray++(Lib.strCells s).toArray++Builtin.zeroCells (Value.int .u8 0).cells (grownCap w (n+s.size) old e-(n+s.size))) e);have h6:(w.drew.alloc (.cells (xs.toArray++(Lib.strCells s).toArray++Builtin.zeroCells (Value.int .u8 0).cells (grownCap w (n+s.size) old e-(n+s.size))) e)).heap[w.heap.size]? =some (.cells (xs.toArray++(Lib.strCells s).toArray++Builtin.zeroCells (Value.int .u8 0).cells (grownCap w (n+s.size) old e-(n+s.size))) e (0,0)):=h5;rw[h6]at hc
  simp only[X_,Obj.cells.injEq]at hc
  rw[<- hc.1]at hu
  simp only[Array.toList_append,List.mem_append]at hu
  rcases hu with(hu|hu)|hu
  ·exact h4 u (by simpa using hu)
  ·exact h3 u (by simpa using hu)
  ·exact pz p _ h2 u hu
 rcases hown.2 with⟨rfl,rfl⟩| ⟨g,cap,cur,rfl,hbg,hg,hnc,hcm,hcs,htake⟩
 ·have hx:xs=[]:=E_ hxl
  subst hx;have hr:=run_append_nil_string (P:=P) w t u ty e i (.int .u8 0) ht hu hi hz s hm O_ (by rw[hby];omega);have hgr:=grown 0 O_ (Value.ownBlock (.slice none 0 0));have hfr:=fresh 0
  simp only[J_,List.nil_append,Array.empty_append]at hgr hfr ⊢
  have e1:(s.data.map fun b=>Value.int .u8 b.toNat)=(Lib.strCells s).toArray:=by
   apply Array.ext'
   simp[Lib.strCells]
  rw[e1]at hr;refine⟨_,_,_,hr,hgr.1,hgr.2,Or.inr rfl,?_,fun _ b hb=>Below.heap_alloc w.drew _ b hb,fun _ h=>by simp[Value.ownBlock]at h,fun p h2 h3 _=>hfr p h2 h3 (fun u hu=>by cases hu)⟩;show w.heap.size<(w.heap.push _).size
  simp
 ·by_cases hroom:n+s.size<=cap
  ·have hcs':cur.size=cap:=by simpa using hcs
   have hr:=Lib.run_append_room_string (P:=P) w t u ty e i ht hu hi hsize g n cap cur hg s hroom O_;have hset:=setRow_heap w g cur (cur.toList.take n++Lib.strCells s++cur.toList.drop (n+s.size)).toArray e (0,0) hg;refine⟨g,cap,_,hr,⟨hlen, .inr ⟨g,cap,_,rfl,hbg,hset,hroom,hcm,?_,?_⟩⟩,⟨rfl,rfl,rfl,by simp,fun k _ hk=>setRow_other w g k _ (fun e=>hk (by simp[Value.ownBlock,e]))⟩,Or.inl rfl,?_,fun h=>absurd rfl h,?_,?_⟩
   ·exact Qu
   ·have ht':cur.toList.take n=xs:=by simpa using htake
    rw[ht',<- hlen];exact List.take_left
   ·exact(A_.1 hset).1
   ·intro arr _ harr cur' hc
    rw[hset]at hc;rw[hg]at harr
    simp only[X_,Obj.cells.injEq]at hc harr
    rw[<- hc.1,<- harr.1];exact Qu
   ·intro p _ h3 h4 cur' hc u hu
    rw[hset]at hc
    simp only[X_,Obj.cells.injEq]at hc
    rw[<- hc.1]at hu
    simp only[List.mem_append]at hu
    have hold:=h4 g rfl cur hg;rcases hu with(hu|hu)|hu
    ·exact hold u (List.mem_of_mem_take hu)
    ·exact h3 u hu
    ·exact hold u (List.mem_of_mem_drop hu)
  ·have holds:∀j u,xs[j]? =some u->w.cell? ((⟨g,0,none⟩:Addr).add j)=some u:=hown.cells (g:=g) rfl
   have hr:=Lib.run_append_grow_string (P:=P) w t u ty e i (.int .u8 0) ht hu hi hz ⟨g,0,none⟩ n cap xs (by rw[hsize];simpa using hxl) holds s O_ O_ (by rw[hby];exact growslice_fits O_ O_);have hgr:=grown cap O_ (Value.ownBlock (.slice (some ⟨g,0,none⟩) n cap));have hgl:g<w.heap.size:=(A_.1 hg).1
   refine⟨_,_,_,hr,hgr.1,hgr.2,Or.inr rfl,?_,fun _ b hb=>Below.heap_alloc w.drew _ b hb,fun arr h=>?_,fun p h2 h3 h4=>fresh cap p h2 h3 (fun u hu=>h4 g rfl cur hg u ?_)⟩
   ·show w.heap.size<(w.heap.push _).size
    simp
   ·simp only[Value.ownBlock,X_]at h
    omega
   ·rw[<- htake]at hu
    exact List.mem_of_mem_take hu
def q7 (l:List UInt8):List AV:=l.map fun c=>AV.val (.int .u8 c.toNat)
theorem DY (l:List UInt8):(q7 l).length=l.length:=by simp[q7]
theorem Lx (l m:List UInt8):q7 (l++m)=q7 l++q7 m:=by simp[q7]
theorem vb (l:List UInt8):Lib.strCells (Bs l)=l.map fun c=>Value.int .u8 c.toNat:=by
 simp[Lib.strCells,Bs]
theorem TO (S:Nat->Prop) (w:World) (l:List UInt8):CM S w (q7 l) (Lib.strCells (Bs l)):=by
 rw[vb];refine⟨by simp[q7],fun i a v h1 h2=>?_⟩
 simp only[q7,List.getElem?_map,Option.map_eq_some_iff]at h1 h2
 obtain⟨c,h3,rfl⟩:=h1;obtain⟨c',h4,rfl⟩:=h2;rw[h3]at h4;cases h4;exact .val rfl
section
variable {P:Program} {T:TypeId->Option Ty} {n:Nat} {ops:Array Oper} {id:Nat} {draw:Bool} {K:AS->Prop} {s:AS} {k:Nat} {o:Oper} {os:List Oper} {fps:List FP}
structure Iq (P:Program) (t u e:TypeId):Prop where
 sl:P.underlying t=some (.slice e)
 str:P.underlying u=some .string
 inf:∃i,P.info? e=some i/\i.zero=some (.int .u8 0)/\i.size=1/\i.bytes=1
theorem JC (j':Nat) {d:Nat} {x y:Operand} {t u et m1 m:Nat} {dead:Option Nat} {cs cs':List AV} {l:List UInt8} (em:m1+l.length=m) (ec:cs.take (m1*1)++q7 l=cs') (hbt:Iq P t u et) (hm:l≠[]) (hb:m1+l.length<=140737488355328) (h0:draw=false) (h1:gd ops s o=some true) (ho:o.op= .call ⟨.builtin .append,#[x,y],#[t,u]⟩) (hd:o.dst=some d) (h3:aL n o.dst=true)
 (hbase:eK s x m1 1 et dead cs) (hy:s.ev y= .d (.leaf (.val (vL l)))) (hnew:fJ s j'=true) (hcl:jm dead=true)
 (h:ar P T n ops id draw K (k+1) os ⟨(d, .own j' m 1 et)::s.t,(j',some cs')::fB dead s.b⟩ (aA ops o ⟨.junk,none⟩ []::fps)):ar P T n ops id draw K k (o::os) s fps:=by
 subst em ec;refine .snd h0 h1 (fun S0 w0 g a w K' Q hM hK=>?_) h;obtain⟨i,hi,hz,his,hib⟩:=hbt.inf;obtain⟨v,hxv,olds,hown,hblk,hcln,holds⟩:=sJ hM hbase;have hyv:=a7 hM hy;have hsz:(Bs l).size=l.length:=aJ l;have hpos:0<(Bs l).size:=by rw[hsz];exact List.length_pos_iff.2 hm
 obtain⟨B,cap,w',hr,h2,h3',h4,_,h5,h6,h7⟩:=nc (P:=P) (w:=w) t u o.type et i hbt.sl hbt.str hi hz his hib v m1 olds hown (Bs l) hpos (by unfold maxLen;omega) O_;rw[hsz]at hr h2
 have:=sV (d:=d) hM (ee h3 d hd) hbase (xs:=q7 l) (m2:=l.length) (by rw[DY];omega) (bA hnew) (ji hnew) hown hblk hcln holds (TO _ _ l) h2 h3' h4 h5 h6 (fun hwf cur hc u' hu=>by
  refine h7 (fun u=>gb u=true) rfl (fun u hu=>?_) (fun b hb arr har u hu=>?_) cur hc u' hu
  ·rw[vb]at hu
   obtain⟨c,_,rfl⟩:=List.mem_map.1 hu;rfl
  ·obtain⟨j,hj,rfl⟩:=hblk b hb
   obtain⟨_,arr',h11,h12⟩:=hcln j hj;rw[h11]at har
   simp only[X_,Obj.cells.injEq]at har
   obtain⟨rfl,_⟩:=har;rw[hj]at hcl;exact h12 (by simpa[jm]using hcl) u hu)
 unfold Oper.wp execOp
 simp only[ho,resolve,invoke,builtin,Y_,a_,R_,List.map_toArray,List.map_cons,List.map_nil,hxv,hyv,vL,hr]
 show K' (a.put o.dst _) w';rw[hd];exact hK _ _ _ this
theorem Tt (hz:(P.info? ww).bind (·.zero)=some (.agg #[.pointer none, .slice none 0 0])) {d:Nat} (h1:gd ops s o=some true) (ho:o.op= .alloc ww) (hd:o.dst=some d) (hj:ap s.b 850=none) (h3:aL n o.dst=true)
 (h4:fg draw ops (aA ops o ⟨.box 850 0,some [(850,some [.val (.pointer none), .nl])]⟩ [850]) k fps=true) (h:ar P T n ops id draw K (k+1) os (s.eff o.dst ⟨.box 850 0,some [(850,some [.val (.pointer none), .nl])]⟩) (aA ops o ⟨.box 850 0,some [(850,some [.val (.pointer none), .nl])]⟩ [850]::fps)):ar P T n ops id draw K k (o::os) s fps:=
 .run h1 (.gen fun s2 _ hrb=>oZ hd ⟨(hrb 850 S_).trans hj,rfl⟩ (fun n S0 w0 g a w hM=>by
  refine⟨#[.pointer none, .slice none 0 0],ww,?_,CM.cons (.val rfl) (CM.cons .nl (CM.nil _ _)),fun _=>⟨rfl,rfl⟩⟩;unfold execOp;rw[ho]
  simp only[Instr.alloc,Y_,kH hz w,R_]
  rfl) rfl) h3 h4 h
end
theorem JY:Iq Tryz.prog 137 9 5:=⟨underlying137,underlying9,by
 obtain⟨i,h1,h2⟩:=Option.map_eq_some_iff.1 tG
 simp only[Prod.mk.injEq]at h2
 exact⟨i,h1,h2.1,h2.2.1,h2.2.2⟩⟩
theorem x5:((Tryz.prog).info? ww).bind (·.zero)=some (.agg #[.pointer none, .slice none 0 0]):=by kernel_rfl
def QM:Ty:=⟨true,2,32,[.val (.pointer none), .nl],[(0,1,false),(1,1,false)],none,false,false,none⟩
theorem Rv:a8 Tryz.prog 139 QM where
 size:=by kernel_rfl
 bytes:=by kernel_rfl
 und:=by
  refine⟨_,underlying139,rfl,fun et k h=>(by cases h),fun fs h=>?_,fun h=>(by cases h),fun h=>(by cases h),fun k h=>(by cases h),fun f o k b h=>?_⟩
  ·cases h;rfl
  ·match f,h with
   |0,h=>cases h;exact⟨_,_,_,rfl,rfl,rfl,by kernel_rfl,by decide,underlying136,rfl⟩
   |1,h=>cases h;exact⟨_,_,_,rfl,rfl,rfl,by kernel_rfl,by decide,underlying137,rfl⟩
   |n+2,h=>simp[QM]at h
 zero:=⟨_,x5,fun S w=>CM.cons (.val rfl) (CM.cons .nl (CM.nil _ _))⟩
 zlen:=rfl
section
variable {P:Program} {T:TypeId->Option Ty} {n:Nat} {ops:Array Oper} {id:Nat} {draw:Bool} {K:AS->Prop} {s:AS} {k:Nat} {o:Oper} {os:List Oper} {fps:List FP}
theorem TK {t:TypeId} {ty:Ty} {x:Operand} {f off k0 j i:Nat} {ag:Bool} {cs:List AV} (hT:a8 P t ty) (hf:ty.flds[f]? =some (off,k0,ag)) (h1:gd ops s o=some true) (ho:o.op= .fieldAddr t x f) (hx:s.ev x= .box j i) (hj:s.bx j=some cs) (h3:aL n o.dst=true)
 (h4:fg draw ops (aA ops o ⟨.box j (i+off),none⟩ [j]) k fps=true) (h:ar P T n ops id draw K (k+1) os (s.eff o.dst ⟨.box j (i+off),none⟩) (aA ops o ⟨.box j (i+off),none⟩ [j]::fps)):ar P T n ops id draw K k (o::os) s fps:=
 .run h1 (.gen fun s2 ht hrb=>by
  have hx2:=(aw ht (x:=x) (by simp[ho,Op.operands])).trans hx;exact jI hT ho hf hx2 rfl (fun j' k' e=>by cases e;exact⟨cs,(bg (hrb j S_)).trans hj⟩)) h3 h4 h
theorem Pu {v:Value} (hv:v.oneCell'=true) (h1:gd ops s o=some true) (ho:o.op= .assign (.const v)) (h3:aL n o.dst=true) (h4:fg draw ops (aA ops o ⟨.d (.leaf (.val v)),none⟩ []) k fps=true)
 (h:ar P T n ops id draw K (k+1) os (s.eff o.dst ⟨.d (.leaf (.val v)),none⟩) (aA ops o ⟨.d (.leaf (.val v)),none⟩ []::fps)):ar P T n ops id draw K k (o::os) s fps:=
 .run h1 (.gen fun s2 _ _=>ak (tv:= .d (.leaf (.val v))) fun n S0 w0 g a w hM=>⟨v,w,(by
  unfold execOp;rw[ho]
  rfl),Below.refl _ _,AV.M.val hv⟩) h3 h4 h
end
section
open Go.Shelf Go.RowKit
abbrev AH:BL:=[(950,[.val (.pointer none), .nl])]
abbrev iq (r:Nat) (l:List UInt8):BL:=[(950,[.bp 950 0, .ow r l.length 1 5]),(r,q7 l)]
theorem C1 {r:Nat} {l:List UInt8}:dJ AH (iq r l):=fun j cs cs' h h'=>by
 obtain⟨rfl,rfl⟩:=bl.1 h;have h':some _=some cs':=h';cases h';exact l_ 2
theorem qW {r r':Nat} {l l':List UInt8} (h5:(r == r')=false) (h9:(r == 950)=false) (h9':(r' == 950)=false):dJ (iq r l) (iq r' l'):=fun j cs cs' h h'=>by
 rw[beq_eq_false_iff_ne]at h5 h9 h9';rw[bU]at h h'
 by_cases e:j=950
 ·subst e
  have h:some (some _)=some (some cs):=h;have h':some (some _)=some (some cs'):=h';cases h;cases h';exact l_ 2
 ·rw[ay,au _ _ (Ne.symm e),ay]at h h'
  by_cases e2:r=j
  ·subst e2
   rw[au _ _ (Ne.symm h5)]at h';cases h'
  ·rw[au _ _ e2]at h
   cases h
theorem Tn {S:Nat->Prop} {w:World} {v:Value} (h:AV.M S w .nl v):v= .slice none 0 0:=by cases h;rfl
theorem Kb {S:Nat->Prop} {g:Nat->Nat} {b:BL} {r:RT} {w:World} {v:Value} (h:Gi S g w b) (hv:TV.M (Own S g (sB b)) g (sB b) w r.tv v):xo S g b r b w (.returned v) w:=
 ⟨v,g,rfl,fun j cs cs' h1 h2=>by rw[h1]at h2;cases h2;exact⟨rfl,l_ _⟩,fun j cs' hj=>⟨.inr ⟨j,cs',hj,rfl⟩,h.bm j cs' hj⟩,h.inj,hv,cR.refl _ _⟩
theorem U3 {S:Nat->Prop} {g:Nat->Nat} {s:AS} {w:World}:TV.M S g s w (RT.v (.tup [])).tv (.tuple #[]):=⟨[],rfl,rfl,fun i x u h1 _=>by simp at h1⟩
theorem xV {S:Nat->Prop} {g:Nat->Nat} {b:BL} {w:World} {j:Nat} {cs:List AV} {vs:List Value} (hj:(sB b).bx j=some cs) (hv:oq S g (sB b) w [.box j 0] vs):vs=[.pointer (some ⟨g j,0,none⟩)]:=by
 match vs,hv with
 | [v],⟨h,_⟩=>rw[h.2 cs hj]
theorem Lv (r:Nat) (l:List UInt8):az Tryz.prog 145 [.box 950 0] (iq r l) (.v (.tup [])) (iq r l):=by
 refine⟨aG func145 rfl rfl,fun S g w vs hpre hv=>?_⟩;have hj:(sB (iq r l)).bx 950=some [.bp 950 0, .ow r l.length 1 5]:=rfl;rw[xV hj hv];obtain⟨arr,e,h1,h2,_,h4,h5⟩:=hpre.bm 950 _ hj;have hlen:=(h5 rfl).2
 have h0:w.cell? ⟨g 950,0,none⟩=some (.pointer (some ⟨g 950,0,none⟩)):=by
  rw[dK h1];have hx:arr.toList[0]? =some arr[0]:=by simp[hlen]
  have:=h4 rfl 0 (.bp 950 0) arr[0] rfl hx;rw[show arr[0]? =some arr[0] by simp[hlen],this.2 _ hj]
 refine(jY (g 950) w h0).mono ?_;rintro e w' ⟨rfl,rfl⟩;exact Kb hpre U3
theorem Gh {w:World} {B:Nat} {arr:Array Value} {e:TypeId} {v:Value} (h:w.heap[B]? =some (.cells arr e (0,0))):(w.setCell ⟨B,0,none⟩ v).heap[B]? =some (.cells (arr.setIfInBounds 0 v) e (0,0)):=by
 simp[World.setCell,Array.getElem?_modify,h]
theorem AR {w:World} {B k:Nat} {v:Value} (h:k≠B):(w.setCell ⟨B,0,none⟩ v).heap[k]? =w.heap[k]?:=by
 simp[World.setCell,Array.getElem?_modify,Ne.symm h]
theorem I0:az Tryz.prog 145 [.box 950 0] AH (.v (.tup [])) [(950,[.bp 950 0, .nl])]:=by
 refine⟨aG func145 rfl rfl,fun S g w vs hpre hv=>?_⟩;have hj:(sB AH).bx 950=some [.val (.pointer none), .nl]:=rfl;rw[xV hj hv];obtain⟨arr,e,h1,h2,h3,h4,h5⟩:=hpre.bm 950 _ hj;obtain⟨rfl,hlen⟩:=h5 rfl;have h20:=h2.2 0 (.val (.pointer none)) arr[0] rfl (by simp[hlen]);have h21:=h2.2 1 .nl arr[1] rfl (by simp[hlen])
 have h0:w.cell? ⟨g 950,0,none⟩=some (.pointer none):=by
  rw[dK h1,show arr[0]? =some arr[0] by simp[hlen],bc h20]
 refine(jF (g 950) w h0 (by simp[World.shape?,h1,hlen];rfl) (by simp[World.frozen?,h1])).mono ?_;rintro e w' ⟨rfl,rfl⟩;have hh:=Gh (v:= .pointer (some ⟨g 950,0,none⟩)) h1;have hO:∀c c',Own S g (sB [(950,c)])=Own S g (sB [(950,c')]):=fun c c'=>by rw[ln,ln]
 refine⟨_,g,rfl,?_,?_,?_,U3,?_⟩
 ·intro j cs cs' k1 k2
  obtain⟨rfl,rfl⟩:=bl.1 k1;obtain⟨_,rfl⟩:=bl.1 k2;exact⟨rfl,l_ _⟩
 ·intro j cs' k2
  obtain⟨rfl,rfl⟩:=bl.1 k2;refine⟨.inr ⟨950,_,hj,rfl⟩,_,_,hh,⟨by simp[hlen],fun i a v ha hv=>?_⟩,fun _ v hv=>?_,fun _ i a v ha hv=>?_,fun _=>⟨rfl,by simp[hlen]⟩⟩
  ·match i,ha with
   |0,ha=>
    cases ha;have:v= .pointer (some ⟨g 950,0,none⟩):=by simpa[hlen]using hv.symm
    subst this;exact .bp rfl
   |1,ha=>
    cases ha;have:v=arr[1]:=by simpa[hlen]using hv.symm
    subst this;rw[Tn h21];exact .nl
  ·simp only[Array.toList_setIfInBounds]at hv
   rcases List.mem_or_eq_of_mem_set hv with h|h
   ·exact h3 rfl v h
   ·subst h;rfl
  ·match i,ha with
   |0,ha=>
    cases ha;have:v= .pointer (some ⟨g 950,0,none⟩):=by simpa[hlen]using hv.symm
    subst this;exact⟨⟨_,rfl⟩,fun _ _=>rfl⟩
   |1,ha=>cases ha;trivial
 ·intro i j ci cj k1 k2 _
  rw[(bl.1 k1).1,(bl.1 k2).1]
 ·refine⟨rfl,rfl,rfl,by simp[World.setCell],fun k hk hx=>?_,fun k hk hx a e fz ha=>?_⟩
  ·exact AR (fun h=>hx ⟨950,_,hj,h.symm⟩)
  ·rw[mg]at hx
   subst hx;rw[h1]at ha;cases ha;exact⟨_,_,hh,by simp⟩
theorem EX (l:List UInt8) (hl:l≠[]) (hs:l.length<=100000000000000):gR Tryz.prog 103 [.box 950 0, .d (dL l)] AH (.v (.tup [dN .i64 l.length, .leaf (.val .nilIface)])) (iq 701 l):=by
 have hB:=aJ l;refine tK af dx func103 rfl rfl rfl rfl rfl C1 ?_;refine kW ?_;refine kD (I0) ?_;refine zt ?_;refine kW ?_;refine JC 701 (J_ _) rfl JY hl O_ rfl rfl rfl rfl rfl (.nil rfl rfl) rfl rfl rfl ?_;refine zt ?_;refine kG ?_;refine kO ?_;refine cU (v':= .int .i64 ((l.length:Nat))) rfl rfl rfl rfl ?_ ?_
 ·exact congrArg (Value.int .i64) (by rw[hB])
 refine kO ?_;refine Pu rfl rfl rfl rfl rfl ?_;exact HE
theorem Fh (l m:List UInt8) (hm:m≠[]) (hs:l.length+m.length<=100000000000000):gR Tryz.prog 103 [.box 950 0, .d (dL m)] (iq 700 l) (.v (.tup [dN .i64 m.length, .leaf (.val .nilIface)])) (iq 701 (l++m)):=by
 have hB:=aJ m;have e1:q7 (l++m)=(q7 l).take (l.length*1)++q7 m:=by rw[Lx,o_,K_ (by rw[DY];exact l_ _)]
 refine tK af dx func103 rfl rfl rfl rfl rfl (qW rfl rfl rfl) ?_;refine kW ?_;refine kD (Lv 700 l) ?_;refine zt ?_;refine kW ?_;refine JC 701 (L_).symm e1.symm JY hm O_ rfl rfl rfl rfl rfl (.own rfl rfl) rfl rfl rfl ?_;refine zt ?_;refine kG ?_;refine kO ?_;refine cU (v':= .int .i64 ((m.length:Nat))) rfl rfl rfl rfl ?_ ?_
 ·exact congrArg (Value.int .i64) (by rw[hB])
 refine kO ?_;refine Pu rfl rfl rfl rfl rfl ?_;exact HE
end
section
open Go.Shelf Go.RowKit
def lR (a:Nat):Bool:=Nat.ble 700 a && Nat.ble a 740
theorem BV {a:Nat} (h:lR a=true):700<=a/\a<=740:=by
 simp only[lR,B_]at h
 exact⟨N_ h.1,N_ h.2⟩
theorem Cg {a:Nat} (h:lR a=true):bL a=false/\cM a=false/\ib a=false:=by
 have:=BV h;refine⟨?_,?_,?_⟩
 ·unfold bL
  cases hb:Nat.ble 1000000 a
  ·rfl
  ·have:=N_ hb;omega
 ·have e:a/50=14:=O_
  unfold cM;rw[e];rfl
 ·have h1:Nat.beq (a/10) 85=false:=by
   cases hb:Nat.beq (a/10) 85
   ·rfl
   ·have:=Nat.eq_of_beq_eq_true hb;omega
  have h2:Nat.beq (a/10) 95=false:=by
   cases hb:Nat.beq (a/10) 95
   ·rfl
   ·have:=Nat.eq_of_beq_eq_true hb;omega
  unfold ib;rw[h1,h2];rfl
theorem H6 {a b:Nat} (ha:lR a=true) (hb:lR b=true):nN a b=true:=by
 obtain⟨h1,h2,h3⟩:=Cg ha;obtain⟨k1,k2,k3⟩:=Cg hb;rw[nN,h1,h2,h3,k1,k2,k3];rfl
theorem Cv {x y:Nat} (hx:lR x=true) (hy:lR y=true):sw x y 950=950:=by
 have:=BV hx;have:=BV hy;unfold sw;rw[if_neg O_,if_neg O_]
theorem We {x y r:Nat} (hx:lR x=true) (hy:lR y=true) (hr:lR r=true):lR (sw x y r)=true:=by
 unfold sw
 split
 ·exact hy
 ·split
  ·exact hx
  ·exact hr
theorem BG {x y r:Nat} (l:List UInt8) (hx:lR x=true) (hy:lR y=true) (hr:lR r=true):oU x y (iq r l)=iq (sw x y r) l:=by
 have e1:vK x y 950 [.bp 950 0, .ow r l.length 1 5]=[.bp (sw x y 950) 0, .ow (sw x y r) l.length 1 5]:=rfl;have e2:vK x y r (q7 l)=q7 l:=by unfold vK;rw[(Cg hr).2.1]
 show [(sw x y 950,vK x y 950 _),(sw x y r,vK x y r (q7 l))]=_;rw[e1,e2,Cv hx hy]
theorem R1 {x y:Nat} (hx:lR x=true) (hy:lR y=true):oU x y AH=AH:=by
 have e1:vK x y 950 [.val (.pointer none), .nl]=[.val (.pointer none), .nl]:=rfl;show [(sw x y 950,vK x y 950 _)]=_;rw[e1,Cv hx hy]
theorem ES {x y:Nat} (hx:lR x=true) (hy:lR y=true) (ds:List DV):(TV.box 950 0::ds.map .d).map (Q4 x y)= .box 950 0::ds.map .d:=by
 rw[List.map_cons,List.map_map];show TV.box (sw x y 950) 0::_=_;rw[Cv hx hy]
 congr 1
section
variable {C:List TV->BL->RT->BL->Prop} (hs:∀{ts:List TV} {l:BL} {r:RT} {l':BL} (a b:Nat),nN a b=true->C ts l r l'->C (ts.map (Q4 a b)) (oU a b l) (Te a b r) (oU a b l'))
include hs
theorem JD {ds:List DV} {r:RV} {l m:List UInt8} {p q:Nat} (x y:Nat) (hx:lR x=true) (hy:lR y=true) (hp:lR p=true) (hq:lR q=true) (h:C (.box 950 0::ds.map .d) (iq p l) (.v r) (iq q m)):C (.box 950 0::ds.map .d) (iq (sw x y p) l) (.v r) (iq (sw x y q) m):=by
 have:=hs x y (H6 hx hy) h;rw[ES hx hy,BG l hx hy hp,BG m hx hy hq]at this;exact this
theorem Eh {ds:List DV} {r:RV} {l m:List UInt8} (a b:Nat) (ha:lR a=true) (hb:lR b=true) (hab:(a == b)=false) (h:C (.box 950 0::ds.map .d) (iq 700 l) (.v r) (iq 701 m)):C (.box 950 0::ds.map .d) (iq a l) (.v r) (iq b m):=by
 have h1:=JD hs 700 a rfl ha rfl rfl h;have ho:lR (sw 700 a 701)=true:=We rfl ha rfl;have e1:sw 700 a 700=a:=if_pos rfl
 have hne:sw 700 a 701≠a:=fun e=>by
  have:=xF (e.trans e1.symm);omega
 rw[e1]at h1;have h2:=JD hs (sw 700 a 701) b ho hb ha ho h1;rw[beq_eq_false_iff_ne]at hab
 have e2:sw (sw 700 a 701) b a=a:=by
  unfold sw at hne ⊢;rw[if_neg (Ne.symm hne),if_neg hab]
 have e3:sw (sw 700 a 701) b (sw 700 a 701)=b:=if_pos rfl;rw[e2,e3]at h2;exact h2
theorem Ea {ds:List DV} {r:RV} {m:List UInt8} (b:Nat) (hb:lR b=true) (h:C (.box 950 0::ds.map .d) AH (.v r) (iq 701 m)):C (.box 950 0::ds.map .d) AH (.v r) (iq b m):=by
 have:=hs 701 b (H6 rfl hb) h;rw[ES rfl hb,R1 rfl hb,BG m rfl hb rfl]at this;rw[show sw 701 b 701=b from if_pos rfl]at this;exact this
end
theorem GH (a b:Nat) (l m:List UInt8) (hm:m≠[]) (hs:l.length+m.length<=100000000000000) (ha:lR a=true) (hb:lR b=true) (hab:(a == b)=false):gR Tryz.prog 103 [.box 950 0, .d (dL m)] (iq a l) (.v (.tup [dN .i64 m.length, .leaf (.val .nilIface)])) (iq b (l++m)):=
 Eh (C:=gR Tryz.prog 103) (ds:=[dL m]) (fun a b h=>gR.swap a b h) a b ha hb hab (Fh l m hm hs)
theorem TS (b:Nat) (m:List UInt8) (hm:m≠[]) (hs:m.length<=100000000000000) (hb:lR b=true):gR Tryz.prog 103 [.box 950 0, .d (dL m)] AH (.v (.tup [dN .i64 m.length, .leaf (.val .nilIface)])) (iq b m):=
 Ea (C:=gR Tryz.prog 103) (ds:=[dL m]) (fun a b h=>gR.swap a b h) b hb (EX m hm hs)
abbrev LW (r:Nat) (l:List UInt8):BL:=[(850,[.bp 850 0, .ow r l.length 1 5]),(r,q7 l)]
abbrev WT:BL:=[(850,[.val (.pointer none), .nl])]
theorem Rn (l:List UInt8) (hl:l.length<=100000000000000):az Tryz.prog 106 [.box 850 0] (LW 701 l) (.v (.one (dN .i64 l.length))) (LW 701 l):=by
 have h:az Tryz.prog 106 [.box 950 0] [(950,[.bp 950 0, .ow 901 l.length 1 5]),(901,q7 l)] (.v (.one (dN .i64 l.length))) [(950,[.bp 950 0, .ow 901 l.length 1 5]),(901,q7 l)]:=by
  refine aP af dx func106 rfl rfl rfl rfl rfl ((dJ.refl _)) ?_;refine zt ?_;exact HE
 exact((h.swap 950 850 rfl).swap 901 701 rfl)
set_option maxRecDepth 100000 in
theorem Gs (l:List UInt8) (h0:l≠[]):az Tryz.prog 104 [.box 850 0] (LW 701 l) (.v (.one (dL l))) []:=by
 refine⟨aG func104 rfl rfl,fun S g w vs hpre hv=>?_⟩;have hj:(sB (LW 701 l)).bx 850=some [.bp 850 0, .ow 701 l.length 1 5]:=rfl;have hj2:(sB (LW 701 l)).bx 701=some (q7 l):=rfl;rw[xV hj hv];obtain⟨arr,e,h1,h2,_,h4,h5⟩:=hpre.bm 850 _ hj;obtain⟨rfl,hlen⟩:=h5 rfl;have hx:arr.toList[1]? =some arr[1]:=by simp[hlen]
 have hw:TV.M (Own S g (sB (LW 701 l))) g (sB (LW 701 l)) w (.own 701 l.length 1 5) arr[1]:=h4 rfl 1 (.ow 701 l.length 1 5) arr[1] rfl hx;obtain⟨cap,e1,e2,e3,e4,cur,e5,e6⟩:=hw.2 _ hj2;obtain⟨cur',e',q1,q2,_⟩:=hpre.bm 701 _ hj2;rw[e5]at q1;cases q1;have hne:g 850≠g 701:=fun e=>by have:=hpre.inj 850 701 _ _ hj hj2 e;omega
 have hl0:l.length≠0:=by simpa using h0
 have c1:w.drew.cell? ⟨g 850,1,none⟩=some (.slice (some ⟨g 701,0,none⟩) l.length cap):=by
  have:w.drew.heap[g 850]? =some (.cells arr ww (0,0)):=h1;rw[dK this,<- e1]
  simp[hlen]
 have hSD:(Builtin.unsafeSliceData_ #[137] 183 #[.slice (some ⟨g 701,0,none⟩) l.length cap]).run Tryz.prog w.drew= .ok (.pointer (some ⟨g 701,0,none⟩)) w.drew:=
  Lib.run_unsafeSliceData_row _ _ _ _ _ _ O_
 have hUS:(Builtin.unsafeString_ #[183,3] 9 #[.pointer (some ⟨g 701,0,none⟩), .int .i64 l.length]).run Tryz.prog w.drew= .ok (.string ⟨l.toArray⟩) (w.drew.freeze ⟨g 701,0,none⟩ l.length):=by
  refine Lib.run_unsafeString_row w.drew 183 3 9 5 underlying183 (by kernel_rfl) (g 701) cur.size (by have hg':w.drew.heap[g 701]? =some (.cells cur 5 (0,0)):=e5;simp[World.shape?,hg']) l h0 O_ O_ ?_;intro j x hx;have hjl:=(G_.1 hx).1;have hg':w.drew.heap[g 701]? =some (.cells cur 5 (0,0)):=e5;have hcell:(q7 l)[j]? =some (.val (.int .u8 x.toNat)):=by simp[q7,hx]
  have hcl:j<cur.size:=O_
  have:=bc (q2.2 j (.val (.int .u8 x.toNat)) cur[j] hcell (by simp[hcl]));rw[b7,dK hg',J_,show cur[j]? =some cur[j] by simp[hcl],this]
 have hfr:cR (BX g (LW 701 l)) w (w.drew.freeze ⟨g 701,0,none⟩ l.length):=by
  unfold World.freeze;rw[if_neg hl0];refine⟨rfl,rfl,rfl,by show w.heap.size<=(w.heap.modify _ _).size;rw[Array.size_modify];exact l_ _,fun k hk hx=>?_,fun k hk hx a e fz ha=>?_⟩
  ·have hkne:g 701≠k:=fun h=>hx ⟨701,_,hj2,h⟩
   show(w.heap.modify (g 701) _)[k]? =_;rw[Array.getElem?_modify,if_neg hkne]
  ·show ∃arr' fz',(w.heap.modify (g 701) _)[k]? =_/\_
   rw[Array.getElem?_modify]
   by_cases hk1:g 701=k
   ·rw[if_pos hk1,ha]
    obtain⟨lo,hi⟩:=fz;exact⟨a,_,rfl,rfl⟩
   ·rw[if_neg hk1,ha]
    exact⟨a,fz,rfl,rfl⟩
 have hmx:=dx
 go_enter func104,ntmps104
 go_wp2
 go_region_o
 all_goals(go_wp2;go_ret;exact⟨_,g,rfl,fun j cs cs' _ h=>(by cases h),fun j cs h=>(by cases h),fun i j ci cj h=>(by cases h),AV.M.val rfl,hfr⟩)
end
section
variable {P:Program} {T:TypeId->Option Ty} {n:Nat} {ops:Array Oper} {id:Nat} {draw:Bool} {K:AS->Prop} {s:AS} {k:Nat} {o:Oper} {os:List Oper} {fps:List FP}
theorem gc {t e:TypeId} {x y:Operand} {m i:Nat} {ik:IntKind} {cs:List AV} (hu:P.underlying t=some (.array m e)) (hs:(P.info? e).map (·.size)=some 1) (hi:i<m) (h1:gd ops s o=some true) (ho:o.op= .indexAddr t x y) (hx:s.ev x= .rp cs) (hy:s.ev y= .d (.leaf (.val (.int ik (i:Nat)))))
 (h3:aL n o.dst=true) (h4:fg draw ops (aA ops o ⟨.rp (cs.drop i),none⟩ []) k fps=true) (h:ar P T n ops id draw K (k+1) os (s.eff o.dst ⟨.rp (cs.drop i),none⟩) (aA ops o ⟨.rp (cs.drop i),none⟩ []::fps)):ar P T n ops id draw K k (o::os) s fps:=
 .run h1 (.gen fun s2 ht _=>ak (tv:= .rp (cs.drop i)) fun n S0 w0 g a w hM=>by
  have hx2:=(aw ht (x:=x) (by simp[ho,Op.operands])).trans hx;have hy2:=(aw ht (x:=y) (by simp[ho,Op.operands])).trans hy;have h:=hM.ev x;rw[hx2]at h;obtain⟨b,off,f,e1,h1,h2,h3,h4⟩:=h;refine⟨.pointer (some ⟨b,off+i,none⟩),w,?_,Below.refl _ _,b,off+i,fun q=>f (i+q),rfl,h1,h2,fun q c hq=>?_,fun q c hq=>?_⟩
  ·refine P1 ?_
   have e2:(0:Int)<=i/\(i:Int)<m:=O_
   simp only[e2,and_self,if_true,Y_,bJ hs w,R_,a_,b7,Int.toNat_natCast,o_]
  ·rw[Nat.add_assoc];exact h3 (i+q) c (by simpa using hq)
  ·exact h4 (i+q) c (by simpa using hq)) h3 h4 h
end
theorem eB (e:Ex):aa Tryz.prog 147 [dE e] (.one (dN .i64 (Vz e))):=by
 cases e with
 |num v u=>
  show aa Tryz.prog _ [.agg ([.val (.int .i64 1)]++aQ v++[.val (vL u), .sl 0 []])] _;refine kU func147 ?_;exact aj
 |nam s=>
  show aa Tryz.prog _ [.agg ([.val (.int .i64 2)]++jq++[.val (vL s), .sl 0 []])] _;refine kU func147 ?_;exact aj
 |neg a=>
  rw[show dE (.neg a)= .agg ([.val (.int .i64 3)]++jq++[.val (vL []), .sl 1 (aE a)]) from congrArg DV.agg (oI a)];refine kU func147 ?_;exact aj
 |bin k a b=>
  refine NS ?_;cases k
  all_goals
   refine kU func147 ?_;exact kF
theorem uZ (lv:Nat) (t:List UInt8):yS lv 0 t=t:=if_neg (Nat.not_lt_zero lv)
theorem Ma {k:Nat} {s:List UInt8} (h:s≠[]):lE k s≠[]:=by
 intro e;unfold lE at e
 split at e
 ·simp at e
 ·unfold uo at e
  exact h (List.append_eq_nil_iff.1 e).2
theorem yA {q:Rat} {d:List UInt8}:∀(n k:Nat),lK q n k=some d->d≠[]
 |0,_,h=>by cases h
 |n+1,k,h=>by
  rw[lK]at h
  split at h
  ·split at h
   ·cases h;exact Ma (List.length_pos_iff.1 (K0 _))
   ·cases h
  ·exact yA n (k+1) h
theorem xi {q:Rat} {d:List UInt8} (h:gg q=some d):d≠[]:=by
 unfold gg at h
 split at h
 ·cases h
 ·exact yA _ _ h
theorem rD {r:Nat} {l:List UInt8}:dJ AH (iq r l):=C1
structure H0 (e:Ex) (least:Nat):Prop where
 w0:(cx e least).length<=1000000000->az Tryz.prog 105 [.box 950 0, .d (dE e), .d (dN .i64 least)] AH (.v (.tup [])) (iq 701 (cx e least))
 w1:∀l:List UInt8,l.length+(cx e least).length<=1000000000->az Tryz.prog 105 [.box 950 0, .d (dE e), .d (dN .i64 least)] (iq 700 l) (.v (.tup [])) (iq 701 (l++cx e least))
theorem H0.n0 {e:Ex} {least:Nat} (h:H0 e least) (b:Nat) (hl:(cx e least).length<=1000000000) (hb:lR b=true):az Tryz.prog 105 [.box 950 0, .d (dE e), .d (dN .i64 least)] AH (.v (.tup [])) (iq b (cx e least)):=
 Ea (C:=az Tryz.prog 105) (ds:=[dE e,dN .i64 least]) (fun a b h=>az.swap a b h) b hb (h.w0 hl)
theorem H0.n1 {e:Ex} {least:Nat} (h:H0 e least) (a b:Nat) (l:List UInt8) (hl:l.length+(cx e least).length<=1000000000) (ha:lR a=true) (hb:lR b=true) (hab:(a == b)=false):az Tryz.prog 105 [.box 950 0, .d (dE e), .d (dN .i64 least)] (iq a l) (.v (.tup [])) (iq b (l++cx e least)):=
 Eh (C:=az Tryz.prog 105) (ds:=[dE e,dN .i64 least]) (fun a b h=>az.swap a b h) a b ha hb hab (h.w1 l hl)
theorem M9 {v:Rat} {u:List UInt8} {least:Nat} (h4:least<=3) (hf:qB (.num v u)) (hl:(cx (.num v u) least).length<=1000000000):az Tryz.prog 105 [.box 950 0, .d (dE (.num v u)), .d (dN .i64 least)] AH (.v (.tup [])) (iq 701 (cx (.num v u) least)):=by
 obtain⟨h1,h2,h3⟩:=hf;obtain⟨t,c,ht⟩:=iU h2 D_;obtain⟨d,hd⟩:=Option.isSome_iff_exists.1 h1;rw[ht d hd,h1]at c;have hd0:d≠[]:=xi hd;have cl:=eB (.num v u)
 have e0:cx (.num v u) least=d++tq u:=by
  refine DZ ?_;show yS 4 0 (NL v++tq u)=_;rw[uZ,NL,hd];rfl
 rw[e0]at hl ⊢;have hdn:dE (.num v u)= .agg ([.val (.int .i64 1)]++aQ v++[.val (vL u), .sl 0 []]):=rfl;rw[hdn]at cl ⊢
 by_cases hu:u=[]
 ·subst hu
  rw[show tq []=[] from rfl,c_]at hl ⊢;refine DA ?_;refine DH ?_;refine dl ((TS 701 (d) hd0 O_ rfl).toT) rfl rfl rfl rfl rfl ⟨rfl,trivial⟩ rfl rfl rfl rfl ?_;refine kG ?_
  refine kO2 ?_
  refine yK ?_;exact Ah
 ·have hu2:tq u=[32]++u:=if_neg hu
  rw[hu2]at hl ⊢
  simp only[L_,List.length_cons,List.length_nil]at hl
  rw[show(d++([32]++u))=(d)++([32]++u) by simp];refine DA ?_;refine DH ?_;refine dl ((TS 702 (d) hd0 O_ rfl).toT) rfl rfl rfl rfl rfl ⟨rfl,trivial⟩ rfl rfl rfl rfl ?_;refine Oe ?_;refine dl ((GH 702 701 (d) ([32]++u) S_ (by simp <;>omega) rfl rfl rfl).toT) rfl rfl rfl rfl rfl ⟨rfl,rfl,trivial⟩ rfl rfl rfl rfl ?_;exact Ah
theorem NM {s:List UInt8} {least:Nat} (h4:least<=3) (hf:qB (.nam s)) (hl:(cx (.nam s) least).length<=1000000000):az Tryz.prog 105 [.box 950 0, .d (dE (.nam s)), .d (dN .i64 least)] AH (.v (.tup [])) (iq 701 (cx (.nam s) least)):=by
 have hs0:s≠[]:=fun e=>by subst e;cases hf
 have cl:=eB (.nam s)
 have e0:cx (.nam s) least=s:=by
  refine DZ ?_;exact uZ _ _
 rw[e0]at hl ⊢;have hdn:dE (.nam s)= .agg ([.val (.int .i64 2)]++jq++[.val (vL s), .sl 0 []]):=rfl;rw[hdn]at cl ⊢;refine DA ?_;refine gy ?_;refine R9 ?_;refine dl ((TS 701 (s) hs0 O_ rfl).toT) rfl rfl rfl rfl rfl ⟨rfl,trivial⟩ rfl rfl rfl rfl ?_;exact Ah
theorem LH {a:Ex} {least:Nat} (h4:least<=3) (ih:H0 a 3) (hl:(cx (.neg a) least).length<=1000000000):az Tryz.prog 105 [.box 950 0, .d (dE (.neg a)), .d (dN .i64 least)] AH (.v (.tup [])) (iq 701 (cx (.neg a) least)):=by
 have cl:=eB (.neg a)
 have e0:cx (.neg a) least=[45]++cx a 3:=by
  rw[IY,yS,if_neg (by show ¬3<least;omega)];exact uZ _ _
 rw[e0]at hl ⊢
 simp only[L_,List.length_cons,List.length_nil]at hl
 obtain⟨o1,na1,xs1,nb1,ys1,nm1,n1,cs1,hA⟩:=aN a;have hdn:dE (.neg a)= .agg ([.val (.int .i64 3)]++jq++[.val (vL []), .sl 1 (ab o1 na1 xs1 nb1 ys1 nm1 n1 cs1)]):=by rw[<- hA];exact congrArg DV.agg (oI a)
 rw[hdn]at cl ⊢;have cw:=ih.n1 702 701 ([45]) (by simp <;>omega) rfl rfl rfl;rw[show dE a= .agg (ab o1 na1 xs1 nb1 ys1 nm1 n1 cs1) from congrArg DV.agg hA]at cw;rw[show([45]++cx a 3)=([45])++cx a 3 by simp];refine DA ?_;refine gy ?_;refine Pt ?_;refine dl ((TS 702 ([45]) S_ (by simp <;>omega) rfl).toT) rfl rfl rfl rfl rfl ⟨rfl,trivial⟩ rfl rfl rfl rfl ?_;refine GJ ?_;refine kW ?_;refine kC (cl) ?_;refine kD (cw) ?_;exact Ah
theorem LC {a b:Ex} (k:B4) {least:Nat} (iha:H0 a (fw k)) (ihb:H0 b (fw k+1)) (hl:(cx (.bin k a b) least).length<=1000000000):az Tryz.prog 105 [.box 950 0, .d (dE (.bin k a b)), .d (dN .i64 least)] AH (.v (.tup [])) (iq 701 (cx (.bin k a b) least)):=by
 have cl:aa Tryz.prog 147 [dE (.bin k a b)] (.one (dN .i64 ((fw k:Nat):Int))):=eB (.bin k a b);obtain⟨o1,na1,xs1,nb1,ys1,nm1,n1,cs1,hA⟩:=aN a;obtain⟨o2,na2,xs2,nb2,ys2,nm2,n2,cs2,hA2⟩:=aN b;have hdn:dE (.bin k a b)= .agg ([.val (.int .i64 k.code)]++jq++[.val (vL []), .sl 2 (ab o1 na1 xs1 nb1 ys1 nm1 n1 cs1++ab o2 na2 xs2 nb2 ys2 nm2 n2 cs2)]):=by rw[<- hA,<- hA2];exact congrArg DV.agg (j0 k a b)
 have hsy:(oy k).length=3:=by cases k<;>rfl
 have hEa:dE a= .agg (ab o1 na1 xs1 nb1 ys1 nm1 n1 cs1):=congrArg DV.agg hA;have hEb:dE b= .agg (ab o2 na2 xs2 nb2 ys2 nm2 n2 cs2):=congrArg DV.agg hA2
 by_cases hlt:fw k<least
 ·have e0:cx (.bin k a b) least=[40]++(cx a (fw k)++oy k++cx b (fw k+1))++[41]:=if_pos hlt
  rw[e0]at hl ⊢
  simp only[L_,List.length_cons,List.length_nil,hsy]at hl
  have ca:=iha.n1 704 702 ([40]) (by simp <;>omega) rfl rfl rfl;have cb:=ihb.n1 703 705 ([40]++cx a (fw k)++oy k) (by simp only[L_,List.length_cons,List.length_nil,hsy];omega) rfl rfl rfl;have hfin:=GH 705 701 ([40]++cx a (fw k)++oy k++cx b (fw k+1)) [41] S_ (by simp only[L_,List.length_cons,List.length_nil,hsy];omega) rfl rfl rfl;have cy:=(GH 702 703 ([40]++cx a (fw k)) (oy k) (fun e=>by rw[e]at hsy;cases hsy) (by simp only[L_,List.length_cons,List.length_nil,hsy];omega) rfl rfl rfl).toT;rw[hdn]at cl ⊢;rw[hEa]at ca;rw[hEb]at cb;rw[show([40]++(cx a (fw k)++oy k++cx b (fw k+1))++[41])=[40]++cx a (fw k)++oy k++cx b (fw k+1)++[41] by simp];generalize cx a (fw k)=ta at *;generalize cx b (fw k+1)=tb at *;cases k
  all_goals
   refine gA af dx func105 rfl rfl rfl rfl rfl rfl rD ?_;refine kR ?_;refine kI ?_;refine kO ?_;refine kC (cl) ?_;refine kO ?_;refine kX ?_;refine dl ((TS 704 ([40]) S_ (by simp <;>omega) rfl).toT) rfl rfl rfl rfl rfl ⟨rfl,trivial⟩ rfl rfl rfl rfl ?_;refine kW ?_;refine C6 rfl rfl rfl rfl rfl rfl rfl ?_;refine kW ?_;refine aH (i:=0) (cs':=ab o1 na1 xs1 nb1 ys1 nm1 n1 cs1) D_ (mH _ _) (Z_ 6) rfl rfl rfl rfl rfl rfl rfl rfl ?_;refine kW ?_;refine kC (cl) ?_;refine kZ (ca) ?_;refine gc underlying184 (by kernel_rfl) D_ rfl rfl rfl rfl rfl rfl ?_;refine kW ?_;refine kZ (cy) ?_;refine aH (i:=1) (cs':=ab o2 na2 xs2 nb2 ys2 nm2 n2 cs2) D_ (nj _ rfl) (Z_ 6) rfl rfl rfl rfl rfl rfl rfl rfl ?_
   refine kW ?_;refine kQ (cl) ?_;refine kZ (cb) ?_;exact .inr ⟨_,_,_,_,_,{ dk:=rfl,one:=rfl,body:=hfin,kn:=rfl,bx:=⟨rfl,rfl,trivial⟩,cl:=rfl,new:=rfl,fin:=⟨rfl,rfl,trivial⟩ }⟩
 ·have e0:cx (.bin k a b) least=cx a (fw k)++oy k++cx b (fw k+1):=if_neg hlt
  rw[e0]at hl ⊢
  simp only[L_,hsy]at hl
  have ca:=iha.n0 702 O_ rfl;have cb:=ihb.n1 703 701 (cx a (fw k)++oy k) (by simp only[L_,List.length_cons,List.length_nil,hsy];omega) rfl rfl rfl;have cy:=(GH 702 703 (cx a (fw k)) (oy k) (fun e=>by rw[e]at hsy;cases hsy) (by simp only[L_,List.length_cons,List.length_nil,hsy];omega) rfl rfl rfl).toT;rw[hdn]at cl ⊢;rw[hEa]at ca;rw[hEb]at cb;rw[show(cx a (fw k)++oy k++cx b (fw k+1))=cx a (fw k)++oy k++cx b (fw k+1) by simp];generalize cx a (fw k)=ta at *;generalize cx b (fw k+1)=tb at *;cases k
  all_goals
   refine gA af dx func105 rfl rfl rfl rfl rfl rfl rD ?_;refine kR ?_;refine kI ?_;refine kO ?_;refine kC (cl) ?_;refine kO ?_;refine kY ?_;refine aH (i:=0) (cs':=ab o1 na1 xs1 nb1 ys1 nm1 n1 cs1) D_ (mH _ _) (Z_ 6) rfl rfl rfl rfl rfl rfl rfl rfl ?_;refine kW ?_;refine kC (cl) ?_;refine kZ (ca) ?_;refine gc underlying184 (by kernel_rfl) D_ rfl rfl rfl rfl rfl rfl ?_;refine kW ?_;refine kZ (cy) ?_;refine aH (i:=1) (cs':=ab o2 na2 xs2 nb2 ys2 nm2 n2 cs2) D_ (nj _ rfl) (Z_ 6) rfl rfl rfl rfl rfl rfl rfl rfl ?_;refine kW ?_;refine kQ (cl) ?_;refine kZ (cb) ?_;exact .inl ⟨⟨_,rfl,rfl⟩,⟨rfl,rfl,trivial⟩⟩
theorem MK (l:List UInt8) {v:Rat} {u:List UInt8} {least:Nat} (h4:least<=3) (hf:qB (.num v u)) (hl:l.length+(cx (.num v u) least).length<=1000000000):az Tryz.prog 105 [.box 950 0, .d (dE (.num v u)), .d (dN .i64 least)] (iq 700 l) (.v (.tup [])) (iq 701 (l++cx (.num v u) least)):=by
 obtain⟨h1,h2,h3⟩:=hf;obtain⟨t,c,ht⟩:=iU h2 D_;obtain⟨d,hd⟩:=Option.isSome_iff_exists.1 h1;rw[ht d hd,h1]at c;have hd0:d≠[]:=xi hd;have cl:=eB (.num v u)
 have e0:cx (.num v u) least=d++tq u:=by
  refine DZ ?_;show yS 4 0 (NL v++tq u)=_;rw[uZ,NL,hd];rfl
 rw[e0]at hl ⊢;have hdn:dE (.num v u)= .agg ([.val (.int .i64 1)]++aQ v++[.val (vL u), .sl 0 []]):=rfl;rw[hdn]at cl ⊢
 by_cases hu:u=[]
 ·subst hu
  rw[show tq []=[] from rfl,c_]at hl ⊢;refine EG ?_;refine DH ?_;refine dl ((GH 700 701 l (d) hd0 O_ rfl rfl rfl).toT) rfl rfl rfl rfl rfl ⟨rfl,rfl,trivial⟩ rfl rfl rfl rfl ?_;refine kG ?_
  refine kO2 ?_
  refine yK ?_;exact Ah
 ·have hu2:tq u=[32]++u:=if_neg hu
  rw[hu2]at hl ⊢
  simp only[L_,List.length_cons,List.length_nil]at hl
  rw[show l++(d++([32]++u))=(l++d)++([32]++u) by simp];refine EG ?_;refine DH ?_;refine dl ((GH 700 702 l (d) hd0 O_ rfl rfl rfl).toT) rfl rfl rfl rfl rfl ⟨rfl,rfl,trivial⟩ rfl rfl rfl rfl ?_;refine Oe ?_;refine dl ((GH 702 701 (l++d) ([32]++u) S_ (by simp <;>omega) rfl rfl rfl).toT) rfl rfl rfl rfl rfl ⟨rfl,rfl,trivial⟩ rfl rfl rfl rfl ?_;exact Ah
theorem Nj (l:List UInt8) {s:List UInt8} {least:Nat} (h4:least<=3) (hf:qB (.nam s)) (hl:l.length+(cx (.nam s) least).length<=1000000000):az Tryz.prog 105 [.box 950 0, .d (dE (.nam s)), .d (dN .i64 least)] (iq 700 l) (.v (.tup [])) (iq 701 (l++cx (.nam s) least)):=by
 have hs0:s≠[]:=fun e=>by subst e;cases hf
 have cl:=eB (.nam s)
 have e0:cx (.nam s) least=s:=by
  refine DZ ?_;exact uZ _ _
 rw[e0]at hl ⊢;have hdn:dE (.nam s)= .agg ([.val (.int .i64 2)]++jq++[.val (vL s), .sl 0 []]):=rfl;rw[hdn]at cl ⊢;refine EG ?_;refine gy ?_;refine R9 ?_;refine dl ((GH 700 701 l (s) hs0 O_ rfl rfl rfl).toT) rfl rfl rfl rfl rfl ⟨rfl,rfl,trivial⟩ rfl rfl rfl rfl ?_;exact Ah
theorem Nn (l:List UInt8) {a:Ex} {least:Nat} (h4:least<=3) (ih:H0 a 3) (hl:l.length+(cx (.neg a) least).length<=1000000000):az Tryz.prog 105 [.box 950 0, .d (dE (.neg a)), .d (dN .i64 least)] (iq 700 l) (.v (.tup [])) (iq 701 (l++cx (.neg a) least)):=by
 have cl:=eB (.neg a)
 have e0:cx (.neg a) least=[45]++cx a 3:=by
  rw[IY,yS,if_neg (by show ¬3<least;omega)];exact uZ _ _
 rw[e0]at hl ⊢
 simp only[L_,List.length_cons,List.length_nil]at hl
 obtain⟨o1,na1,xs1,nb1,ys1,nm1,n1,cs1,hA⟩:=aN a;have hdn:dE (.neg a)= .agg ([.val (.int .i64 3)]++jq++[.val (vL []), .sl 1 (ab o1 na1 xs1 nb1 ys1 nm1 n1 cs1)]):=by rw[<- hA];exact congrArg DV.agg (oI a)
 rw[hdn]at cl ⊢;have cw:=ih.n1 702 701 (l++[45]) (by simp <;>omega) rfl rfl rfl;rw[show dE a= .agg (ab o1 na1 xs1 nb1 ys1 nm1 n1 cs1) from congrArg DV.agg hA]at cw;rw[show l++([45]++cx a 3)=(l++[45])++cx a 3 by simp];refine EG ?_;refine gy ?_;refine Pt ?_;refine dl ((GH 700 702 l ([45]) S_ (by simp <;>omega) rfl rfl rfl).toT) rfl rfl rfl rfl rfl ⟨rfl,rfl,trivial⟩ rfl rfl rfl rfl ?_;refine GJ ?_;refine kW ?_;refine kC (cl) ?_;refine kD (cw) ?_;exact Ah
theorem NO (l:List UInt8) {a b:Ex} (k:B4) {least:Nat} (iha:H0 a (fw k)) (ihb:H0 b (fw k+1)) (hl:l.length+(cx (.bin k a b) least).length<=1000000000):az Tryz.prog 105 [.box 950 0, .d (dE (.bin k a b)), .d (dN .i64 least)] (iq 700 l) (.v (.tup [])) (iq 701 (l++cx (.bin k a b) least)):=by
 have cl:aa Tryz.prog 147 [dE (.bin k a b)] (.one (dN .i64 ((fw k:Nat):Int))):=eB (.bin k a b);obtain⟨o1,na1,xs1,nb1,ys1,nm1,n1,cs1,hA⟩:=aN a;obtain⟨o2,na2,xs2,nb2,ys2,nm2,n2,cs2,hA2⟩:=aN b;have hdn:dE (.bin k a b)= .agg ([.val (.int .i64 k.code)]++jq++[.val (vL []), .sl 2 (ab o1 na1 xs1 nb1 ys1 nm1 n1 cs1++ab o2 na2 xs2 nb2 ys2 nm2 n2 cs2)]):=by rw[<- hA,<- hA2];exact congrArg DV.agg (j0 k a b)
 have hsy:(oy k).length=3:=by cases k<;>rfl
 have hEa:dE a= .agg (ab o1 na1 xs1 nb1 ys1 nm1 n1 cs1):=congrArg DV.agg hA;have hEb:dE b= .agg (ab o2 na2 xs2 nb2 ys2 nm2 n2 cs2):=congrArg DV.agg hA2
 by_cases hlt:fw k<least
 ·have e0:cx (.bin k a b) least=[40]++(cx a (fw k)++oy k++cx b (fw k+1))++[41]:=if_pos hlt
  rw[e0]at hl ⊢
  simp only[L_,List.length_cons,List.length_nil,hsy]at hl
  have ca:=iha.n1 704 702 (l++[40]) (by simp <;>omega) rfl rfl rfl;have cb:=ihb.n1 703 705 (l++[40]++cx a (fw k)++oy k) (by simp only[L_,List.length_cons,List.length_nil,hsy];omega) rfl rfl rfl;have hfin:=GH 705 701 (l++[40]++cx a (fw k)++oy k++cx b (fw k+1)) [41] S_ (by simp only[L_,List.length_cons,List.length_nil,hsy];omega) rfl rfl rfl;have cy:=(GH 702 703 (l++[40]++cx a (fw k)) (oy k) (fun e=>by rw[e]at hsy;cases hsy) (by simp only[L_,List.length_cons,List.length_nil,hsy];omega) rfl rfl rfl).toT;rw[hdn]at cl ⊢;rw[hEa]at ca;rw[hEb]at cb;rw[show l++([40]++(cx a (fw k)++oy k++cx b (fw k+1))++[41])=l++[40]++cx a (fw k)++oy k++cx b (fw k+1)++[41] by simp];generalize cx a (fw k)=ta at *
  generalize cx b (fw k+1)=tb at *;cases k
  all_goals
   refine gA af dx func105 rfl rfl rfl rfl rfl rfl (qW rfl rfl rfl) ?_;refine kR ?_;refine kI ?_;refine kO ?_;refine kC (cl) ?_;refine kO ?_;refine kX ?_;refine dl ((GH 700 704 l ([40]) S_ (by simp <;>omega) rfl rfl rfl).toT) rfl rfl rfl rfl rfl ⟨rfl,rfl,trivial⟩ rfl rfl rfl rfl ?_;refine kW ?_;refine C6 rfl rfl rfl rfl rfl rfl rfl ?_;refine kW ?_;refine aH (i:=0) (cs':=ab o1 na1 xs1 nb1 ys1 nm1 n1 cs1) D_ (mH _ _) (Z_ 6) rfl rfl rfl rfl rfl rfl rfl rfl ?_;refine kW ?_;refine kC (cl) ?_;refine kZ (ca) ?_;refine gc underlying184 (by kernel_rfl) D_ rfl rfl rfl rfl rfl rfl ?_;refine kW ?_;refine kZ (cy) ?_
   refine aH (i:=1) (cs':=ab o2 na2 xs2 nb2 ys2 nm2 n2 cs2) D_ (nj _ rfl) (Z_ 6) rfl rfl rfl rfl rfl rfl rfl rfl ?_;refine kW ?_;refine kQ (cl) ?_;refine kZ (cb) ?_;exact .inr ⟨_,_,_,_,_,{ dk:=rfl,one:=rfl,body:=hfin,kn:=rfl,bx:=⟨rfl,rfl,trivial⟩,cl:=rfl,new:=rfl,fin:=⟨rfl,rfl,trivial⟩ }⟩
 ·have e0:cx (.bin k a b) least=cx a (fw k)++oy k++cx b (fw k+1):=if_neg hlt
  rw[e0]at hl ⊢
  simp only[L_,hsy]at hl
  have ca:=iha.n1 700 702 l O_ rfl rfl rfl;have cb:=ihb.n1 703 701 (l++cx a (fw k)++oy k) (by simp only[L_,List.length_cons,List.length_nil,hsy];omega) rfl rfl rfl;have cy:=(GH 702 703 (l++cx a (fw k)) (oy k) (fun e=>by rw[e]at hsy;cases hsy) (by simp only[L_,List.length_cons,List.length_nil,hsy];omega) rfl rfl rfl).toT;rw[hdn]at cl ⊢;rw[hEa]at ca;rw[hEb]at cb;rw[show l++(cx a (fw k)++oy k++cx b (fw k+1))=l++cx a (fw k)++oy k++cx b (fw k+1) by simp];generalize cx a (fw k)=ta at *;generalize cx b (fw k+1)=tb at *;cases k
  all_goals
   refine gA af dx func105 rfl rfl rfl rfl rfl rfl (qW rfl rfl rfl) ?_;refine kR ?_;refine kI ?_;refine kO ?_;refine kC (cl) ?_;refine kO ?_;refine kY ?_;refine aH (i:=0) (cs':=ab o1 na1 xs1 nb1 ys1 nm1 n1 cs1) D_ (mH _ _) (Z_ 6) rfl rfl rfl rfl rfl rfl rfl rfl ?_;refine kW ?_;refine kC (cl) ?_;refine kZ (ca) ?_;refine gc underlying184 (by kernel_rfl) D_ rfl rfl rfl rfl rfl rfl ?_;refine kW ?_;refine kZ (cy) ?_;refine aH (i:=1) (cs':=ab o2 na2 xs2 nb2 ys2 nm2 n2 cs2) D_ (nj _ rfl) (Z_ 6) rfl rfl rfl rfl rfl rfl rfl rfl ?_;refine kW ?_;refine kQ (cl) ?_;refine kZ (cb) ?_;exact .inl ⟨⟨_,rfl,rfl⟩,⟨rfl,rfl,trivial⟩⟩
theorem mj:∀(e:Ex),qB e-> ∀least:Nat,least<=3->H0 e least
 | .num v u,hf,n,hn=>⟨fun hl=>M9 hn hf hl,fun l hl=>MK l hn hf hl⟩
 | .nam s,hf,n,hn=>⟨fun hl=>NM hn hf hl,fun l hl=>Nj l hn hf hl⟩
 | .neg a,hf,n,hn=>⟨fun hl=>LH hn (mj a hf 3 D_) hl,fun l hl=>Nn l hn (mj a hf 3 D_) hl⟩
 | .bin k a b,hf,n,hn=>⟨fun hl=>LC k (mj a hf.1 _ (by cases k<;>decide)) (mj b hf.2 _ (by cases k<;>decide)) hl,fun l hl=>NO l k (mj a hf.1 _ (by cases k<;>decide)) (mj b hf.2 _ (by cases k<;>decide)) hl⟩
theorem wu {fid:FuncId} {p:Rx->Bool} (args:List Rx) (hp:∀x∈args,aa Tryz.prog fid [dR x] (.one (dB (p x)))) (hl:args.length<=1000000):aa Tryz.prog 86 [.leaf (.sl args.length (fG args)),dF fid] (.one (dN .i64 (if args.findIdx p<args.length then((args.findIdx p:Nat):Int)else -1))):=by
 have hf:=List.findIdx_le_length (p:=p) (xs:=args)
 have hn:∀(i:Nat) (hi:i<args.length),i<args.findIdx p->p args[i]=false:=fun i hi h=>by
  exact vA
 have hy:∀(h:args.findIdx p<args.length),p (args[args.findIdx p])=true:=fun h=>List.findIdx_getElem
 generalize args.findIdx p=f at *;refine kV func86 ?_
 refine aq Nat (fun i=>i<=f) (fun i=>⟨[(0, .d (.leaf (.sl args.length (fG args)))),(1, .d (dF fid)),(4, .d (dN .i64 0)),(7, .d (dN .i64 args.length)),(8, .d (dN .i64 i))],[]⟩) (fun i=>args.length-i) 0 (Nat.zero_le _)
  kw ?_
 intro i hi;refine kI ?_
 by_cases hlt:i<args.length
 ·refine kT ?_
  obtain⟨o1,na1,xs1,nb1,ys1,nm1,n1,cs1,hA⟩:=aY args[i];have hx:args[i]? =some args[i]:=by simp[hlt]
  have hat:∀(j:Nat) (a:AV),(ab o1 na1 xs1 nb1 ys1 nm1 n1 cs1)[j]? =some a->(fG args)[i*7+j]? =some a:=fun j a h=>eX args i args[i] hx j a (by rw[hA];exact h)
  have c:=hp args[i] (List.getElem_mem hlt);rw[show dR args[i]= .agg (ab o1 na1 xs1 nb1 ys1 nm1 n1 cs1) from congrArg DV.agg hA]at c;refine E7 ?_;refine kO ?_;cases hb:p args[i]
  ·rw[hb]at c
   refine kC (c) ?_;refine If ?_
   by_cases e:i=f
   ·subst e;have:=hy hlt;rw[hb]at this;cases this
   ·omega
  ·rw[hb]at c
   have e:i=f:=by
    by_cases e:i<f
    ·have:=hn i hlt e;rw[hb]at this;cases this
    ·omega
   subst e;rw[if_pos hlt];refine kC (c) ?_;exact aj
 ·rw[if_neg O_]
  refine kE ?_;exact aj
theorem eT {fid:FuncId} {p:Rx->Bool} (args:List Rx) (hp:∀x∈args,aa Tryz.prog fid [dR x] (.one (dB (p x)))) (hl:args.length<=1000000) {b:Bool} (hb:args.any p=b):aa Tryz.prog 42 [.leaf (.sl args.length (fG args)),dF fid] (.one (dB b)):=by
 have c:=wu args hp hl
 have hlt:(args.findIdx p<args.length)↔args.any p=true:=by
  rw[List.any_eq_true];exact List.findIdx_lt_length
 cases b with
 |true=>
  rw[if_pos (hlt.2 hb)]at c;refine kV func42 ?_;refine kC (c) ?_;refine kT ?_;exact aj
 |false=>
  rw[if_neg (fun h=>by rw[hlt.1 h]at hb;cases hb)]at c;refine kU func42 ?_;exact Px
theorem rE:aa Tryz.prog 126 [GP] (.one (dB true)):=by
 show aa Tryz.prog _ [.agg jq] _;refine kU func126 ?_;exact aj
theorem gm {x:Rx} {b:Bool} (h:aa Tryz.prog 87 [dR x] (.one (dB b))):aa Tryz.prog 127 [dR x] (.one (dB (!b))):=by
 obtain⟨o1,na1,xs1,nb1,ys1,nm1,n1,cs1,hA⟩:=aY x;rw[show dR x= .agg (ab o1 na1 xs1 nb1 ys1 nm1 n1 cs1) from congrArg DV.agg hA]at h ⊢;cases b
 all_goals
  refine kV func127 ?_;refine kC (h) ?_;exact kF
theorem VL (a:Ex):fG [rx a]=aE a:=by
 show aR (rx a)++[]=_;rw[c_];rfl
theorem VI (a b:Ex):fG [rx a,rx b]=aE a++aE b:=by
 show aR (rx a)++(aR (rx b)++[])=_;rw[c_];rfl
theorem im:∀(e:Ex),qB e->aa Tryz.prog 87 [dE e] (.one (dB true))
 | .num v u,hf=>by
  obtain⟨h1,h2,h3⟩:=hf;obtain⟨t,c,ht⟩:=iU h2 D_;rw[h1]at c;show aa Tryz.prog _ [.agg ([.val (.int .i64 1)]++aQ v++[.val (vL u), .sl 0 []])] _
  by_cases hu:u=[]
  ·subst hu
   refine g8 ?_;refine EI ?_;refine kW ?_;refine kC (c) ?_;refine kG ?_
   refine kO4 ?_
   refine ax rfl rfl rfl rfl rfl rfl rfl (aU (a:=[]) (b:=[]) rfl) ?_;exact aj
  ·have hn:=h3.resolve_left hu
   have ci:=f3 u (by
    cases u with
    |nil=>exact absurd rfl hu
    |cons c r=>simp only[pO,B_,decide_eq_true_eq]at hn;omega)
   rw[hn]at ci;refine g8 ?_;refine EI ?_;refine kW ?_;refine kC (c) ?_;refine kG ?_
   refine kO4 ?_
   refine yV ?_
   refine kO3 ?_
   refine kC (ci) ?_;exact aj
 | .nam s,hf=>by
  have hn:pO s=true:=hf
  have ci:=f3 s (by
   cases s with
   |nil=>cases hn
   |cons c r=>simp only[pO,B_,decide_eq_true_eq]at hn;omega)
  rw[hn]at ci;show aa Tryz.prog _ [.agg ([.val (.int .i64 2)]++jq++[.val (vL s), .sl 0 []])] _;refine g8 ?_;refine KK ?_;refine kW ?_;refine kQ (rE) ?_;refine kC (ci) ?_;exact aj
 | .neg a,hf=>by
  have c:=eT (fid:=127) (p:=fun _=>false) [rx a] (fun x hx=>by
   cases d_.1 hx;exact gm (im a hf)) S_ (b:=false) rfl
  rw[VL]at c;obtain⟨o1,na1,xs1,nb1,ys1,nm1,n1,cs1,hA⟩:=aN a;rw[show dE (.neg a)= .agg ([.val (.int .i64 3)]++jq++[.val (vL []), .sl 1 (aE a)]) from congrArg DV.agg (oI a)];rw[hA]at c ⊢;refine g8 ?_;refine G4 ?_;refine IH ?_;exact aj
 | .bin k a b,hf=>by
  have c:=eT (fid:=127) (p:=fun _=>false) [rx a,rx b] (fun x hx=>by
   rcases f_.1 hx with rfl|hx
   ·exact gm (im a hf.1)
   ·cases d_.1 hx
    exact gm (im b hf.2)) S_ (b:=false) rfl
  rw[VI]at c;obtain⟨o1,na1,xs1,nb1,ys1,nm1,n1,cs1,hA⟩:=aN a;obtain⟨o2,na2,xs2,nb2,ys2,nm2,n2,cs2,hA2⟩:=aN b;refine NS ?_;rw[hA,hA2]at c ⊢;cases k
  ·refine g8 ?_
   refine JP ?_;refine IH ?_;exact aj
  ·refine g8 ?_
   refine Jk ?_;refine IH ?_;exact aj
  ·refine g8 ?_
   refine Ik ?_;refine IH ?_;exact aj
  ·refine g8 ?_
   refine KN ?_;refine IH ?_;exact aj
theorem CL {e:Ex} (hf:qB e) (hw:j3 (rx e)) (hs:f8 (rx e)<=1000000) (hd:uq (rx e)<=40):aa Tryz.prog 44 [dE e] (.one (dN .i64 0)):=by
 have c1:=im e hf;have c2:aa Tryz.prog 81 [dE e] (.one (dN .i64 (uq (rx e)))):=mo (rx e) hw hs;obtain⟨o1,na1,xs1,nb1,ys1,nm1,n1,cs1,hA⟩:=aN e;rw[show dE e= .agg (ab o1 na1 xs1 nb1 ys1 nm1 n1 cs1) from congrArg DV.agg hA]at c1 c2 ⊢;refine kU func44 ?_;exact Ju
theorem RF:∀(e:Ex),qB e->cx e 0≠[]
 | .num v u,hf=>by
  obtain⟨d,hd⟩:=Option.isSome_iff_exists.1 hf.1;show yS 4 0 (NL v++tq u)≠[];rw[uZ,NL,hd];intro h;exact xi hd (List.append_eq_nil_iff.1 h).1
 | .nam s,hf=>by
  show yS 4 0 s≠[];rw[uZ];intro h;subst h;cases hf
 | .neg a,hf=>by
  show yS 3 0 ([45]++cx a 3)≠[];rw[uZ]
  simp
 | .bin k a b,hf=>by
  show yS (fw k) 0 (cx a (fw k)++oy k++cx b (fw k+1))≠[];rw[uZ];cases k<;>simp[oy]
theorem x4 {e:Ex} (hf:qB e) (hw:j3 (rx e)) (hs:f8 (rx e)<=1000000) (hd:uq (rx e)<=40) (hl:(cx e 0).length<=65536):aa Tryz.prog 63 [dE e] (.tup [dL (cx e 0),dN .i64 0]):=by
 have c1:=CL hf hw hs hd;have c2:az Tryz.prog 105 [.box 850 0, .d (dE e), .d (dN .i64 0)] WT (.v (.tup [])) (LW 701 (cx e 0)):=((mj e hf 0 D_).w0 O_).swap 950 850 rfl;have c3:=Rn (cx e 0) O_;have c4:=Gs (cx e 0) (RF e hf);generalize cx e 0=t at *;obtain⟨o1,na1,xs1,nb1,ys1,nm1,n1,cs1,hA⟩:=aN e;rw[show dE e= .agg (ab o1 na1 xs1 nb1 ys1 nm1 n1 cs1) from congrArg DV.agg hA]at c1 c2 ⊢;refine kU func63 ?_;refine iQ ?_;refine Tt x5 rfl rfl rfl rfl rfl rfl ?_;refine kW ?_;refine kZ (c2) ?_;refine kD (c3) ?_;refine kY ?_;refine kD (c4) ?_;exact aj
theorem pJ {na nb:Bool} {xs ys:List Nat} (hl:xs.length<=2147483648) (hl':ys.length<=2147483648):aa Tryz.prog 24 [Lq na xs nb ys,Lq na xs nb ys] (.one (dB true)):=by
 have c1:aa Tryz.prog 59 [dI na xs,dI na xs] (.one (dB true)):=lX hl (th rfl);have c2:aa Tryz.prog 59 [dI nb ys,dI nb ys] (.one (dB true)):=lX hl' (th rfl);refine kU func24 ?_;refine iQ ?_;refine kC (c2) ?_;exact aj
theorem Tu (c:UInt8) (h:gv c) (h0:c≠48):jN false [c]:=⟨by simp,fun x hx=>by cases d_.1 hx;exact h, .inl fun x r hr=>by cases hr;exact h0⟩
theorem RP (c:UInt8) (h:gv c) (h0:c≠48) (hb:uM c=true):jr [c]=some ((num [c]:Int):Rat):=by
 have e1:fW [c]=[c]:=by simp[fW,hb]
 have e2:jL [c]=[]:=by simp[jL,hb]
 unfold jr;rw[e1,e2,if_pos (Tu c h h0)]
theorem Ap (c:UInt8) (h:gv c) (h0:c≠48) (hb:uM c=true) (h45:c≠45):ge [c]=some ((num [c]:Int):Rat):=by
 have e3:mK [c]=[c]:=by simp[mK,h45]
 have e4:eF [c]=false:=by simp[eF,h45]
 unfold ge;rw[if_pos S_,e3,RP c h h0 hb,e4];rfl
theorem WJ:ge [50]=some ((2:Int):Rat):=Ap 50 D_ D_ D_ D_
theorem Tv:fmt 2=[50]:=by
 unfold fmt;rw[if_neg D_,if_neg D_];show []++mE 2=_;rw[eG D_];show []++(mE 0++[dg 2])=_;rw[ez];rfl
theorem VE:fmt 1=[49]:=by
 unfold fmt;rw[if_neg D_,if_neg D_];show []++mE 1=_;rw[eG D_];show []++(mE 0++[dg 1])=_;rw[ez];rfl
theorem VN:gg ((2:Int):Rat)=some [50]:=by
 unfold gg;rw[if_neg D_,lK,if_pos (by rfl),show(pw ((2:Int):Rat) 0).num=2 from rfl,Tv];rfl
end Go.Proofs.YtnchbpoopnjghaaGreatDoor
