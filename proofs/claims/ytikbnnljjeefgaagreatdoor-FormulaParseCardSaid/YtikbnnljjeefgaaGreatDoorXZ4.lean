/- Parts of a proof: contracts of the functions that the laws reach. -/
import Derived.Test.YtikbnnljjeefgaaGreatDoorXZ3
import Derived.Test.YtikbnnljjeefgaaGreatDoorXZ1
import Derived.Test.YtikbnnljjeefgaaGreatDoorXZ2
set_option maxHeartbeats 100000000
namespace Go.Proofs.YtikbnnljjeefgaaGreatDoor
open Go.RowKit
theorem mt {P:Program} {w:World} (t u ty:TypeId) (e:TypeId) (i:TypeInfo) (ht:P.underlying t=some (.slice e)) (hu:P.underlying u=some .string) (hi:P.info? e=some i) (hz:i.zero=some (.int .u8 0))
 (hsize:i.size=1) (hby:i.bytes=1)
 (v:Value) (n:Nat) (xs:List Value) (hown:w.ownsRow 0 e 1 v n xs) (s:ByteArray)
 (hm:0<s.size) (h63:n+s.size≤maxLen) (hbytes:n+s.size≤140737488355328):
 ∃g cap w',(Builtin.append_ #[t,u] ty #[v, .string s]).run P w= .ok (.slice (some ⟨g,0,none⟩) (n+s.size) cap) w' ∧
  w'.ownsRow 0 e 1 (.slice (some ⟨g,0,none⟩) (n+s.size) cap) (n+s.size) (xs++Lib.strCells s)∧w.grownBy w' v.ownBlock∧(v.ownBlock=some g∨g=w.heap.size)∧g<w'.heap.size ∧
  (v.ownBlock≠some g→ ∀b,b<w.heap.size→w'.heap[b]? =w.heap[b]?) ∧
  (∀arr,v.ownBlock=some g→w.heap[g]? =some (.cells arr e (0,0))→ ∀cur,w'.heap[g]? =some (.cells cur e (0,0))→cur.size=arr.size) ∧
  (∀(p:Value→Prop),p (.int .u8 0)→(∀u∈Lib.strCells s,p u)→(∀b,v.ownBlock=some b→ ∀arr,w.heap[b]? =some (.cells arr e (0,0))→ ∀u∈arr.toList,p u)→ ∀cur,w'.heap[g]? =some (.cells cur e (0,0))→ ∀u∈cur.toList,p u):=by
 have hsmall:n+s.size≤9223372036854775807:=by simp only[maxLen]at h63;omega
 have hxl:xs.length=n:=by simpa using hown.1
 have hsl:(Lib.strCells s).length=s.size:=Lib.strCells_length s;have hlen:(xs++Lib.strCells s).length=(n+s.size)*1:=by rw[List.length_append,hxl,hsl,Nat.mul_one]
 have pz:∀(p:Value→Prop) k,p (.int .u8 0)→ ∀u∈(Builtin.zeroCells (Value.int .u8 0).cells k).toList,p u:=by
  intro p k hp u hu;obtain⟨q,hq⟩:=List.getElem?_of_mem hu;obtain⟨hql,hqe⟩:=(List.getElem?_eq_some_iff.1 hq)
  simp only[Builtin.zeroCells]at hqe hql
  rw[← hqe];have hc:(Value.int IntKind.u8 0).cells= #[.int .u8 0]:=rfl
  simp only[Array.getElem_toList,Array.getElem_map,Array.getElem_range,hc]
  have h1:(#[Value.int IntKind.u8 0]:Array Value).size=1:=rfl;have h2:q%(#[Value.int IntKind.u8 0]:Array Value).size=0:=by rw[h1];omega
  rw[h2];exact hp
 have grown:∀(old:Nat),old<n+s.size→ ∀(row:Option Nat),
  (w.drew.alloc (.cells (xs.toArray++(Lib.strCells s).toArray++Builtin.zeroCells (Value.int .u8 0).cells (grownCap w (n+s.size) old e-(n+s.size))) e)).ownsRow 0 e 1
   (.slice (some ⟨w.heap.size,0,none⟩) (n+s.size) (grownCap w (n+s.size) old e)) (n+s.size) (xs++Lib.strCells s) ∧
  w.grownBy (w.drew.alloc (.cells (xs.toArray++(Lib.strCells s).toArray++Builtin.zeroCells (Value.int .u8 0).cells (grownCap w (n+s.size) old e-(n+s.size))) e)) row:=by
  intro old ho row;have hge:=grownCap_ge w (n+s.size) old e;have hcm:grownCap w (n+s.size) old e≤maxLen:=grownCap_le_maxLen w (n+s.size) old e h63;refine⟨⟨hlen, .inr ⟨w.heap.size,_,_,rfl,Nat.zero_le _,heap_alloc_new w.drew _,hge,hcm,?_,?_⟩⟩,⟨rfl,rfl,rfl,by simp,fun k hk _=>Below.heap_alloc w.drew _ k hk⟩⟩
  ·have hz1:(Value.int IntKind.u8 0).cells.size=1:=rfl
   simp only[Array.size_append,List.size_toArray,size_zeroCells,hz1,hxl,hsl]
   omega
  ·simp only[Array.toList_append,List.append_assoc]
   rw[← List.append_assoc,← hlen];exact List.take_left
 have fresh:∀(old:Nat) (p:Value→Prop),p (.int .u8 0)→(∀u∈Lib.strCells s,p u)→(∀u∈xs,p u)→ ∀cur,(w.drew.alloc (.cells (xs.toArray++(Lib.strCells s).toArray++Builtin.zeroCells (Value.int .u8 0).cells (grownCap w (n+s.size) old e-(n+s.size))) e)).heap[w.heap.size]? =some (.cells cur e (0,0))→ ∀u∈cur.toList,p u:=by
  intro old p h2 h3 h4 cur hc u hu;have h5:=heap_alloc_new w.drew (.cells (xs.toArray++(Lib.strCells s).toArray++Builtin.zeroCells (Value.int .u8 0).cells (grownCap w (n+s.size) old e-(n+s.size))) e);have h6:(w.drew.alloc (.cells (xs.toArray++(Lib.strCells s).toArray++Builtin.zeroCells (Value.int .u8 0).cells (grownCap w (n+s.size) old e-(n+s.size))) e)).heap[w.heap.size]? =some (.cells (xs.toArray++(Lib.strCells s).toArray++Builtin.zeroCells (Value.int .u8 0).cells (grownCap w (n+s.size) old e-(n+s.size))) e (0,0)):=h5;rw[h6]at hc
  simp only[Option.some.injEq,Obj.cells.injEq]at hc
  rw[← hc.1]at hu
  simp only[Array.toList_append,List.mem_append]at hu
  rcases hu with(hu|hu)|hu
  ·exact h4 u (by simpa using hu)
  ·exact h3 u (by simpa using hu)
  ·exact pz p _ h2 u hu
 rcases hown.2 with⟨rfl,rfl⟩| ⟨g,cap,cur,rfl,hbg,hg,hnc,hcm,hcs,htake⟩
 ·have hx:xs=[]:=List.eq_nil_of_length_eq_zero hxl
  subst hx;have hr:=run_append_nil_string (P:=P) w t u ty e i (.int .u8 0) ht hu hi hz s hm (by omega) (by rw[hby];omega);have hgr:=grown 0 (by omega) (Value.ownBlock (.slice none 0 0));have hfr:=fresh 0
  simp only[Nat.zero_add,List.nil_append,Array.empty_append]at hgr hfr ⊢
  have e1:(s.data.map fun b=>Value.int .u8 b.toNat)=(Lib.strCells s).toArray:=by
   apply Array.ext'
   simp[Lib.strCells]
  rw[e1]at hr;refine⟨_,_,_,hr,hgr.1,hgr.2,Or.inr rfl,?_,fun _ b hb=>Below.heap_alloc w.drew _ b hb,fun _ h=>by simp[Value.ownBlock]at h,fun p h2 h3 _=>hfr p h2 h3 (fun u hu=>by cases hu)⟩;show w.heap.size<(w.heap.push _).size
  simp
 ·by_cases hroom:n+s.size≤cap
  ·have hcs':cur.size=cap:=by simpa using hcs
   have hr:=Lib.run_append_room_string (P:=P) w t u ty e i ht hu hi hsize g n cap cur hg s hroom (by omega);have hset:=setRow_heap w g cur (cur.toList.take n++Lib.strCells s++cur.toList.drop (n+s.size)).toArray e (0,0) hg;refine⟨g,cap,_,hr,⟨hlen, .inr ⟨g,cap,_,rfl,hbg,hset,hroom,hcm,?_,?_⟩⟩,⟨rfl,rfl,rfl,by simp,fun k _ hk=>setRow_other w g k _ (fun e=>hk (by simp[Value.ownBlock,e]))⟩,Or.inl rfl,?_,fun h=>absurd rfl h,?_,?_⟩
   ·simp only[List.size_toArray,List.length_append,List.length_take,List.length_drop,Array.length_toList,hsl]
    omega
   ·have ht':cur.toList.take n=xs:=by simpa using htake
    rw[ht',← hlen];exact List.take_left
   ·exact(Array.getElem?_eq_some_iff.1 hset).1
   ·intro arr _ harr cur' hc
    rw[hset]at hc;rw[hg]at harr
    simp only[Option.some.injEq,Obj.cells.injEq]at hc harr
    rw[← hc.1,← harr.1]
    simp only[List.size_toArray,List.length_append,List.length_take,List.length_drop,Array.length_toList,hsl]
    omega
   ·intro p _ h3 h4 cur' hc u hu
    rw[hset]at hc
    simp only[Option.some.injEq,Obj.cells.injEq]at hc
    rw[← hc.1]at hu
    simp only[List.mem_append]at hu
    have hold:=h4 g rfl cur hg;rcases hu with(hu|hu)|hu
    ·exact hold u (List.mem_of_mem_take hu)
    ·exact h3 u hu
    ·exact hold u (List.mem_of_mem_drop hu)
  ·have holds:∀j u,xs[j]? =some u→w.cell? ((⟨g,0,none⟩:Addr).add j)=some u:=hown.cells (g:=g) rfl
   have hr:=Lib.run_append_grow_string (P:=P) w t u ty e i (.int .u8 0) ht hu hi hz ⟨g,0,none⟩ n cap xs (by rw[hsize];simpa using hxl) holds s (by omega) (by omega) (by rw[hby];exact growslice_fits (by omega) (by omega));have hgr:=grown cap (by omega) (Value.ownBlock (.slice (some ⟨g,0,none⟩) n cap));have hgl:g<w.heap.size:=(Array.getElem?_eq_some_iff.1 hg).1
   refine⟨_,_,_,hr,hgr.1,hgr.2,Or.inr rfl,?_,fun _ b hb=>Below.heap_alloc w.drew _ b hb,fun arr h=>?_,fun p h2 h3 h4=>fresh cap p h2 h3 (fun u hu=>h4 g rfl cur hg u ?_)⟩
   ·show w.heap.size<(w.heap.push _).size
    simp
   ·simp only[Value.ownBlock,Option.some.injEq]at h
    omega
   ·rw[← htake]at hu
    exact List.mem_of_mem_take hu
def oO (l:List UInt8):List AV:=l.map fun c=>AV.val (.int .u8 c.toNat)
theorem zM (l:List UInt8):(oO l).length=l.length:=by simp[oO]
theorem Fj (l m:List UInt8):oO (l++m)=oO l++oO m:=by simp[oO]
theorem rN (l:List UInt8):Lib.strCells (Bs l)=l.map fun c=>Value.int .u8 c.toNat:=by
 simp[Lib.strCells,Bs]
theorem IJ (S:Nat→Prop) (w:World) (l:List UInt8):CM S w (oO l) (Lib.strCells (Bs l)):=by
 rw[rN];refine⟨by simp[oO],fun i a v h1 h2=>?_⟩
 simp only[oO,List.getElem?_map,Option.map_eq_some_iff]at h1 h2
 obtain⟨c,h3,rfl⟩:=h1;obtain⟨c',h4,rfl⟩:=h2;rw[h3]at h4;cases h4;exact .val rfl
section
variable {P:Program} {T:TypeId→Option Ty} {n:Nat} {ops:Array Oper} {id:Nat} {draw:Bool} {K:AS→Prop} {s:AS} {k:Nat} {o:Oper} {os:List Oper} {fps:List FP}
structure Ed (P:Program) (t u e:TypeId):Prop where
 sl:P.underlying t=some (.slice e)
 str:P.underlying u=some .string
 inf:∃i,P.info? e=some i∧i.zero=some (.int .u8 0)∧i.size=1∧i.bytes=1
theorem CT (j':Nat) {d:Nat} {x y:Operand} {t u et m1 m:Nat} {dead:Option Nat} {cs cs':List AV} {l:List UInt8} (em:m1+l.length=m) (ec:cs.take (m1*1)++oO l=cs') (hbt:Ed P t u et) (hm:l≠[]) (hb:m1+l.length≤140737488355328) (h0:draw=false) (h1:gd ops s o=some true) (ho:o.op= .call ⟨.builtin .append,#[x,y],#[t,u]⟩) (hd:o.dst=some d) (h3:bn n o.dst=true)
 (hbase:jC s x m1 1 et dead cs) (hy:s.ev y= .d (.leaf (.val (vL l)))) (hnew:lq s j'=true) (hcl:qk dead=true)
 (h:aH P T n ops id draw K (k+1) os ⟨(d, .own j' m 1 et)::s.t,(j',some cs')::ml dead s.b⟩ (a6 ops o ⟨.junk,none⟩ []::fps)):aH P T n ops id draw K k (o::os) s fps:=by
 subst em ec;refine .snd h0 h1 (fun S0 w0 g a w K' Q hM hK=>?_) h;obtain⟨i,hi,hz,his,hib⟩:=hbt.inf;obtain⟨v,hxv,olds,hown,hblk,hcln,holds⟩:=qO hM hbase;have hyv:=bJ hM hy;have hsz:(Bs l).size=l.length:=au l;have hpos:0<(Bs l).size:=by rw[hsz];exact List.length_pos_iff.2 hm
 obtain⟨B,cap,w',hr,h2,h3',h4,_,h5,h6,h7⟩:=mt (P:=P) (w:=w) t u o.type et i hbt.sl hbt.str hi hz his hib v m1 olds hown (Bs l) hpos (by unfold maxLen;omega) (by omega);rw[hsz]at hr h2
 have:=pa (d:=d) hM (fh h3 d hd) hbase (xs:=oO l) (m2:=l.length) (by rw[zM];omega) (fB hnew) (oW hnew) hown hblk hcln holds (IJ _ _ l) h2 h3' h4 h5 h6 (fun hwf cur hc u' hu=>by
  refine h7 (fun u=>iO u=true) rfl (fun u hu=>?_) (fun b hb arr har u hu=>?_) cur hc u' hu
  ·rw[rN]at hu
   obtain⟨c,_,rfl⟩:=List.mem_map.1 hu;rfl
  ·obtain⟨j,hj,rfl⟩:=hblk b hb
   obtain⟨_,arr',h11,h12⟩:=hcln j hj;rw[h11]at har
   simp only[Option.some.injEq,Obj.cells.injEq]at har
   obtain⟨rfl,_⟩:=har;rw[hj]at hcl;exact h12 (by simpa[qk]using hcl) u hu)
 unfold Oper.wp execOp
 simp only[ho,resolve,invoke,builtin,Sem.run_bind,Sem.run_pure,Result.andThen_ok,List.map_toArray,List.map_cons,List.map_nil,hxv,hyv,vL,hr]
 show K' (a.put o.dst _) w';rw[hd];exact hK _ _ _ this
theorem IH (hz:(P.info? tr).bind (·.zero)=some (.agg #[.pointer none, .slice none 0 0])) {d:Nat} (h1:gd ops s o=some true) (ho:o.op= .alloc tr) (hd:o.dst=some d) (hj:am s.b 850=none) (h3:bn n o.dst=true)
 (h4:jr draw ops (a6 ops o ⟨.box 850 0,some [(850,some [.val (.pointer none), .nl])]⟩ [850]) k fps=true) (h:aH P T n ops id draw K (k+1) os (s.eff o.dst ⟨.box 850 0,some [(850,some [.val (.pointer none), .nl])]⟩) (a6 ops o ⟨.box 850 0,some [(850,some [.val (.pointer none), .nl])]⟩ [850]::fps)):aH P T n ops id draw K k (o::os) s fps:=
 .run h1 (.gen fun s2 _ hrb=>nR hd ⟨(hrb 850 (by simp)).trans hj,rfl⟩ (fun n S0 w0 g a w hM=>by
  refine⟨#[.pointer none, .slice none 0 0],tr,?_,CM.cons (.val rfl) (CM.cons .nl (CM.nil _ _)),fun _=>⟨rfl,rfl⟩⟩;unfold execOp;rw[ho]
  simp only[Instr.alloc,Sem.run_bind,mW hz w,Result.andThen_ok]
  rfl) rfl) h3 h4 h
end
theorem D9:Ed Tryz.prog 50 9 5:=⟨Tryz.underlying50,Tryz.underlying9,by
 obtain⟨i,h1,h2⟩:=Option.map_eq_some_iff.1 qQ
 simp only[Prod.mk.injEq]at h2
 exact⟨i,h1,h2.1,h2.2.1,h2.2.2⟩⟩
theorem wI:((Tryz.prog).info? tr).bind (·.zero)=some (.agg #[.pointer none, .slice none 0 0]):=by kernel_rfl
def FT:Ty:=⟨true,2,32,[.val (.pointer none), .nl],[(0,1,false),(1,1,false)],none,false,false,none⟩
theorem qK:b7 Tryz.prog 52 FT where
 size:=by kernel_rfl
 bytes:=by kernel_rfl
 und:=by
  refine⟨_,Tryz.underlying52,rfl,fun et k h=>(by cases h),fun fs h=>?_,fun h=>(by cases h),fun h=>(by cases h),fun k h=>(by cases h),fun f o k b h=>?_⟩
  ·cases h;rfl
  ·match f,h with
   |0,h=>cases h;exact⟨_,_,_,rfl,rfl,rfl,by kernel_rfl,by decide,Tryz.underlying49,rfl⟩
   |1,h=>cases h;exact⟨_,_,_,rfl,rfl,rfl,by kernel_rfl,by decide,Tryz.underlying50,rfl⟩
   |n+2,h=>simp[FT]at h
 zero:=⟨_,wI,fun S w=>CM.cons (.val rfl) (CM.cons .nl (CM.nil _ _))⟩
 zlen:=rfl
section
variable {P:Program} {T:TypeId→Option Ty} {n:Nat} {ops:Array Oper} {id:Nat} {draw:Bool} {K:AS→Prop} {s:AS} {k:Nat} {o:Oper} {os:List Oper} {fps:List FP}
theorem vz {t:TypeId} {ty:Ty} {x:Operand} {f off k0 j i:Nat} {ag:Bool} {cs:List AV} (hT:b7 P t ty) (hf:ty.flds[f]? =some (off,k0,ag)) (h1:gd ops s o=some true) (ho:o.op= .fieldAddr t x f) (hx:s.ev x= .box j i) (hj:s.bx j=some cs) (h3:bn n o.dst=true)
 (h4:jr draw ops (a6 ops o ⟨.box j (i+off),none⟩ [j]) k fps=true) (h:aH P T n ops id draw K (k+1) os (s.eff o.dst ⟨.box j (i+off),none⟩) (a6 ops o ⟨.box j (i+off),none⟩ [j]::fps)):aH P T n ops id draw K k (o::os) s fps:=
 .run h1 (.gen fun s2 ht hrb=>by
  have hx2:=(bd ht (x:=x) (by simp[ho,Op.operands])).trans hx;exact jG hT ho hf hx2 rfl (fun j' k' e=>by cases e;exact⟨cs,(gr (hrb j (by simp))).trans hj⟩)) h3 h4 h
theorem FZ {v:Value} (hv:v.oneCell'=true) (h1:gd ops s o=some true) (ho:o.op= .assign (.const v)) (h3:bn n o.dst=true) (h4:jr draw ops (a6 ops o ⟨.d (.leaf (.val v)),none⟩ []) k fps=true)
 (h:aH P T n ops id draw K (k+1) os (s.eff o.dst ⟨.d (.leaf (.val v)),none⟩) (a6 ops o ⟨.d (.leaf (.val v)),none⟩ []::fps)):aH P T n ops id draw K k (o::os) s fps:=
 .run h1 (.gen fun s2 _ _=>av (tv:= .d (.leaf (.val v))) fun n S0 w0 g a w hM=>⟨v,w,(by
  unfold execOp;rw[ho]
  rfl),Below.refl _ _,AV.M.val hv⟩) h3 h4 h
end
section
open Go.Shelf Go.RowKit
abbrev tP:BL:=[(950,[.val (.pointer none), .nl])]
abbrev gF (r:Nat) (l:List UInt8):BL:=[(950,[.bp 950 0, .ow r l.length 1 5]),(r,oO l)]
theorem zp {r:Nat} {l:List UInt8}:fi tP (gF r l):=fun j cs cs' h h'=>by
 obtain⟨rfl,rfl⟩:=cS.1 h;have h':some _=some cs':=h';cases h';exact Nat.le_refl 2
theorem eT {r r':Nat} {l l':List UInt8} (h5:(r == r')=false) (h9:(r == 950)=false) (h9':(r' == 950)=false):fi (gF r l) (gF r' l'):=fun j cs cs' h h'=>by
 rw[beq_eq_false_iff_ne]at h5 h9 h9';rw[dw]at h h'
 by_cases e:j=950
 ·subst e
  have h:some (some _)=some (some cs):=h;have h':some (some _)=some (some cs'):=h';cases h;cases h';exact Nat.le_refl 2
 ·rw[aC,aA _ _ (Ne.symm e),aC]at h h'
  by_cases e2:r=j
  ·subst e2
   rw[aA _ _ (Ne.symm h5)]at h';cases h'
  ·rw[aA _ _ e2]at h
   cases h
theorem H3 {S:Nat→Prop} {w:World} {v:Value} (h:AV.M S w .nl v):v= .slice none 0 0:=by cases h;rfl
theorem Cd {S:Nat→Prop} {g:Nat→Nat} {b:BL} {r:RT} {w:World} {v:Value} (h:F9 S g w b) (hv:TV.M (Own S g (sB b)) g (sB b) w r.tv v):uP S g b r b w (.returned v) w:=
 ⟨v,g,rfl,fun j cs cs' h1 h2=>by rw[h1]at h2;cases h2;exact⟨rfl,Nat.le_refl _⟩,fun j cs' hj=>⟨.inr ⟨j,cs',hj,rfl⟩,h.bm j cs' hj⟩,h.inj,hv,cQ.refl _ _⟩
theorem Ia {S:Nat→Prop} {g:Nat→Nat} {s:AS} {w:World}:TV.M S g s w (RT.v (.tup [])).tv (.tuple #[]):=⟨[],rfl,rfl,fun i x u h1 _=>by simp at h1⟩
theorem uL {S:Nat→Prop} {g:Nat→Nat} {b:BL} {w:World} {j:Nat} {cs:List AV} {vs:List Value} (hj:(sB b).bx j=some cs) (hv:nj S g (sB b) w [.box j 0] vs):vs=[.pointer (some ⟨g j,0,none⟩)]:=by
 match vs,hv with
 | [v],⟨h,_⟩=>rw[h.2 cs hj]
theorem E2 (r:Nat) (l:List UInt8):aw Tryz.prog 85 [.box 950 0] (gF r l) (.v (.tup [])) (gF r l):=by
 refine⟨aB Tryz.func85 rfl rfl,fun S g w vs hpre hv=>?_⟩;have hj:(sB (gF r l)).bx 950=some [.bp 950 0, .ow r l.length 1 5]:=rfl;rw[uL hj hv];obtain⟨arr,e,h1,h2,_,h4,h5⟩:=hpre.bm 950 _ hj;have hlen:=(h5 rfl).2
 have h0:w.cell? ⟨g 950,0,none⟩=some (.pointer (some ⟨g 950,0,none⟩)):=by
  rw[fH h1];have hx:arr.toList[0]? =some arr[0]:=by simp[hlen]
  have:=h4 rfl 0 (.bp 950 0) arr[0] rfl hx;rw[show arr[0]? =some arr[0] by simp[hlen],this.2 _ hj]
 refine(ki (g 950) w h0).mono ?_;rintro e w' ⟨rfl,rfl⟩;exact Cd hpre Ia
theorem zW {w:World} {B:Nat} {arr:Array Value} {e:TypeId} {v:Value} (h:w.heap[B]? =some (.cells arr e (0,0))):(w.setCell ⟨B,0,none⟩ v).heap[B]? =some (.cells (arr.setIfInBounds 0 v) e (0,0)):=by
 simp[World.setCell,Array.getElem?_modify,h]
theorem xT {w:World} {B k:Nat} {v:Value} (h:k≠B):(w.setCell ⟨B,0,none⟩ v).heap[k]? =w.heap[k]?:=by
 simp[World.setCell,Array.getElem?_modify,Ne.symm h]
theorem DN:aw Tryz.prog 85 [.box 950 0] tP (.v (.tup [])) [(950,[.bp 950 0, .nl])]:=by
 refine⟨aB Tryz.func85 rfl rfl,fun S g w vs hpre hv=>?_⟩;have hj:(sB tP).bx 950=some [.val (.pointer none), .nl]:=rfl;rw[uL hj hv];obtain⟨arr,e,h1,h2,h3,h4,h5⟩:=hpre.bm 950 _ hj;obtain⟨rfl,hlen⟩:=h5 rfl;have h20:=h2.2 0 (.val (.pointer none)) arr[0] rfl (by simp[hlen]);have h21:=h2.2 1 .nl arr[1] rfl (by simp[hlen])
 have h0:w.cell? ⟨g 950,0,none⟩=some (.pointer none):=by
  rw[fH h1,show arr[0]? =some arr[0] by simp[hlen],bM h20]
 refine(jM (g 950) w h0 (by simp[World.shape?,h1,hlen];rfl) (by simp[World.frozen?,h1])).mono ?_;rintro e w' ⟨rfl,rfl⟩;have hh:=zW (v:= .pointer (some ⟨g 950,0,none⟩)) h1;have hO:∀c c',Own S g (sB [(950,c)])=Own S g (sB [(950,c')]):=fun c c'=>by rw[ld,ld]
 refine⟨_,g,rfl,?_,?_,?_,Ia,?_⟩
 ·intro j cs cs' k1 k2
  obtain⟨rfl,rfl⟩:=cS.1 k1;obtain⟨_,rfl⟩:=cS.1 k2;exact⟨rfl,Nat.le_refl _⟩
 ·intro j cs' k2
  obtain⟨rfl,rfl⟩:=cS.1 k2;refine⟨.inr ⟨950,_,hj,rfl⟩,_,_,hh,⟨by simp[hlen],fun i a v ha hv=>?_⟩,fun _ v hv=>?_,fun _ i a v ha hv=>?_,fun _=>⟨rfl,by simp[hlen]⟩⟩
  ·match i,ha with
   |0,ha=>
    cases ha;have:v= .pointer (some ⟨g 950,0,none⟩):=by simpa[hlen]using hv.symm
    subst this;exact .bp rfl
   |1,ha=>
    cases ha;have:v=arr[1]:=by simpa[hlen]using hv.symm
    subst this;rw[H3 h21];exact .nl
  ·simp only[Array.toList_setIfInBounds]at hv
   rcases List.mem_or_eq_of_mem_set hv with h|h
   ·exact h3 rfl v h
   ·subst h;rfl
  ·match i,ha with
   |0,ha=>
    cases ha;have:v= .pointer (some ⟨g 950,0,none⟩):=by simpa[hlen]using hv.symm
    subst this;exact⟨⟨_,rfl⟩,fun _ _=>rfl⟩
   |1,ha=>cases ha;trivial
 ·intro i j ci cj k1 k2 _
  rw[(cS.1 k1).1,(cS.1 k2).1]
 ·refine⟨rfl,rfl,rfl,by simp[World.setCell],fun k hk hx=>?_,fun k hk hx a e fz ha=>?_⟩
  ·exact xT (fun h=>hx ⟨950,_,hj,h.symm⟩)
  ·rw[yI]at hx
   subst hx;rw[h1]at ha;cases ha;exact⟨_,_,hh,by simp⟩
theorem Bb (l:List UInt8) (hl:l≠[]) (hs:l.length≤100000000000000):ir Tryz.prog 57 [.box 950 0, .d (dL l)] tP (.v (.tup [dN .i64 l.length, .leaf (.val .nilIface)])) (gF 701 l):=by
 have hB:=au l;refine qI aa ac Tryz.func57 rfl rfl rfl rfl rfl zp ?_;refine kW ?_;refine kD (DN) ?_;refine kW ?_;refine vz qK rfl rfl rfl rfl rfl rfl rfl ?_;refine kW ?_;refine CT 701 (Nat.zero_add _) rfl D9 hl (by omega) rfl rfl rfl rfl rfl (.nil rfl rfl) rfl rfl rfl ?_;refine kW ?_;refine vz qK rfl rfl rfl rfl rfl rfl rfl ?_;refine kG ?_;refine kO ?_;refine fj (v':= .int .i64 ((l.length:Nat))) rfl rfl rfl rfl ?_ ?_
 ·exact congrArg (Value.int .i64) (by rw[hB])
 refine kO ?_;refine FZ rfl rfl rfl rfl rfl ?_;refine kW ?_;exact⟨⟨_,rfl,rfl⟩,⟨rfl,rfl,trivial⟩⟩
theorem As (l m:List UInt8) (hm:m≠[]) (hs:l.length+m.length≤100000000000000):ir Tryz.prog 57 [.box 950 0, .d (dL m)] (gF 700 l) (.v (.tup [dN .i64 m.length, .leaf (.val .nilIface)])) (gF 701 (l++m)):=by
 have hB:=au m;have e1:oO (l++m)=(oO l).take (l.length*1)++oO m:=by rw[Fj,Nat.mul_one,List.take_of_length_le (by rw[zM];exact Nat.le_refl _)]
 refine qI aa ac Tryz.func57 rfl rfl rfl rfl rfl (eT rfl rfl rfl) ?_;refine kW ?_;refine kD (E2 700 l) ?_;refine kW ?_;refine vz qK rfl rfl rfl rfl rfl rfl rfl ?_;refine kW ?_;refine CT 701 (List.length_append).symm e1.symm D9 hm (by omega) rfl rfl rfl rfl rfl (.own rfl rfl) rfl rfl rfl ?_;refine kW ?_;refine vz qK rfl rfl rfl rfl rfl rfl rfl ?_;refine kG ?_;refine kO ?_;refine fj (v':= .int .i64 ((m.length:Nat))) rfl rfl rfl rfl ?_ ?_
 ·exact congrArg (Value.int .i64) (by rw[hB])
 refine kO ?_;refine FZ rfl rfl rfl rfl rfl ?_;refine kW ?_;exact⟨⟨_,rfl,rfl⟩,⟨rfl,rfl,trivial⟩⟩
end
section
open Go.Shelf Go.RowKit
def lC (a:Nat):Bool:=Nat.ble 700 a && Nat.ble a 740
theorem xo {a:Nat} (h:lC a=true):700≤a∧a≤740:=by
 simp only[lC,Bool.and_eq_true]at h
 exact⟨Nat.le_of_ble_eq_true h.1,Nat.le_of_ble_eq_true h.2⟩
theorem xx {a:Nat} (h:lC a=true):dl a=false∧dX a=false∧iN a=false:=by
 have:=xo h;refine⟨?_,?_,?_⟩
 ·unfold dl
  cases hb:Nat.ble 1000000 a
  ·rfl
  ·have:=Nat.le_of_ble_eq_true hb;omega
 ·have e:a/50=14:=by omega
  unfold dX;rw[e];rfl
 ·have h1:Nat.beq (a/10) 85=false:=by
   cases hb:Nat.beq (a/10) 85
   ·rfl
   ·have:=Nat.eq_of_beq_eq_true hb;omega
  have h2:Nat.beq (a/10) 95=false:=by
   cases hb:Nat.beq (a/10) 95
   ·rfl
   ·have:=Nat.eq_of_beq_eq_true hb;omega
  unfold iN;rw[h1,h2];rfl
theorem Dt {a b:Nat} (ha:lC a=true) (hb:lC b=true):mo a b=true:=by
 obtain⟨h1,h2,h3⟩:=xx ha;obtain⟨k1,k2,k3⟩:=xx hb;rw[mo,h1,h2,h3,k1,k2,k3];rfl
theorem yr {x y:Nat} (hx:lC x=true) (hy:lC y=true):sw x y 950=950:=by
 have:=xo hx;have:=xo hy;unfold sw;rw[if_neg (by omega),if_neg (by omega)]
theorem Ja {x y r:Nat} (hx:lC x=true) (hy:lC y=true) (hr:lC r=true):lC (sw x y r)=true:=by
 unfold sw
 split
 ·exact hy
 ·split
  ·exact hx
  ·exact hr
theorem xG {x y r:Nat} (l:List UInt8) (hx:lC x=true) (hy:lC y=true) (hr:lC r=true):nP x y (gF r l)=gF (sw x y r) l:=by
 have e1:rW x y 950 [.bp 950 0, .ow r l.length 1 5]=[.bp (sw x y 950) 0, .ow (sw x y r) l.length 1 5]:=rfl;have e2:rW x y r (oO l)=oO l:=by unfold rW;rw[(xx hr).2.1]
 show [(sw x y 950,rW x y 950 _),(sw x y r,rW x y r (oO l))]=_;rw[e1,e2,yr hx hy]
theorem Gs {x y:Nat} (hx:lC x=true) (hy:lC y=true):nP x y tP=tP:=by
 have e1:rW x y 950 [.val (.pointer none), .nl]=[.val (.pointer none), .nl]:=rfl;show [(sw x y 950,rW x y 950 _)]=_;rw[e1,yr hx hy]
theorem zr {x y:Nat} (hx:lC x=true) (hy:lC y=true) (ds:List DV):(TV.box 950 0::ds.map .d).map (GE x y)= .box 950 0::ds.map .d:=by
 rw[List.map_cons,List.map_map];show TV.box (sw x y 950) 0::_=_;rw[yr hx hy]
 congr 1
section
variable {C:List TV→BL→RT→BL→Prop} (hs:∀{ts:List TV} {l:BL} {r:RT} {l':BL} (a b:Nat),mo a b=true→C ts l r l'→C (ts.map (GE a b)) (nP a b l) (HI a b r) (nP a b l'))
include hs
theorem BJ {ds:List DV} {r:RV} {l m:List UInt8} {p q:Nat} (x y:Nat) (hx:lC x=true) (hy:lC y=true) (hp:lC p=true) (hq:lC q=true) (h:C (.box 950 0::ds.map .d) (gF p l) (.v r) (gF q m)):C (.box 950 0::ds.map .d) (gF (sw x y p) l) (.v r) (gF (sw x y q) m):=by
 have:=hs x y (Dt hx hy) h;rw[zr hx hy,xG l hx hy hp,xG m hx hy hq]at this;exact this
theorem y8 {ds:List DV} {r:RV} {l m:List UInt8} (a b:Nat) (ha:lC a=true) (hb:lC b=true) (hab:(a == b)=false) (h:C (.box 950 0::ds.map .d) (gF 700 l) (.v r) (gF 701 m)):C (.box 950 0::ds.map .d) (gF a l) (.v r) (gF b m):=by
 have h1:=BJ hs 700 a rfl ha rfl rfl h;have ho:lC (sw 700 a 701)=true:=Ja rfl ha rfl;have e1:sw 700 a 700=a:=if_pos rfl
 have hne:sw 700 a 701≠a:=fun e=>by
  have:=ux (e.trans e1.symm);omega
 rw[e1]at h1;have h2:=BJ hs (sw 700 a 701) b ho hb ha ho h1;rw[beq_eq_false_iff_ne]at hab
 have e2:sw (sw 700 a 701) b a=a:=by
  unfold sw at hne ⊢;rw[if_neg (Ne.symm hne),if_neg hab]
 have e3:sw (sw 700 a 701) b (sw 700 a 701)=b:=if_pos rfl;rw[e2,e3]at h2;exact h2
theorem zG {ds:List DV} {r:RV} {m:List UInt8} (b:Nat) (hb:lC b=true) (h:C (.box 950 0::ds.map .d) tP (.v r) (gF 701 m)):C (.box 950 0::ds.map .d) tP (.v r) (gF b m):=by
 have:=hs 701 b (Dt rfl hb) h;rw[zr rfl hb,Gs rfl hb,xG m rfl hb rfl]at this;rw[show sw 701 b 701=b from if_pos rfl]at this;exact this
end
theorem JB (a b:Nat) (l m:List UInt8) (hm:m≠[]) (hs:l.length+m.length≤100000000000000) (ha:lC a=true) (hb:lC b=true) (hab:(a == b)=false):ir Tryz.prog 57 [.box 950 0, .d (dL m)] (gF a l) (.v (.tup [dN .i64 m.length, .leaf (.val .nilIface)])) (gF b (l++m)):=
 y8 (C:=ir Tryz.prog 57) (ds:=[dL m]) (fun a b h=>ir.swap a b h) a b ha hb hab (As l m hm hs)
theorem F2 (b:Nat) (m:List UInt8) (hm:m≠[]) (hs:m.length≤100000000000000) (hb:lC b=true):ir Tryz.prog 57 [.box 950 0, .d (dL m)] tP (.v (.tup [dN .i64 m.length, .leaf (.val .nilIface)])) (gF b m):=
 zG (C:=ir Tryz.prog 57) (ds:=[dL m]) (fun a b h=>ir.swap a b h) b hb (Bb m hm hs)
abbrev E4 (r:Nat) (l:List UInt8):BL:=[(850,[.bp 850 0, .ow r l.length 1 5]),(r,oO l)]
abbrev Jv:BL:=[(850,[.val (.pointer none), .nl])]
theorem Gf (l:List UInt8) (hl:l.length≤100000000000000):aw Tryz.prog 32 [.box 850 0] (E4 701 l) (.v (.one (dN .i64 l.length))) (E4 701 l):=by
 have h:aw Tryz.prog 32 [.box 950 0] [(950,[.bp 950 0, .ow 901 l.length 1 5]),(901,oO l)] (.v (.one (dN .i64 l.length))) [(950,[.bp 950 0, .ow 901 l.length 1 5]),(901,oO l)]:=by
  refine ai aa ac Tryz.func32 rfl rfl rfl rfl rfl ((fi.refl _)) ?_;refine kW ?_;refine vz qK rfl rfl rfl rfl rfl rfl rfl ?_;refine kW ?_;exact⟨⟨_,rfl,rfl⟩,⟨rfl,rfl,trivial⟩⟩
 exact((h.swap 950 850 rfl).swap 901 701 rfl)
set_option maxRecDepth 100000 in
theorem BG (l:List UInt8) (h0:l≠[]):aw Tryz.prog 33 [.box 850 0] (E4 701 l) (.v (.one (dL l))) []:=by
 refine⟨aB Tryz.func33 rfl rfl,fun S g w vs hpre hv=>?_⟩;have hj:(sB (E4 701 l)).bx 850=some [.bp 850 0, .ow 701 l.length 1 5]:=rfl;have hj2:(sB (E4 701 l)).bx 701=some (oO l):=rfl;rw[uL hj hv];obtain⟨arr,e,h1,h2,_,h4,h5⟩:=hpre.bm 850 _ hj;obtain⟨rfl,hlen⟩:=h5 rfl;have hx:arr.toList[1]? =some arr[1]:=by simp[hlen]
 have hw:TV.M (Own S g (sB (E4 701 l))) g (sB (E4 701 l)) w (.own 701 l.length 1 5) arr[1]:=h4 rfl 1 (.ow 701 l.length 1 5) arr[1] rfl hx;obtain⟨cap,e1,e2,e3,e4,cur,e5,e6⟩:=hw.2 _ hj2;obtain⟨cur',e',q1,q2,_⟩:=hpre.bm 701 _ hj2;rw[e5]at q1;cases q1;have hne:g 850≠g 701:=fun e=>by have:=hpre.inj 850 701 _ _ hj hj2 e;omega
 have hl0:l.length≠0:=by simpa using h0
 have c1:w.drew.cell? ⟨g 850,1,none⟩=some (.slice (some ⟨g 701,0,none⟩) l.length cap):=by
  have:w.drew.heap[g 850]? =some (.cells arr tr (0,0)):=h1;rw[fH this,← e1]
  simp[hlen]
 have hSD:(Builtin.unsafeSliceData_ #[50] 94 #[.slice (some ⟨g 701,0,none⟩) l.length cap]).run Tryz.prog w.drew= .ok (.pointer (some ⟨g 701,0,none⟩)) w.drew:=
  Lib.run_unsafeSliceData_row _ _ _ _ _ _ (by omega)
 have hUS:(Builtin.unsafeString_ #[94,3] 9 #[.pointer (some ⟨g 701,0,none⟩), .int .i64 l.length]).run Tryz.prog w.drew= .ok (.string ⟨l.toArray⟩) (w.drew.freeze ⟨g 701,0,none⟩ l.length):=by
  refine Lib.run_unsafeString_row w.drew 94 3 9 5 Tryz.underlying94 (by kernel_rfl) (g 701) cur.size (by have hg':w.drew.heap[g 701]? =some (.cells cur 5 (0,0)):=e5;simp[World.shape?,hg']) l h0 (by omega) (by omega) ?_;intro j x hx;have hjl:=(List.getElem?_eq_some_iff.1 hx).1;have hg':w.drew.heap[g 701]? =some (.cells cur 5 (0,0)):=e5;have hcell:(oO l)[j]? =some (.val (.int .u8 x.toNat)):=by simp[oO,hx]
  have hcl:j<cur.size:=by omega
  have:=bM (q2.2 j (.val (.int .u8 x.toNat)) cur[j] hcell (by simp[hcl]));rw[fN,fH hg',Nat.zero_add,show cur[j]? =some cur[j] by simp[hcl],this]
 have hfr:cQ (BX g (E4 701 l)) w (w.drew.freeze ⟨g 701,0,none⟩ l.length):=by
  unfold World.freeze;rw[if_neg hl0];refine⟨rfl,rfl,rfl,by show w.heap.size≤(w.heap.modify _ _).size;rw[Array.size_modify];exact Nat.le_refl _,fun k hk hx=>?_,fun k hk hx a e fz ha=>?_⟩
  ·have hkne:g 701≠k:=fun h=>hx ⟨701,_,hj2,h⟩
   show(w.heap.modify (g 701) _)[k]? =_;rw[Array.getElem?_modify,if_neg hkne]
  ·show ∃arr' fz',(w.heap.modify (g 701) _)[k]? =_∧_
   rw[Array.getElem?_modify]
   by_cases hk1:g 701=k
   ·rw[if_pos hk1,ha]
    obtain⟨lo,hi⟩:=fz;exact⟨a,_,rfl,rfl⟩
   ·rw[if_neg hk1,ha]
    exact⟨a,fz,rfl,rfl⟩
 have hmx:=ac
 go_enter Tryz.func33,Tryz.ntmps33
 go_wp2
 go_region_o
 all_goals(go_wp2;go_ret;exact⟨_,g,rfl,fun j cs cs' _ h=>(by cases h),fun j cs h=>(by cases h),fun i j ci cj h=>(by cases h),AV.M.val rfl,hfr⟩)
end
section
variable {P:Program} {T:TypeId→Option Ty} {n:Nat} {ops:Array Oper} {id:Nat} {draw:Bool} {K:AS→Prop} {s:AS} {k:Nat} {o:Oper} {os:List Oper} {fps:List FP}
theorem cG {t e:TypeId} {x y:Operand} {m i:Nat} {ik:IntKind} {cs:List AV} (hu:P.underlying t=some (.array m e)) (hs:(P.info? e).map (·.size)=some 1) (hi:i<m) (h1:gd ops s o=some true) (ho:o.op= .indexAddr t x y) (hx:s.ev x= .rp cs) (hy:s.ev y= .d (.leaf (.val (.int ik (i:Nat)))))
 (h3:bn n o.dst=true) (h4:jr draw ops (a6 ops o ⟨.rp (cs.drop i),none⟩ []) k fps=true) (h:aH P T n ops id draw K (k+1) os (s.eff o.dst ⟨.rp (cs.drop i),none⟩) (a6 ops o ⟨.rp (cs.drop i),none⟩ []::fps)):aH P T n ops id draw K k (o::os) s fps:=
 .run h1 (.gen fun s2 ht _=>av (tv:= .rp (cs.drop i)) fun n S0 w0 g a w hM=>by
  have hx2:=(bd ht (x:=x) (by simp[ho,Op.operands])).trans hx;have hy2:=(bd ht (x:=y) (by simp[ho,Op.operands])).trans hy;have h:=hM.ev x;rw[hx2]at h;obtain⟨b,off,f,e1,h1,h2,h3,h4⟩:=h;refine⟨.pointer (some ⟨b,off+i,none⟩),w,?_,Below.refl _ _,b,off+i,fun q=>f (i+q),rfl,h1,h2,fun q c hq=>?_,fun q c hq=>?_⟩
  ·unfold execOp
   rw[ho]
   simp only[e1,bJ hM hy2,Instr.indexAt,Instr.sureAddr,asIntOf,Sem.run_bind,Sem.run_pure,run_underlying hu w,Result.andThen_ok]
   have e2:(0:Int)≤i∧(i:Int)<m:=by omega
   simp only[e2,and_self,if_true,Sem.run_bind,eK hs w,Result.andThen_ok,Sem.run_pure,fN,Int.toNat_natCast,Nat.mul_one]
  ·rw[Nat.add_assoc];exact h3 (i+q) c (by simpa using hq)
  ·exact h4 (i+q) c (by simpa using hq)) h3 h4 h
end
theorem bR (e:Ex):ab Tryz.prog 56 [dE e] (.one (dN .i64 (yy e))):=by
 cases e with
 |num v u=>
  show ab Tryz.prog _ [.agg ([.val (.int .i64 1)]++aQ v++[.val (vL u), .sl 0 []])] _;refine kU aa ac Tryz.func56 ?_;exact kF
 |nam s=>
  show ab Tryz.prog _ [.agg ([.val (.int .i64 2)]++kK++[.val (vL s), .sl 0 []])] _;refine kU aa ac Tryz.func56 ?_;exact kF
 |neg a=>
  rw[show dE (.neg a)= .agg ([.val (.int .i64 3)]++kK++[.val (vL []), .sl 1 (aE a)]) from congrArg DV.agg (nd a)];refine kU aa ac Tryz.func56 ?_;exact kF
 |bin k a b=>
  rw[show dE (.bin k a b)= .agg ([.val (.int .i64 k.code)]++kK++[.val (vL []), .sl 2 (aE a++aE b)]) from congrArg DV.agg (fL k a b)];cases k
  all_goals
   refine kU aa ac Tryz.func56 ?_;exact kF
theorem rn (lv:Nat) (t:List UInt8):jq lv 0 t=t:=if_neg (Nat.not_lt_zero lv)
theorem ER {k:Nat} {s:List UInt8} (h:s≠[]):iM k s≠[]:=by
 intro e;unfold iM at e
 split at e
 ·simp at e
 ·unfold dT at e
  exact h (List.append_eq_nil_iff.1 e).2
theorem xf {q:Rat} {d:List UInt8}:∀(n k:Nat),jH q n k=some d→d≠[]
 |0,_,h=>by cases h
 |n+1,k,h=>by
  rw[jH]at h
  split at h
  ·split at h
   ·cases h;exact ER (List.length_pos_iff.1 (B6 _))
   ·cases h
  ·exact xf n (k+1) h
theorem uy {q:Rat} {d:List UInt8} (h:fe q=some d):d≠[]:=by
 unfold fe at h
 split at h
 ·cases h
 ·exact xf _ _ h
theorem ej {r:Nat} {l:List UInt8}:fi tP (gF r l):=zp
structure pQ (e:Ex) (least:Nat):Prop where
 w0:(aj e least).length≤1000000000→aw Tryz.prog 31 [.box 950 0, .d (dE e), .d (dN .i64 least)] tP (.v (.tup [])) (gF 701 (aj e least))
 w1:∀l:List UInt8,l.length+(aj e least).length≤1000000000→aw Tryz.prog 31 [.box 950 0, .d (dE e), .d (dN .i64 least)] (gF 700 l) (.v (.tup [])) (gF 701 (l++aj e least))
theorem pQ.n0 {e:Ex} {least:Nat} (h:pQ e least) (b:Nat) (hl:(aj e least).length≤1000000000) (hb:lC b=true):aw Tryz.prog 31 [.box 950 0, .d (dE e), .d (dN .i64 least)] tP (.v (.tup [])) (gF b (aj e least)):=
 zG (C:=aw Tryz.prog 31) (ds:=[dE e,dN .i64 least]) (fun a b h=>aw.swap a b h) b hb (h.w0 hl)
theorem pQ.n1 {e:Ex} {least:Nat} (h:pQ e least) (a b:Nat) (l:List UInt8) (hl:l.length+(aj e least).length≤1000000000) (ha:lC a=true) (hb:lC b=true) (hab:(a == b)=false):aw Tryz.prog 31 [.box 950 0, .d (dE e), .d (dN .i64 least)] (gF a l) (.v (.tup [])) (gF b (l++aj e least)):=
 y8 (C:=aw Tryz.prog 31) (ds:=[dE e,dN .i64 least]) (fun a b h=>aw.swap a b h) a b ha hb hab (h.w1 l hl)
theorem EW {v:Rat} {u:List UInt8} {least:Nat} (h4:least≤3) (hf:jT (.num v u)) (hl:(aj (.num v u) least).length≤1000000000):aw Tryz.prog 31 [.box 950 0, .d (dE (.num v u)), .d (dN .i64 least)] tP (.v (.tup [])) (gF 701 (aj (.num v u) least)):=by
 obtain⟨h1,h2,h3⟩:=hf;obtain⟨t,c,ht⟩:=kH h2 (by decide);obtain⟨d,hd⟩:=Option.isSome_iff_exists.1 h1;rw[ht d hd,h1]at c;have hd0:d≠[]:=uy hd;have cl:=bR (.num v u)
 have e0:aj (.num v u) least=d++iy u:=by
  rw[og,jq,if_neg (by show ¬4<least;omega)];show jq 4 0 (Bc v++iy u)=_;rw[rn,Bc,hd];rfl
 rw[e0]at hl ⊢;have hdn:dE (.num v u)= .agg ([.val (.int .i64 1)]++aQ v++[.val (vL u), .sl 0 []]):=rfl;rw[hdn]at cl ⊢
 by_cases hu:u=[]
 ·subst hu
  rw[show iy []=[] from rfl,List.append_nil]at hl ⊢;refine aY aa ac Tryz.func31 rfl rfl rfl rfl rfl rfl ej ?_;refine kR ?_;refine kI ?_;refine kO ?_;refine kC (cl) ?_;refine kO ?_;refine kB false ?_ ?_
  ·exact decide_eq_false (by show ¬((4:Nat):Int)<_;omega)
  refine kW ?_;refine kQ (c) ?_;refine DY ((F2 701 (d) hd0 (by omega) rfl).toT) rfl rfl rfl rfl rfl ⟨rfl,trivial⟩ rfl rfl rfl rfl ?_;refine kG ?_
  iterate 2 refine kO ?_
  refine aO rfl rfl rfl rfl rfl rfl rfl (gk (a:=[]) (b:=[]) rfl) ?_;refine kW ?_;exact .inl ⟨⟨_,rfl,rfl⟩,⟨rfl,rfl,trivial⟩⟩
 ·have hu2:iy u=[32]++u:=if_neg hu
  rw[hu2]at hl ⊢
  simp only[List.length_append,List.length_cons,List.length_nil]at hl
  rw[show(d++([32]++u))=(d)++([32]++u) by simp];refine aY aa ac Tryz.func31 rfl rfl rfl rfl rfl rfl ej ?_;refine kR ?_;refine kI ?_;refine kO ?_;refine kC (cl) ?_;refine kO ?_;refine kB false ?_ ?_
  ·exact decide_eq_false (by show ¬((4:Nat):Int)<_;omega)
  refine kW ?_;refine kQ (c) ?_;refine DY ((F2 702 (d) hd0 (by omega) rfl).toT) rfl rfl rfl rfl rfl ⟨rfl,trivial⟩ rfl rfl rfl rfl ?_;refine kG ?_
  iterate 2 refine kO ?_
  refine aO rfl rfl rfl rfl rfl rfl rfl (ee (a:=u) (b:=[]) hu) ?_;refine kG ?_
  iterate 3 refine kO ?_
  refine aO rfl rfl rfl rfl rfl rfl rfl (ek (a:=[32]) (b:=u) (by simp <;>omega)) ?_;refine DY ((JB 702 701 (d) ([32]++u) (by simp) (by simp <;>omega) rfl rfl rfl).toT) rfl rfl rfl rfl rfl ⟨rfl,rfl,trivial⟩ rfl rfl rfl rfl ?_;refine kW ?_;exact .inl ⟨⟨_,rfl,rfl⟩,⟨rfl,rfl,trivial⟩⟩
theorem FD {s:List UInt8} {least:Nat} (h4:least≤3) (hf:jT (.nam s)) (hl:(aj (.nam s) least).length≤1000000000):aw Tryz.prog 31 [.box 950 0, .d (dE (.nam s)), .d (dN .i64 least)] tP (.v (.tup [])) (gF 701 (aj (.nam s) least)):=by
 have hs0:s≠[]:=fun e=>by subst e;cases hf
 have cl:=bR (.nam s)
 have e0:aj (.nam s) least=s:=by
  rw[og,jq,if_neg (by show ¬4<least;omega)];exact rn _ _
 rw[e0]at hl ⊢;have hdn:dE (.nam s)= .agg ([.val (.int .i64 2)]++kK++[.val (vL s), .sl 0 []]):=rfl;rw[hdn]at cl ⊢;refine aY aa ac Tryz.func31 rfl rfl rfl rfl rfl rfl ej ?_;refine kR ?_;refine kI ?_;refine kO ?_;refine kC (cl) ?_;refine kO ?_;refine kB false ?_ ?_
 ·exact decide_eq_false (by show ¬((4:Nat):Int)<_;omega)
 refine kW ?_;refine DY ((F2 701 (s) hs0 (by omega) rfl).toT) rfl rfl rfl rfl rfl ⟨rfl,trivial⟩ rfl rfl rfl rfl ?_;refine kW ?_;exact .inl ⟨⟨_,rfl,rfl⟩,⟨rfl,rfl,trivial⟩⟩
theorem Fs {a:Ex} {least:Nat} (h4:least≤3) (ih:pQ a 3) (hl:(aj (.neg a) least).length≤1000000000):aw Tryz.prog 31 [.box 950 0, .d (dE (.neg a)), .d (dN .i64 least)] tP (.v (.tup [])) (gF 701 (aj (.neg a) least)):=by
 have cl:=bR (.neg a)
 have e0:aj (.neg a) least=[45]++aj a 3:=by
  rw[og,jq,if_neg (by show ¬3<least;omega)];exact rn _ _
 rw[e0]at hl ⊢
 simp only[List.length_append,List.length_cons,List.length_nil]at hl
 obtain⟨o1,na1,xs1,nb1,ys1,nm1,n1,cs1,hA⟩:=ar a;have hdn:dE (.neg a)= .agg ([.val (.int .i64 3)]++kK++[.val (vL []), .sl 1 (ae o1 na1 xs1 nb1 ys1 nm1 n1 cs1)]):=by rw[← hA];exact congrArg DV.agg (nd a)
 rw[hdn]at cl ⊢;have cw:=ih.n1 702 701 ([45]) (by simp <;>omega) rfl rfl rfl;rw[show dE a= .agg (ae o1 na1 xs1 nb1 ys1 nm1 n1 cs1) from congrArg DV.agg hA]at cw;rw[show([45]++aj a 3)=([45])++aj a 3 by simp];refine aY aa ac Tryz.func31 rfl rfl rfl rfl rfl rfl ej ?_;refine kR ?_;refine kI ?_;refine kO ?_;refine kC (cl) ?_;refine kO ?_;refine kB false ?_ ?_
 ·exact decide_eq_false (by show ¬((3:Nat):Int)<_;omega)
 refine kW ?_;refine cG (i:=3) Tryz.underlying93 (by kernel_rfl) (by decide) rfl rfl rfl rfl rfl rfl ?_;refine kW ?_;refine DY ((F2 702 ([45]) (by simp) (by simp <;>omega) rfl).toT) rfl rfl rfl rfl rfl ⟨rfl,trivial⟩ rfl rfl rfl rfl ?_;refine kW ?_;refine bf (i:=0) (cs':=ae o1 na1 xs1 nb1 ys1 nm1 n1 cs1) (by decide) (zR _) (Nat.zero_lt_succ 6) rfl rfl rfl rfl rfl rfl rfl rfl ?_;refine kW ?_;refine kC (cl) ?_;refine kD (cw) ?_;refine kW ?_;exact .inl ⟨⟨_,rfl,rfl⟩,⟨rfl,rfl,trivial⟩⟩
theorem uS {a b:Ex} {least:Nat} (iha:pQ a 1) (ihb:pQ b (1+1)) (hl:(aj (.bin .add a b) least).length≤1000000000):aw Tryz.prog 31 [.box 950 0, .d (dE (.bin .add a b)), .d (dN .i64 least)] tP (.v (.tup [])) (gF 701 (aj (.bin .add a b) least)):=by
 have cl:ab Tryz.prog 56 [dE (.bin .add a b)] (.one (dN .i64 ((1:Nat):Int))):=bR (.bin .add a b);obtain⟨o1,na1,xs1,nb1,ys1,nm1,n1,cs1,hA⟩:=ar a;obtain⟨o2,na2,xs2,nb2,ys2,nm2,n2,cs2,hA2⟩:=ar b;have hdn:dE (.bin .add a b)= .agg ([.val (.int .i64 4)]++kK++[.val (vL []), .sl 2 (ae o1 na1 xs1 nb1 ys1 nm1 n1 cs1++ae o2 na2 xs2 nb2 ys2 nm2 n2 cs2)]):=by rw[← hA,← hA2];exact congrArg DV.agg (fL .add a b)
 have hsy:(bP .add).length=3:=rfl;have hEa:dE a= .agg (ae o1 na1 xs1 nb1 ys1 nm1 n1 cs1):=congrArg DV.agg hA;have hEb:dE b= .agg (ae o2 na2 xs2 nb2 ys2 nm2 n2 cs2):=congrArg DV.agg hA2
 by_cases hlt:1<least
 ·have e0:aj (.bin .add a b) least=[40]++(aj a 1++bP .add++aj b (1+1))++[41]:=if_pos hlt
  rw[e0]at hl ⊢
  simp only[List.length_append,List.length_cons,List.length_nil,hsy]at hl
  have ca:=iha.n1 704 702 ([40]) (by simp <;>omega) rfl rfl rfl;have cb:=ihb.n1 703 705 ([40]++aj a 1++bP .add) (by simp only[List.length_append,List.length_cons,List.length_nil,hsy];omega) rfl rfl rfl;have hfin:=JB 705 701 ([40]++aj a 1++bP .add++aj b (1+1)) [41] (by simp) (by simp only[List.length_append,List.length_cons,List.length_nil,hsy];omega) rfl rfl rfl;have cy:=(JB 702 703 ([40]++aj a 1) (bP .add) (by simp[bP]) (by simp only[List.length_append,List.length_cons,List.length_nil,hsy];omega) rfl rfl rfl).toT;rw[hdn]at cl ⊢;rw[hEa]at ca;rw[hEb]at cb;rw[show([40]++(aj a 1++bP .add++aj b (1+1))++[41])=[40]++aj a 1++bP .add++aj b (1+1)++[41] by simp];generalize aj a 1=ta at *;generalize aj b (1+1)=tb at *;refine aY aa ac Tryz.func31 rfl rfl rfl rfl rfl rfl ej ?_
  refine kR ?_;refine kI ?_;refine kO ?_;refine kC (cl) ?_;refine kO ?_;refine kX ?_;refine DY ((F2 704 ([40]) (by simp) (by simp <;>omega) rfl).toT) rfl rfl rfl rfl rfl ⟨rfl,trivial⟩ rfl rfl rfl rfl ?_;refine kW ?_;refine iG rfl rfl rfl rfl rfl rfl rfl ?_;refine kW ?_;refine bf (i:=0) (cs':=ae o1 na1 xs1 nb1 ys1 nm1 n1 cs1) (by decide) (dy _ _) (Nat.zero_lt_succ 6) rfl rfl rfl rfl rfl rfl rfl rfl ?_;refine kW ?_;refine kC (cl) ?_;refine kD (ca) ?_;refine kW ?_;refine cG (i:=4) Tryz.underlying93 (by kernel_rfl) (by decide) rfl rfl rfl rfl rfl rfl ?_;refine kW ?_;refine kD (cy) ?_;refine kW ?_;refine bf (i:=1) (cs':=ae o2 na2 xs2 nb2 ys2 nm2 n2 cs2) (by decide) (de _ rfl) (Nat.zero_lt_succ 6) rfl rfl rfl rfl rfl rfl rfl rfl ?_;refine kW ?_;refine kQ (cl) ?_;refine kD (cb) ?_;refine kW ?_
  exact .inr ⟨_,_,_,_,_,{ dk:=rfl,one:=rfl,body:=hfin,kn:=rfl,bx:=⟨rfl,rfl,trivial⟩,cl:=rfl,new:=rfl,fin:=⟨rfl,rfl,trivial⟩ }⟩
 ·have e0:aj (.bin .add a b) least=aj a 1++bP .add++aj b (1+1):=if_neg hlt
  rw[e0]at hl ⊢
  simp only[List.length_append,hsy]at hl
  have ca:=iha.n0 702 (by omega) rfl;have cb:=ihb.n1 703 701 (aj a 1++bP .add) (by simp only[List.length_append,List.length_cons,List.length_nil,hsy];omega) rfl rfl rfl;have cy:=(JB 702 703 (aj a 1) (bP .add) (by simp[bP]) (by simp only[List.length_append,List.length_cons,List.length_nil,hsy];omega) rfl rfl rfl).toT;rw[hdn]at cl ⊢;rw[hEa]at ca;rw[hEb]at cb;rw[show(aj a 1++bP .add++aj b (1+1))=aj a 1++bP .add++aj b (1+1) by simp];generalize aj a 1=ta at *;generalize aj b (1+1)=tb at *;refine aY aa ac Tryz.func31 rfl rfl rfl rfl rfl rfl ej ?_;refine kR ?_;refine kI ?_;refine kO ?_;refine kC (cl) ?_;refine kO ?_;refine kY ?_;refine bf (i:=0) (cs':=ae o1 na1 xs1 nb1 ys1 nm1 n1 cs1) (by decide) (dy _ _) (Nat.zero_lt_succ 6) rfl rfl rfl rfl rfl rfl rfl rfl ?_;refine kW ?_
  refine kC (cl) ?_;refine kD (ca) ?_;refine kW ?_;refine cG (i:=4) Tryz.underlying93 (by kernel_rfl) (by decide) rfl rfl rfl rfl rfl rfl ?_;refine kW ?_;refine kD (cy) ?_;refine kW ?_;refine bf (i:=1) (cs':=ae o2 na2 xs2 nb2 ys2 nm2 n2 cs2) (by decide) (de _ rfl) (Nat.zero_lt_succ 6) rfl rfl rfl rfl rfl rfl rfl rfl ?_;refine kW ?_;refine kQ (cl) ?_;refine kD (cb) ?_;refine kW ?_;exact .inl ⟨⟨_,rfl,rfl⟩,⟨rfl,rfl,trivial⟩⟩
theorem vg {a b:Ex} {least:Nat} (iha:pQ a 1) (ihb:pQ b (1+1)) (hl:(aj (.bin .sub a b) least).length≤1000000000):aw Tryz.prog 31 [.box 950 0, .d (dE (.bin .sub a b)), .d (dN .i64 least)] tP (.v (.tup [])) (gF 701 (aj (.bin .sub a b) least)):=by
 have cl:ab Tryz.prog 56 [dE (.bin .sub a b)] (.one (dN .i64 ((1:Nat):Int))):=bR (.bin .sub a b);obtain⟨o1,na1,xs1,nb1,ys1,nm1,n1,cs1,hA⟩:=ar a;obtain⟨o2,na2,xs2,nb2,ys2,nm2,n2,cs2,hA2⟩:=ar b;have hdn:dE (.bin .sub a b)= .agg ([.val (.int .i64 5)]++kK++[.val (vL []), .sl 2 (ae o1 na1 xs1 nb1 ys1 nm1 n1 cs1++ae o2 na2 xs2 nb2 ys2 nm2 n2 cs2)]):=by rw[← hA,← hA2];exact congrArg DV.agg (fL .sub a b)
 have hsy:(bP .sub).length=3:=rfl;have hEa:dE a= .agg (ae o1 na1 xs1 nb1 ys1 nm1 n1 cs1):=congrArg DV.agg hA;have hEb:dE b= .agg (ae o2 na2 xs2 nb2 ys2 nm2 n2 cs2):=congrArg DV.agg hA2
 by_cases hlt:1<least
 ·have e0:aj (.bin .sub a b) least=[40]++(aj a 1++bP .sub++aj b (1+1))++[41]:=if_pos hlt
  rw[e0]at hl ⊢
  simp only[List.length_append,List.length_cons,List.length_nil,hsy]at hl
  have ca:=iha.n1 704 702 ([40]) (by simp <;>omega) rfl rfl rfl;have cb:=ihb.n1 703 705 ([40]++aj a 1++bP .sub) (by simp only[List.length_append,List.length_cons,List.length_nil,hsy];omega) rfl rfl rfl;have hfin:=JB 705 701 ([40]++aj a 1++bP .sub++aj b (1+1)) [41] (by simp) (by simp only[List.length_append,List.length_cons,List.length_nil,hsy];omega) rfl rfl rfl;have cy:=(JB 702 703 ([40]++aj a 1) (bP .sub) (by simp[bP]) (by simp only[List.length_append,List.length_cons,List.length_nil,hsy];omega) rfl rfl rfl).toT;rw[hdn]at cl ⊢;rw[hEa]at ca;rw[hEb]at cb;rw[show([40]++(aj a 1++bP .sub++aj b (1+1))++[41])=[40]++aj a 1++bP .sub++aj b (1+1)++[41] by simp];generalize aj a 1=ta at *;generalize aj b (1+1)=tb at *;refine aY aa ac Tryz.func31 rfl rfl rfl rfl rfl rfl ej ?_
  refine kR ?_;refine kI ?_;refine kO ?_;refine kC (cl) ?_;refine kO ?_;refine kX ?_;refine DY ((F2 704 ([40]) (by simp) (by simp <;>omega) rfl).toT) rfl rfl rfl rfl rfl ⟨rfl,trivial⟩ rfl rfl rfl rfl ?_;refine kW ?_;refine iG rfl rfl rfl rfl rfl rfl rfl ?_;refine kW ?_;refine bf (i:=0) (cs':=ae o1 na1 xs1 nb1 ys1 nm1 n1 cs1) (by decide) (dy _ _) (Nat.zero_lt_succ 6) rfl rfl rfl rfl rfl rfl rfl rfl ?_;refine kW ?_;refine kC (cl) ?_;refine kD (ca) ?_;refine kW ?_;refine cG (i:=5) Tryz.underlying93 (by kernel_rfl) (by decide) rfl rfl rfl rfl rfl rfl ?_;refine kW ?_;refine kD (cy) ?_;refine kW ?_;refine bf (i:=1) (cs':=ae o2 na2 xs2 nb2 ys2 nm2 n2 cs2) (by decide) (de _ rfl) (Nat.zero_lt_succ 6) rfl rfl rfl rfl rfl rfl rfl rfl ?_;refine kW ?_;refine kQ (cl) ?_;refine kD (cb) ?_;refine kW ?_
  exact .inr ⟨_,_,_,_,_,{ dk:=rfl,one:=rfl,body:=hfin,kn:=rfl,bx:=⟨rfl,rfl,trivial⟩,cl:=rfl,new:=rfl,fin:=⟨rfl,rfl,trivial⟩ }⟩
 ·have e0:aj (.bin .sub a b) least=aj a 1++bP .sub++aj b (1+1):=if_neg hlt
  rw[e0]at hl ⊢
  simp only[List.length_append,hsy]at hl
  have ca:=iha.n0 702 (by omega) rfl;have cb:=ihb.n1 703 701 (aj a 1++bP .sub) (by simp only[List.length_append,List.length_cons,List.length_nil,hsy];omega) rfl rfl rfl;have cy:=(JB 702 703 (aj a 1) (bP .sub) (by simp[bP]) (by simp only[List.length_append,List.length_cons,List.length_nil,hsy];omega) rfl rfl rfl).toT;rw[hdn]at cl ⊢;rw[hEa]at ca;rw[hEb]at cb;rw[show(aj a 1++bP .sub++aj b (1+1))=aj a 1++bP .sub++aj b (1+1) by simp];generalize aj a 1=ta at *;generalize aj b (1+1)=tb at *;refine aY aa ac Tryz.func31 rfl rfl rfl rfl rfl rfl ej ?_;refine kR ?_;refine kI ?_;refine kO ?_;refine kC (cl) ?_;refine kO ?_;refine kY ?_;refine bf (i:=0) (cs':=ae o1 na1 xs1 nb1 ys1 nm1 n1 cs1) (by decide) (dy _ _) (Nat.zero_lt_succ 6) rfl rfl rfl rfl rfl rfl rfl rfl ?_;refine kW ?_
  refine kC (cl) ?_;refine kD (ca) ?_;refine kW ?_;refine cG (i:=5) Tryz.underlying93 (by kernel_rfl) (by decide) rfl rfl rfl rfl rfl rfl ?_;refine kW ?_;refine kD (cy) ?_;refine kW ?_;refine bf (i:=1) (cs':=ae o2 na2 xs2 nb2 ys2 nm2 n2 cs2) (by decide) (de _ rfl) (Nat.zero_lt_succ 6) rfl rfl rfl rfl rfl rfl rfl rfl ?_;refine kW ?_;refine kQ (cl) ?_;refine kD (cb) ?_;refine kW ?_;exact .inl ⟨⟨_,rfl,rfl⟩,⟨rfl,rfl,trivial⟩⟩
theorem wQ {a b:Ex} {least:Nat} (iha:pQ a 2) (ihb:pQ b (2+1)) (hl:(aj (.bin .mul a b) least).length≤1000000000):aw Tryz.prog 31 [.box 950 0, .d (dE (.bin .mul a b)), .d (dN .i64 least)] tP (.v (.tup [])) (gF 701 (aj (.bin .mul a b) least)):=by
 have cl:ab Tryz.prog 56 [dE (.bin .mul a b)] (.one (dN .i64 ((2:Nat):Int))):=bR (.bin .mul a b);obtain⟨o1,na1,xs1,nb1,ys1,nm1,n1,cs1,hA⟩:=ar a;obtain⟨o2,na2,xs2,nb2,ys2,nm2,n2,cs2,hA2⟩:=ar b;have hdn:dE (.bin .mul a b)= .agg ([.val (.int .i64 6)]++kK++[.val (vL []), .sl 2 (ae o1 na1 xs1 nb1 ys1 nm1 n1 cs1++ae o2 na2 xs2 nb2 ys2 nm2 n2 cs2)]):=by rw[← hA,← hA2];exact congrArg DV.agg (fL .mul a b)
 have hsy:(bP .mul).length=3:=rfl;have hEa:dE a= .agg (ae o1 na1 xs1 nb1 ys1 nm1 n1 cs1):=congrArg DV.agg hA;have hEb:dE b= .agg (ae o2 na2 xs2 nb2 ys2 nm2 n2 cs2):=congrArg DV.agg hA2
 by_cases hlt:2<least
 ·have e0:aj (.bin .mul a b) least=[40]++(aj a 2++bP .mul++aj b (2+1))++[41]:=if_pos hlt
  rw[e0]at hl ⊢
  simp only[List.length_append,List.length_cons,List.length_nil,hsy]at hl
  have ca:=iha.n1 704 702 ([40]) (by simp <;>omega) rfl rfl rfl;have cb:=ihb.n1 703 705 ([40]++aj a 2++bP .mul) (by simp only[List.length_append,List.length_cons,List.length_nil,hsy];omega) rfl rfl rfl;have hfin:=JB 705 701 ([40]++aj a 2++bP .mul++aj b (2+1)) [41] (by simp) (by simp only[List.length_append,List.length_cons,List.length_nil,hsy];omega) rfl rfl rfl;have cy:=(JB 702 703 ([40]++aj a 2) (bP .mul) (by simp[bP]) (by simp only[List.length_append,List.length_cons,List.length_nil,hsy];omega) rfl rfl rfl).toT;rw[hdn]at cl ⊢;rw[hEa]at ca;rw[hEb]at cb;rw[show([40]++(aj a 2++bP .mul++aj b (2+1))++[41])=[40]++aj a 2++bP .mul++aj b (2+1)++[41] by simp];generalize aj a 2=ta at *;generalize aj b (2+1)=tb at *;refine aY aa ac Tryz.func31 rfl rfl rfl rfl rfl rfl ej ?_
  refine kR ?_;refine kI ?_;refine kO ?_;refine kC (cl) ?_;refine kO ?_;refine kX ?_;refine DY ((F2 704 ([40]) (by simp) (by simp <;>omega) rfl).toT) rfl rfl rfl rfl rfl ⟨rfl,trivial⟩ rfl rfl rfl rfl ?_;refine kW ?_;refine iG rfl rfl rfl rfl rfl rfl rfl ?_;refine kW ?_;refine bf (i:=0) (cs':=ae o1 na1 xs1 nb1 ys1 nm1 n1 cs1) (by decide) (dy _ _) (Nat.zero_lt_succ 6) rfl rfl rfl rfl rfl rfl rfl rfl ?_;refine kW ?_;refine kC (cl) ?_;refine kD (ca) ?_;refine kW ?_;refine cG (i:=6) Tryz.underlying93 (by kernel_rfl) (by decide) rfl rfl rfl rfl rfl rfl ?_;refine kW ?_;refine kD (cy) ?_;refine kW ?_;refine bf (i:=1) (cs':=ae o2 na2 xs2 nb2 ys2 nm2 n2 cs2) (by decide) (de _ rfl) (Nat.zero_lt_succ 6) rfl rfl rfl rfl rfl rfl rfl rfl ?_;refine kW ?_;refine kQ (cl) ?_;refine kD (cb) ?_;refine kW ?_
  exact .inr ⟨_,_,_,_,_,{ dk:=rfl,one:=rfl,body:=hfin,kn:=rfl,bx:=⟨rfl,rfl,trivial⟩,cl:=rfl,new:=rfl,fin:=⟨rfl,rfl,trivial⟩ }⟩
 ·have e0:aj (.bin .mul a b) least=aj a 2++bP .mul++aj b (2+1):=if_neg hlt
  rw[e0]at hl ⊢
  simp only[List.length_append,hsy]at hl
  have ca:=iha.n0 702 (by omega) rfl;have cb:=ihb.n1 703 701 (aj a 2++bP .mul) (by simp only[List.length_append,List.length_cons,List.length_nil,hsy];omega) rfl rfl rfl;have cy:=(JB 702 703 (aj a 2) (bP .mul) (by simp[bP]) (by simp only[List.length_append,List.length_cons,List.length_nil,hsy];omega) rfl rfl rfl).toT;rw[hdn]at cl ⊢;rw[hEa]at ca;rw[hEb]at cb;rw[show(aj a 2++bP .mul++aj b (2+1))=aj a 2++bP .mul++aj b (2+1) by simp];generalize aj a 2=ta at *;generalize aj b (2+1)=tb at *;refine aY aa ac Tryz.func31 rfl rfl rfl rfl rfl rfl ej ?_;refine kR ?_;refine kI ?_;refine kO ?_;refine kC (cl) ?_;refine kO ?_;refine kY ?_;refine bf (i:=0) (cs':=ae o1 na1 xs1 nb1 ys1 nm1 n1 cs1) (by decide) (dy _ _) (Nat.zero_lt_succ 6) rfl rfl rfl rfl rfl rfl rfl rfl ?_;refine kW ?_
  refine kC (cl) ?_;refine kD (ca) ?_;refine kW ?_;refine cG (i:=6) Tryz.underlying93 (by kernel_rfl) (by decide) rfl rfl rfl rfl rfl rfl ?_;refine kW ?_;refine kD (cy) ?_;refine kW ?_;refine bf (i:=1) (cs':=ae o2 na2 xs2 nb2 ys2 nm2 n2 cs2) (by decide) (de _ rfl) (Nat.zero_lt_succ 6) rfl rfl rfl rfl rfl rfl rfl rfl ?_;refine kW ?_;refine kQ (cl) ?_;refine kD (cb) ?_;refine kW ?_;exact .inl ⟨⟨_,rfl,rfl⟩,⟨rfl,rfl,trivial⟩⟩
theorem xi {a b:Ex} {least:Nat} (iha:pQ a 2) (ihb:pQ b (2+1)) (hl:(aj (.bin .div a b) least).length≤1000000000):aw Tryz.prog 31 [.box 950 0, .d (dE (.bin .div a b)), .d (dN .i64 least)] tP (.v (.tup [])) (gF 701 (aj (.bin .div a b) least)):=by
 have cl:ab Tryz.prog 56 [dE (.bin .div a b)] (.one (dN .i64 ((2:Nat):Int))):=bR (.bin .div a b);obtain⟨o1,na1,xs1,nb1,ys1,nm1,n1,cs1,hA⟩:=ar a;obtain⟨o2,na2,xs2,nb2,ys2,nm2,n2,cs2,hA2⟩:=ar b;have hdn:dE (.bin .div a b)= .agg ([.val (.int .i64 7)]++kK++[.val (vL []), .sl 2 (ae o1 na1 xs1 nb1 ys1 nm1 n1 cs1++ae o2 na2 xs2 nb2 ys2 nm2 n2 cs2)]):=by rw[← hA,← hA2];exact congrArg DV.agg (fL .div a b)
 have hsy:(bP .div).length=3:=rfl;have hEa:dE a= .agg (ae o1 na1 xs1 nb1 ys1 nm1 n1 cs1):=congrArg DV.agg hA;have hEb:dE b= .agg (ae o2 na2 xs2 nb2 ys2 nm2 n2 cs2):=congrArg DV.agg hA2
 by_cases hlt:2<least
 ·have e0:aj (.bin .div a b) least=[40]++(aj a 2++bP .div++aj b (2+1))++[41]:=if_pos hlt
  rw[e0]at hl ⊢
  simp only[List.length_append,List.length_cons,List.length_nil,hsy]at hl
  have ca:=iha.n1 704 702 ([40]) (by simp <;>omega) rfl rfl rfl;have cb:=ihb.n1 703 705 ([40]++aj a 2++bP .div) (by simp only[List.length_append,List.length_cons,List.length_nil,hsy];omega) rfl rfl rfl;have hfin:=JB 705 701 ([40]++aj a 2++bP .div++aj b (2+1)) [41] (by simp) (by simp only[List.length_append,List.length_cons,List.length_nil,hsy];omega) rfl rfl rfl;have cy:=(JB 702 703 ([40]++aj a 2) (bP .div) (by simp[bP]) (by simp only[List.length_append,List.length_cons,List.length_nil,hsy];omega) rfl rfl rfl).toT;rw[hdn]at cl ⊢;rw[hEa]at ca;rw[hEb]at cb;rw[show([40]++(aj a 2++bP .div++aj b (2+1))++[41])=[40]++aj a 2++bP .div++aj b (2+1)++[41] by simp];generalize aj a 2=ta at *;generalize aj b (2+1)=tb at *;refine aY aa ac Tryz.func31 rfl rfl rfl rfl rfl rfl ej ?_
  refine kR ?_;refine kI ?_;refine kO ?_;refine kC (cl) ?_;refine kO ?_;refine kX ?_;refine DY ((F2 704 ([40]) (by simp) (by simp <;>omega) rfl).toT) rfl rfl rfl rfl rfl ⟨rfl,trivial⟩ rfl rfl rfl rfl ?_;refine kW ?_;refine iG rfl rfl rfl rfl rfl rfl rfl ?_;refine kW ?_;refine bf (i:=0) (cs':=ae o1 na1 xs1 nb1 ys1 nm1 n1 cs1) (by decide) (dy _ _) (Nat.zero_lt_succ 6) rfl rfl rfl rfl rfl rfl rfl rfl ?_;refine kW ?_;refine kC (cl) ?_;refine kD (ca) ?_;refine kW ?_;refine cG (i:=7) Tryz.underlying93 (by kernel_rfl) (by decide) rfl rfl rfl rfl rfl rfl ?_;refine kW ?_;refine kD (cy) ?_;refine kW ?_;refine bf (i:=1) (cs':=ae o2 na2 xs2 nb2 ys2 nm2 n2 cs2) (by decide) (de _ rfl) (Nat.zero_lt_succ 6) rfl rfl rfl rfl rfl rfl rfl rfl ?_;refine kW ?_;refine kQ (cl) ?_;refine kD (cb) ?_;refine kW ?_
  exact .inr ⟨_,_,_,_,_,{ dk:=rfl,one:=rfl,body:=hfin,kn:=rfl,bx:=⟨rfl,rfl,trivial⟩,cl:=rfl,new:=rfl,fin:=⟨rfl,rfl,trivial⟩ }⟩
 ·have e0:aj (.bin .div a b) least=aj a 2++bP .div++aj b (2+1):=if_neg hlt
  rw[e0]at hl ⊢
  simp only[List.length_append,hsy]at hl
  have ca:=iha.n0 702 (by omega) rfl;have cb:=ihb.n1 703 701 (aj a 2++bP .div) (by simp only[List.length_append,List.length_cons,List.length_nil,hsy];omega) rfl rfl rfl;have cy:=(JB 702 703 (aj a 2) (bP .div) (by simp[bP]) (by simp only[List.length_append,List.length_cons,List.length_nil,hsy];omega) rfl rfl rfl).toT;rw[hdn]at cl ⊢;rw[hEa]at ca;rw[hEb]at cb;rw[show(aj a 2++bP .div++aj b (2+1))=aj a 2++bP .div++aj b (2+1) by simp];generalize aj a 2=ta at *;generalize aj b (2+1)=tb at *;refine aY aa ac Tryz.func31 rfl rfl rfl rfl rfl rfl ej ?_;refine kR ?_;refine kI ?_;refine kO ?_;refine kC (cl) ?_;refine kO ?_;refine kY ?_;refine bf (i:=0) (cs':=ae o1 na1 xs1 nb1 ys1 nm1 n1 cs1) (by decide) (dy _ _) (Nat.zero_lt_succ 6) rfl rfl rfl rfl rfl rfl rfl rfl ?_;refine kW ?_
  refine kC (cl) ?_;refine kD (ca) ?_;refine kW ?_;refine cG (i:=7) Tryz.underlying93 (by kernel_rfl) (by decide) rfl rfl rfl rfl rfl rfl ?_;refine kW ?_;refine kD (cy) ?_;refine kW ?_;refine bf (i:=1) (cs':=ae o2 na2 xs2 nb2 ys2 nm2 n2 cs2) (by decide) (de _ rfl) (Nat.zero_lt_succ 6) rfl rfl rfl rfl rfl rfl rfl rfl ?_;refine kW ?_;refine kQ (cl) ?_;refine kD (cb) ?_;refine kW ?_;exact .inl ⟨⟨_,rfl,rfl⟩,⟨rfl,rfl,trivial⟩⟩
theorem EI (l:List UInt8) {v:Rat} {u:List UInt8} {least:Nat} (h4:least≤3) (hf:jT (.num v u)) (hl:l.length+(aj (.num v u) least).length≤1000000000):aw Tryz.prog 31 [.box 950 0, .d (dE (.num v u)), .d (dN .i64 least)] (gF 700 l) (.v (.tup [])) (gF 701 (l++aj (.num v u) least)):=by
 obtain⟨h1,h2,h3⟩:=hf;obtain⟨t,c,ht⟩:=kH h2 (by decide);obtain⟨d,hd⟩:=Option.isSome_iff_exists.1 h1;rw[ht d hd,h1]at c;have hd0:d≠[]:=uy hd;have cl:=bR (.num v u)
 have e0:aj (.num v u) least=d++iy u:=by
  rw[og,jq,if_neg (by show ¬4<least;omega)];show jq 4 0 (Bc v++iy u)=_;rw[rn,Bc,hd];rfl
 rw[e0]at hl ⊢;have hdn:dE (.num v u)= .agg ([.val (.int .i64 1)]++aQ v++[.val (vL u), .sl 0 []]):=rfl;rw[hdn]at cl ⊢
 by_cases hu:u=[]
 ·subst hu
  rw[show iy []=[] from rfl,List.append_nil]at hl ⊢;refine aY aa ac Tryz.func31 rfl rfl rfl rfl rfl rfl (eT rfl rfl rfl) ?_;refine kR ?_;refine kI ?_;refine kO ?_;refine kC (cl) ?_;refine kO ?_;refine kB false ?_ ?_
  ·exact decide_eq_false (by show ¬((4:Nat):Int)<_;omega)
  refine kW ?_;refine kQ (c) ?_;refine DY ((JB 700 701 l (d) hd0 (by omega) rfl rfl rfl).toT) rfl rfl rfl rfl rfl ⟨rfl,rfl,trivial⟩ rfl rfl rfl rfl ?_;refine kG ?_
  iterate 2 refine kO ?_
  refine aO rfl rfl rfl rfl rfl rfl rfl (gk (a:=[]) (b:=[]) rfl) ?_;refine kW ?_;exact .inl ⟨⟨_,rfl,rfl⟩,⟨rfl,rfl,trivial⟩⟩
 ·have hu2:iy u=[32]++u:=if_neg hu
  rw[hu2]at hl ⊢
  simp only[List.length_append,List.length_cons,List.length_nil]at hl
  rw[show l++(d++([32]++u))=(l++d)++([32]++u) by simp];refine aY aa ac Tryz.func31 rfl rfl rfl rfl rfl rfl (eT rfl rfl rfl) ?_;refine kR ?_;refine kI ?_;refine kO ?_;refine kC (cl) ?_;refine kO ?_;refine kB false ?_ ?_
  ·exact decide_eq_false (by show ¬((4:Nat):Int)<_;omega)
  refine kW ?_;refine kQ (c) ?_;refine DY ((JB 700 702 l (d) hd0 (by omega) rfl rfl rfl).toT) rfl rfl rfl rfl rfl ⟨rfl,rfl,trivial⟩ rfl rfl rfl rfl ?_;refine kG ?_
  iterate 2 refine kO ?_
  refine aO rfl rfl rfl rfl rfl rfl rfl (ee (a:=u) (b:=[]) hu) ?_;refine kG ?_
  iterate 3 refine kO ?_
  refine aO rfl rfl rfl rfl rfl rfl rfl (ek (a:=[32]) (b:=u) (by simp <;>omega)) ?_;refine DY ((JB 702 701 (l++d) ([32]++u) (by simp) (by simp <;>omega) rfl rfl rfl).toT) rfl rfl rfl rfl rfl ⟨rfl,rfl,trivial⟩ rfl rfl rfl rfl ?_;refine kW ?_;exact .inl ⟨⟨_,rfl,rfl⟩,⟨rfl,rfl,trivial⟩⟩
theorem Fd (l:List UInt8) {s:List UInt8} {least:Nat} (h4:least≤3) (hf:jT (.nam s)) (hl:l.length+(aj (.nam s) least).length≤1000000000):aw Tryz.prog 31 [.box 950 0, .d (dE (.nam s)), .d (dN .i64 least)] (gF 700 l) (.v (.tup [])) (gF 701 (l++aj (.nam s) least)):=by
 have hs0:s≠[]:=fun e=>by subst e;cases hf
 have cl:=bR (.nam s)
 have e0:aj (.nam s) least=s:=by
  rw[og,jq,if_neg (by show ¬4<least;omega)];exact rn _ _
 rw[e0]at hl ⊢;have hdn:dE (.nam s)= .agg ([.val (.int .i64 2)]++kK++[.val (vL s), .sl 0 []]):=rfl;rw[hdn]at cl ⊢;refine aY aa ac Tryz.func31 rfl rfl rfl rfl rfl rfl (eT rfl rfl rfl) ?_;refine kR ?_;refine kI ?_;refine kO ?_;refine kC (cl) ?_;refine kO ?_;refine kB false ?_ ?_
 ·exact decide_eq_false (by show ¬((4:Nat):Int)<_;omega)
 refine kW ?_;refine DY ((JB 700 701 l (s) hs0 (by omega) rfl rfl rfl).toT) rfl rfl rfl rfl rfl ⟨rfl,rfl,trivial⟩ rfl rfl rfl rfl ?_;refine kW ?_;exact .inl ⟨⟨_,rfl,rfl⟩,⟨rfl,rfl,trivial⟩⟩
theorem Fl (l:List UInt8) {a:Ex} {least:Nat} (h4:least≤3) (ih:pQ a 3) (hl:l.length+(aj (.neg a) least).length≤1000000000):aw Tryz.prog 31 [.box 950 0, .d (dE (.neg a)), .d (dN .i64 least)] (gF 700 l) (.v (.tup [])) (gF 701 (l++aj (.neg a) least)):=by
 have cl:=bR (.neg a)
 have e0:aj (.neg a) least=[45]++aj a 3:=by
  rw[og,jq,if_neg (by show ¬3<least;omega)];exact rn _ _
 rw[e0]at hl ⊢
 simp only[List.length_append,List.length_cons,List.length_nil]at hl
 obtain⟨o1,na1,xs1,nb1,ys1,nm1,n1,cs1,hA⟩:=ar a;have hdn:dE (.neg a)= .agg ([.val (.int .i64 3)]++kK++[.val (vL []), .sl 1 (ae o1 na1 xs1 nb1 ys1 nm1 n1 cs1)]):=by rw[← hA];exact congrArg DV.agg (nd a)
 rw[hdn]at cl ⊢;have cw:=ih.n1 702 701 (l++[45]) (by simp <;>omega) rfl rfl rfl;rw[show dE a= .agg (ae o1 na1 xs1 nb1 ys1 nm1 n1 cs1) from congrArg DV.agg hA]at cw;rw[show l++([45]++aj a 3)=(l++[45])++aj a 3 by simp];refine aY aa ac Tryz.func31 rfl rfl rfl rfl rfl rfl (eT rfl rfl rfl) ?_;refine kR ?_;refine kI ?_;refine kO ?_;refine kC (cl) ?_;refine kO ?_;refine kB false ?_ ?_
 ·exact decide_eq_false (by show ¬((3:Nat):Int)<_;omega)
 refine kW ?_;refine cG (i:=3) Tryz.underlying93 (by kernel_rfl) (by decide) rfl rfl rfl rfl rfl rfl ?_;refine kW ?_;refine DY ((JB 700 702 l ([45]) (by simp) (by simp <;>omega) rfl rfl rfl).toT) rfl rfl rfl rfl rfl ⟨rfl,rfl,trivial⟩ rfl rfl rfl rfl ?_;refine kW ?_;refine bf (i:=0) (cs':=ae o1 na1 xs1 nb1 ys1 nm1 n1 cs1) (by decide) (zR _) (Nat.zero_lt_succ 6) rfl rfl rfl rfl rfl rfl rfl rfl ?_;refine kW ?_;refine kC (cl) ?_;refine kD (cw) ?_;refine kW ?_;exact .inl ⟨⟨_,rfl,rfl⟩,⟨rfl,rfl,trivial⟩⟩
theorem uZ (l:List UInt8) {a b:Ex} {least:Nat} (iha:pQ a 1) (ihb:pQ b (1+1)) (hl:l.length+(aj (.bin .add a b) least).length≤1000000000):aw Tryz.prog 31 [.box 950 0, .d (dE (.bin .add a b)), .d (dN .i64 least)] (gF 700 l) (.v (.tup [])) (gF 701 (l++aj (.bin .add a b) least)):=by
 have cl:ab Tryz.prog 56 [dE (.bin .add a b)] (.one (dN .i64 ((1:Nat):Int))):=bR (.bin .add a b);obtain⟨o1,na1,xs1,nb1,ys1,nm1,n1,cs1,hA⟩:=ar a;obtain⟨o2,na2,xs2,nb2,ys2,nm2,n2,cs2,hA2⟩:=ar b;have hdn:dE (.bin .add a b)= .agg ([.val (.int .i64 4)]++kK++[.val (vL []), .sl 2 (ae o1 na1 xs1 nb1 ys1 nm1 n1 cs1++ae o2 na2 xs2 nb2 ys2 nm2 n2 cs2)]):=by rw[← hA,← hA2];exact congrArg DV.agg (fL .add a b)
 have hsy:(bP .add).length=3:=rfl;have hEa:dE a= .agg (ae o1 na1 xs1 nb1 ys1 nm1 n1 cs1):=congrArg DV.agg hA;have hEb:dE b= .agg (ae o2 na2 xs2 nb2 ys2 nm2 n2 cs2):=congrArg DV.agg hA2
 by_cases hlt:1<least
 ·have e0:aj (.bin .add a b) least=[40]++(aj a 1++bP .add++aj b (1+1))++[41]:=if_pos hlt
  rw[e0]at hl ⊢
  simp only[List.length_append,List.length_cons,List.length_nil,hsy]at hl
  have ca:=iha.n1 704 702 (l++[40]) (by simp <;>omega) rfl rfl rfl;have cb:=ihb.n1 703 705 (l++[40]++aj a 1++bP .add) (by simp only[List.length_append,List.length_cons,List.length_nil,hsy];omega) rfl rfl rfl;have hfin:=JB 705 701 (l++[40]++aj a 1++bP .add++aj b (1+1)) [41] (by simp) (by simp only[List.length_append,List.length_cons,List.length_nil,hsy];omega) rfl rfl rfl;have cy:=(JB 702 703 (l++[40]++aj a 1) (bP .add) (by simp[bP]) (by simp only[List.length_append,List.length_cons,List.length_nil,hsy];omega) rfl rfl rfl).toT;rw[hdn]at cl ⊢;rw[hEa]at ca;rw[hEb]at cb;rw[show l++([40]++(aj a 1++bP .add++aj b (1+1))++[41])=l++[40]++aj a 1++bP .add++aj b (1+1)++[41] by simp];generalize aj a 1=ta at *;generalize aj b (1+1)=tb at *
  refine aY aa ac Tryz.func31 rfl rfl rfl rfl rfl rfl (eT rfl rfl rfl) ?_;refine kR ?_;refine kI ?_;refine kO ?_;refine kC (cl) ?_;refine kO ?_;refine kX ?_;refine DY ((JB 700 704 l ([40]) (by simp) (by simp <;>omega) rfl rfl rfl).toT) rfl rfl rfl rfl rfl ⟨rfl,rfl,trivial⟩ rfl rfl rfl rfl ?_;refine kW ?_;refine iG rfl rfl rfl rfl rfl rfl rfl ?_;refine kW ?_;refine bf (i:=0) (cs':=ae o1 na1 xs1 nb1 ys1 nm1 n1 cs1) (by decide) (dy _ _) (Nat.zero_lt_succ 6) rfl rfl rfl rfl rfl rfl rfl rfl ?_;refine kW ?_;refine kC (cl) ?_;refine kD (ca) ?_;refine kW ?_;refine cG (i:=4) Tryz.underlying93 (by kernel_rfl) (by decide) rfl rfl rfl rfl rfl rfl ?_;refine kW ?_;refine kD (cy) ?_;refine kW ?_
  refine bf (i:=1) (cs':=ae o2 na2 xs2 nb2 ys2 nm2 n2 cs2) (by decide) (de _ rfl) (Nat.zero_lt_succ 6) rfl rfl rfl rfl rfl rfl rfl rfl ?_;refine kW ?_;refine kQ (cl) ?_;refine kD (cb) ?_;refine kW ?_;exact .inr ⟨_,_,_,_,_,{ dk:=rfl,one:=rfl,body:=hfin,kn:=rfl,bx:=⟨rfl,rfl,trivial⟩,cl:=rfl,new:=rfl,fin:=⟨rfl,rfl,trivial⟩ }⟩
 ·have e0:aj (.bin .add a b) least=aj a 1++bP .add++aj b (1+1):=if_neg hlt
  rw[e0]at hl ⊢
  simp only[List.length_append,hsy]at hl
  have ca:=iha.n1 700 702 l (by omega) rfl rfl rfl;have cb:=ihb.n1 703 701 (l++aj a 1++bP .add) (by simp only[List.length_append,List.length_cons,List.length_nil,hsy];omega) rfl rfl rfl;have cy:=(JB 702 703 (l++aj a 1) (bP .add) (by simp[bP]) (by simp only[List.length_append,List.length_cons,List.length_nil,hsy];omega) rfl rfl rfl).toT;rw[hdn]at cl ⊢;rw[hEa]at ca;rw[hEb]at cb;rw[show l++(aj a 1++bP .add++aj b (1+1))=l++aj a 1++bP .add++aj b (1+1) by simp];generalize aj a 1=ta at *;generalize aj b (1+1)=tb at *;refine aY aa ac Tryz.func31 rfl rfl rfl rfl rfl rfl (eT rfl rfl rfl) ?_;refine kR ?_;refine kI ?_;refine kO ?_;refine kC (cl) ?_;refine kO ?_;refine kY ?_
  refine bf (i:=0) (cs':=ae o1 na1 xs1 nb1 ys1 nm1 n1 cs1) (by decide) (dy _ _) (Nat.zero_lt_succ 6) rfl rfl rfl rfl rfl rfl rfl rfl ?_;refine kW ?_;refine kC (cl) ?_;refine kD (ca) ?_;refine kW ?_;refine cG (i:=4) Tryz.underlying93 (by kernel_rfl) (by decide) rfl rfl rfl rfl rfl rfl ?_;refine kW ?_;refine kD (cy) ?_;refine kW ?_;refine bf (i:=1) (cs':=ae o2 na2 xs2 nb2 ys2 nm2 n2 cs2) (by decide) (de _ rfl) (Nat.zero_lt_succ 6) rfl rfl rfl rfl rfl rfl rfl rfl ?_;refine kW ?_;refine kQ (cl) ?_;refine kD (cb) ?_;refine kW ?_;exact .inl ⟨⟨_,rfl,rfl⟩,⟨rfl,rfl,trivial⟩⟩
theorem vw (l:List UInt8) {a b:Ex} {least:Nat} (iha:pQ a 1) (ihb:pQ b (1+1)) (hl:l.length+(aj (.bin .sub a b) least).length≤1000000000):aw Tryz.prog 31 [.box 950 0, .d (dE (.bin .sub a b)), .d (dN .i64 least)] (gF 700 l) (.v (.tup [])) (gF 701 (l++aj (.bin .sub a b) least)):=by
 have cl:ab Tryz.prog 56 [dE (.bin .sub a b)] (.one (dN .i64 ((1:Nat):Int))):=bR (.bin .sub a b);obtain⟨o1,na1,xs1,nb1,ys1,nm1,n1,cs1,hA⟩:=ar a;obtain⟨o2,na2,xs2,nb2,ys2,nm2,n2,cs2,hA2⟩:=ar b;have hdn:dE (.bin .sub a b)= .agg ([.val (.int .i64 5)]++kK++[.val (vL []), .sl 2 (ae o1 na1 xs1 nb1 ys1 nm1 n1 cs1++ae o2 na2 xs2 nb2 ys2 nm2 n2 cs2)]):=by rw[← hA,← hA2];exact congrArg DV.agg (fL .sub a b)
 have hsy:(bP .sub).length=3:=rfl;have hEa:dE a= .agg (ae o1 na1 xs1 nb1 ys1 nm1 n1 cs1):=congrArg DV.agg hA;have hEb:dE b= .agg (ae o2 na2 xs2 nb2 ys2 nm2 n2 cs2):=congrArg DV.agg hA2
 by_cases hlt:1<least
 ·have e0:aj (.bin .sub a b) least=[40]++(aj a 1++bP .sub++aj b (1+1))++[41]:=if_pos hlt
  rw[e0]at hl ⊢
  simp only[List.length_append,List.length_cons,List.length_nil,hsy]at hl
  have ca:=iha.n1 704 702 (l++[40]) (by simp <;>omega) rfl rfl rfl;have cb:=ihb.n1 703 705 (l++[40]++aj a 1++bP .sub) (by simp only[List.length_append,List.length_cons,List.length_nil,hsy];omega) rfl rfl rfl;have hfin:=JB 705 701 (l++[40]++aj a 1++bP .sub++aj b (1+1)) [41] (by simp) (by simp only[List.length_append,List.length_cons,List.length_nil,hsy];omega) rfl rfl rfl;have cy:=(JB 702 703 (l++[40]++aj a 1) (bP .sub) (by simp[bP]) (by simp only[List.length_append,List.length_cons,List.length_nil,hsy];omega) rfl rfl rfl).toT;rw[hdn]at cl ⊢;rw[hEa]at ca;rw[hEb]at cb;rw[show l++([40]++(aj a 1++bP .sub++aj b (1+1))++[41])=l++[40]++aj a 1++bP .sub++aj b (1+1)++[41] by simp];generalize aj a 1=ta at *;generalize aj b (1+1)=tb at *
  refine aY aa ac Tryz.func31 rfl rfl rfl rfl rfl rfl (eT rfl rfl rfl) ?_;refine kR ?_;refine kI ?_;refine kO ?_;refine kC (cl) ?_;refine kO ?_;refine kX ?_;refine DY ((JB 700 704 l ([40]) (by simp) (by simp <;>omega) rfl rfl rfl).toT) rfl rfl rfl rfl rfl ⟨rfl,rfl,trivial⟩ rfl rfl rfl rfl ?_;refine kW ?_;refine iG rfl rfl rfl rfl rfl rfl rfl ?_;refine kW ?_;refine bf (i:=0) (cs':=ae o1 na1 xs1 nb1 ys1 nm1 n1 cs1) (by decide) (dy _ _) (Nat.zero_lt_succ 6) rfl rfl rfl rfl rfl rfl rfl rfl ?_;refine kW ?_;refine kC (cl) ?_;refine kD (ca) ?_;refine kW ?_;refine cG (i:=5) Tryz.underlying93 (by kernel_rfl) (by decide) rfl rfl rfl rfl rfl rfl ?_;refine kW ?_;refine kD (cy) ?_;refine kW ?_
  refine bf (i:=1) (cs':=ae o2 na2 xs2 nb2 ys2 nm2 n2 cs2) (by decide) (de _ rfl) (Nat.zero_lt_succ 6) rfl rfl rfl rfl rfl rfl rfl rfl ?_;refine kW ?_;refine kQ (cl) ?_;refine kD (cb) ?_;refine kW ?_;exact .inr ⟨_,_,_,_,_,{ dk:=rfl,one:=rfl,body:=hfin,kn:=rfl,bx:=⟨rfl,rfl,trivial⟩,cl:=rfl,new:=rfl,fin:=⟨rfl,rfl,trivial⟩ }⟩
 ·have e0:aj (.bin .sub a b) least=aj a 1++bP .sub++aj b (1+1):=if_neg hlt
  rw[e0]at hl ⊢
  simp only[List.length_append,hsy]at hl
  have ca:=iha.n1 700 702 l (by omega) rfl rfl rfl;have cb:=ihb.n1 703 701 (l++aj a 1++bP .sub) (by simp only[List.length_append,List.length_cons,List.length_nil,hsy];omega) rfl rfl rfl;have cy:=(JB 702 703 (l++aj a 1) (bP .sub) (by simp[bP]) (by simp only[List.length_append,List.length_cons,List.length_nil,hsy];omega) rfl rfl rfl).toT;rw[hdn]at cl ⊢;rw[hEa]at ca;rw[hEb]at cb;rw[show l++(aj a 1++bP .sub++aj b (1+1))=l++aj a 1++bP .sub++aj b (1+1) by simp];generalize aj a 1=ta at *;generalize aj b (1+1)=tb at *;refine aY aa ac Tryz.func31 rfl rfl rfl rfl rfl rfl (eT rfl rfl rfl) ?_;refine kR ?_;refine kI ?_;refine kO ?_;refine kC (cl) ?_;refine kO ?_;refine kY ?_
  refine bf (i:=0) (cs':=ae o1 na1 xs1 nb1 ys1 nm1 n1 cs1) (by decide) (dy _ _) (Nat.zero_lt_succ 6) rfl rfl rfl rfl rfl rfl rfl rfl ?_;refine kW ?_;refine kC (cl) ?_;refine kD (ca) ?_;refine kW ?_;refine cG (i:=5) Tryz.underlying93 (by kernel_rfl) (by decide) rfl rfl rfl rfl rfl rfl ?_;refine kW ?_;refine kD (cy) ?_;refine kW ?_;refine bf (i:=1) (cs':=ae o2 na2 xs2 nb2 ys2 nm2 n2 cs2) (by decide) (de _ rfl) (Nat.zero_lt_succ 6) rfl rfl rfl rfl rfl rfl rfl rfl ?_;refine kW ?_;refine kQ (cl) ?_;refine kD (cb) ?_;refine kW ?_;exact .inl ⟨⟨_,rfl,rfl⟩,⟨rfl,rfl,trivial⟩⟩
theorem uT (l:List UInt8) {a b:Ex} {least:Nat} (iha:pQ a 2) (ihb:pQ b (2+1)) (hl:l.length+(aj (.bin .mul a b) least).length≤1000000000):aw Tryz.prog 31 [.box 950 0, .d (dE (.bin .mul a b)), .d (dN .i64 least)] (gF 700 l) (.v (.tup [])) (gF 701 (l++aj (.bin .mul a b) least)):=by
 have cl:ab Tryz.prog 56 [dE (.bin .mul a b)] (.one (dN .i64 ((2:Nat):Int))):=bR (.bin .mul a b);obtain⟨o1,na1,xs1,nb1,ys1,nm1,n1,cs1,hA⟩:=ar a;obtain⟨o2,na2,xs2,nb2,ys2,nm2,n2,cs2,hA2⟩:=ar b;have hdn:dE (.bin .mul a b)= .agg ([.val (.int .i64 6)]++kK++[.val (vL []), .sl 2 (ae o1 na1 xs1 nb1 ys1 nm1 n1 cs1++ae o2 na2 xs2 nb2 ys2 nm2 n2 cs2)]):=by rw[← hA,← hA2];exact congrArg DV.agg (fL .mul a b)
 have hsy:(bP .mul).length=3:=rfl;have hEa:dE a= .agg (ae o1 na1 xs1 nb1 ys1 nm1 n1 cs1):=congrArg DV.agg hA;have hEb:dE b= .agg (ae o2 na2 xs2 nb2 ys2 nm2 n2 cs2):=congrArg DV.agg hA2
 by_cases hlt:2<least
 ·have e0:aj (.bin .mul a b) least=[40]++(aj a 2++bP .mul++aj b (2+1))++[41]:=if_pos hlt
  rw[e0]at hl ⊢
  simp only[List.length_append,List.length_cons,List.length_nil,hsy]at hl
  have ca:=iha.n1 704 702 (l++[40]) (by simp <;>omega) rfl rfl rfl;have cb:=ihb.n1 703 705 (l++[40]++aj a 2++bP .mul) (by simp only[List.length_append,List.length_cons,List.length_nil,hsy];omega) rfl rfl rfl;have hfin:=JB 705 701 (l++[40]++aj a 2++bP .mul++aj b (2+1)) [41] (by simp) (by simp only[List.length_append,List.length_cons,List.length_nil,hsy];omega) rfl rfl rfl;have cy:=(JB 702 703 (l++[40]++aj a 2) (bP .mul) (by simp[bP]) (by simp only[List.length_append,List.length_cons,List.length_nil,hsy];omega) rfl rfl rfl).toT;rw[hdn]at cl ⊢;rw[hEa]at ca;rw[hEb]at cb;rw[show l++([40]++(aj a 2++bP .mul++aj b (2+1))++[41])=l++[40]++aj a 2++bP .mul++aj b (2+1)++[41] by simp];generalize aj a 2=ta at *;generalize aj b (2+1)=tb at *
  refine aY aa ac Tryz.func31 rfl rfl rfl rfl rfl rfl (eT rfl rfl rfl) ?_;refine kR ?_;refine kI ?_;refine kO ?_;refine kC (cl) ?_;refine kO ?_;refine kX ?_;refine DY ((JB 700 704 l ([40]) (by simp) (by simp <;>omega) rfl rfl rfl).toT) rfl rfl rfl rfl rfl ⟨rfl,rfl,trivial⟩ rfl rfl rfl rfl ?_;refine kW ?_;refine iG rfl rfl rfl rfl rfl rfl rfl ?_;refine kW ?_;refine bf (i:=0) (cs':=ae o1 na1 xs1 nb1 ys1 nm1 n1 cs1) (by decide) (dy _ _) (Nat.zero_lt_succ 6) rfl rfl rfl rfl rfl rfl rfl rfl ?_;refine kW ?_;refine kC (cl) ?_;refine kD (ca) ?_;refine kW ?_;refine cG (i:=6) Tryz.underlying93 (by kernel_rfl) (by decide) rfl rfl rfl rfl rfl rfl ?_;refine kW ?_;refine kD (cy) ?_;refine kW ?_
  refine bf (i:=1) (cs':=ae o2 na2 xs2 nb2 ys2 nm2 n2 cs2) (by decide) (de _ rfl) (Nat.zero_lt_succ 6) rfl rfl rfl rfl rfl rfl rfl rfl ?_;refine kW ?_;refine kQ (cl) ?_;refine kD (cb) ?_;refine kW ?_;exact .inr ⟨_,_,_,_,_,{ dk:=rfl,one:=rfl,body:=hfin,kn:=rfl,bx:=⟨rfl,rfl,trivial⟩,cl:=rfl,new:=rfl,fin:=⟨rfl,rfl,trivial⟩ }⟩
 ·have e0:aj (.bin .mul a b) least=aj a 2++bP .mul++aj b (2+1):=if_neg hlt
  rw[e0]at hl ⊢
  simp only[List.length_append,hsy]at hl
  have ca:=iha.n1 700 702 l (by omega) rfl rfl rfl;have cb:=ihb.n1 703 701 (l++aj a 2++bP .mul) (by simp only[List.length_append,List.length_cons,List.length_nil,hsy];omega) rfl rfl rfl;have cy:=(JB 702 703 (l++aj a 2) (bP .mul) (by simp[bP]) (by simp only[List.length_append,List.length_cons,List.length_nil,hsy];omega) rfl rfl rfl).toT;rw[hdn]at cl ⊢;rw[hEa]at ca;rw[hEb]at cb;rw[show l++(aj a 2++bP .mul++aj b (2+1))=l++aj a 2++bP .mul++aj b (2+1) by simp];generalize aj a 2=ta at *;generalize aj b (2+1)=tb at *;refine aY aa ac Tryz.func31 rfl rfl rfl rfl rfl rfl (eT rfl rfl rfl) ?_;refine kR ?_;refine kI ?_;refine kO ?_;refine kC (cl) ?_;refine kO ?_;refine kY ?_
  refine bf (i:=0) (cs':=ae o1 na1 xs1 nb1 ys1 nm1 n1 cs1) (by decide) (dy _ _) (Nat.zero_lt_succ 6) rfl rfl rfl rfl rfl rfl rfl rfl ?_;refine kW ?_;refine kC (cl) ?_;refine kD (ca) ?_;refine kW ?_;refine cG (i:=6) Tryz.underlying93 (by kernel_rfl) (by decide) rfl rfl rfl rfl rfl rfl ?_;refine kW ?_;refine kD (cy) ?_;refine kW ?_;refine bf (i:=1) (cs':=ae o2 na2 xs2 nb2 ys2 nm2 n2 cs2) (by decide) (de _ rfl) (Nat.zero_lt_succ 6) rfl rfl rfl rfl rfl rfl rfl rfl ?_;refine kW ?_;refine kQ (cl) ?_;refine kD (cb) ?_;refine kW ?_;exact .inl ⟨⟨_,rfl,rfl⟩,⟨rfl,rfl,trivial⟩⟩
theorem wU (l:List UInt8) {a b:Ex} {least:Nat} (iha:pQ a 2) (ihb:pQ b (2+1)) (hl:l.length+(aj (.bin .div a b) least).length≤1000000000):aw Tryz.prog 31 [.box 950 0, .d (dE (.bin .div a b)), .d (dN .i64 least)] (gF 700 l) (.v (.tup [])) (gF 701 (l++aj (.bin .div a b) least)):=by
 have cl:ab Tryz.prog 56 [dE (.bin .div a b)] (.one (dN .i64 ((2:Nat):Int))):=bR (.bin .div a b);obtain⟨o1,na1,xs1,nb1,ys1,nm1,n1,cs1,hA⟩:=ar a;obtain⟨o2,na2,xs2,nb2,ys2,nm2,n2,cs2,hA2⟩:=ar b;have hdn:dE (.bin .div a b)= .agg ([.val (.int .i64 7)]++kK++[.val (vL []), .sl 2 (ae o1 na1 xs1 nb1 ys1 nm1 n1 cs1++ae o2 na2 xs2 nb2 ys2 nm2 n2 cs2)]):=by rw[← hA,← hA2];exact congrArg DV.agg (fL .div a b)
 have hsy:(bP .div).length=3:=rfl;have hEa:dE a= .agg (ae o1 na1 xs1 nb1 ys1 nm1 n1 cs1):=congrArg DV.agg hA;have hEb:dE b= .agg (ae o2 na2 xs2 nb2 ys2 nm2 n2 cs2):=congrArg DV.agg hA2
 by_cases hlt:2<least
 ·have e0:aj (.bin .div a b) least=[40]++(aj a 2++bP .div++aj b (2+1))++[41]:=if_pos hlt
  rw[e0]at hl ⊢
  simp only[List.length_append,List.length_cons,List.length_nil,hsy]at hl
  have ca:=iha.n1 704 702 (l++[40]) (by simp <;>omega) rfl rfl rfl;have cb:=ihb.n1 703 705 (l++[40]++aj a 2++bP .div) (by simp only[List.length_append,List.length_cons,List.length_nil,hsy];omega) rfl rfl rfl;have hfin:=JB 705 701 (l++[40]++aj a 2++bP .div++aj b (2+1)) [41] (by simp) (by simp only[List.length_append,List.length_cons,List.length_nil,hsy];omega) rfl rfl rfl;have cy:=(JB 702 703 (l++[40]++aj a 2) (bP .div) (by simp[bP]) (by simp only[List.length_append,List.length_cons,List.length_nil,hsy];omega) rfl rfl rfl).toT;rw[hdn]at cl ⊢;rw[hEa]at ca;rw[hEb]at cb;rw[show l++([40]++(aj a 2++bP .div++aj b (2+1))++[41])=l++[40]++aj a 2++bP .div++aj b (2+1)++[41] by simp];generalize aj a 2=ta at *;generalize aj b (2+1)=tb at *
  refine aY aa ac Tryz.func31 rfl rfl rfl rfl rfl rfl (eT rfl rfl rfl) ?_;refine kR ?_;refine kI ?_;refine kO ?_;refine kC (cl) ?_;refine kO ?_;refine kX ?_;refine DY ((JB 700 704 l ([40]) (by simp) (by simp <;>omega) rfl rfl rfl).toT) rfl rfl rfl rfl rfl ⟨rfl,rfl,trivial⟩ rfl rfl rfl rfl ?_;refine kW ?_;refine iG rfl rfl rfl rfl rfl rfl rfl ?_;refine kW ?_;refine bf (i:=0) (cs':=ae o1 na1 xs1 nb1 ys1 nm1 n1 cs1) (by decide) (dy _ _) (Nat.zero_lt_succ 6) rfl rfl rfl rfl rfl rfl rfl rfl ?_;refine kW ?_;refine kC (cl) ?_;refine kD (ca) ?_;refine kW ?_;refine cG (i:=7) Tryz.underlying93 (by kernel_rfl) (by decide) rfl rfl rfl rfl rfl rfl ?_;refine kW ?_;refine kD (cy) ?_;refine kW ?_
  refine bf (i:=1) (cs':=ae o2 na2 xs2 nb2 ys2 nm2 n2 cs2) (by decide) (de _ rfl) (Nat.zero_lt_succ 6) rfl rfl rfl rfl rfl rfl rfl rfl ?_;refine kW ?_;refine kQ (cl) ?_;refine kD (cb) ?_;refine kW ?_;exact .inr ⟨_,_,_,_,_,{ dk:=rfl,one:=rfl,body:=hfin,kn:=rfl,bx:=⟨rfl,rfl,trivial⟩,cl:=rfl,new:=rfl,fin:=⟨rfl,rfl,trivial⟩ }⟩
 ·have e0:aj (.bin .div a b) least=aj a 2++bP .div++aj b (2+1):=if_neg hlt
  rw[e0]at hl ⊢
  simp only[List.length_append,hsy]at hl
  have ca:=iha.n1 700 702 l (by omega) rfl rfl rfl;have cb:=ihb.n1 703 701 (l++aj a 2++bP .div) (by simp only[List.length_append,List.length_cons,List.length_nil,hsy];omega) rfl rfl rfl;have cy:=(JB 702 703 (l++aj a 2) (bP .div) (by simp[bP]) (by simp only[List.length_append,List.length_cons,List.length_nil,hsy];omega) rfl rfl rfl).toT;rw[hdn]at cl ⊢;rw[hEa]at ca;rw[hEb]at cb;rw[show l++(aj a 2++bP .div++aj b (2+1))=l++aj a 2++bP .div++aj b (2+1) by simp];generalize aj a 2=ta at *;generalize aj b (2+1)=tb at *;refine aY aa ac Tryz.func31 rfl rfl rfl rfl rfl rfl (eT rfl rfl rfl) ?_;refine kR ?_;refine kI ?_;refine kO ?_;refine kC (cl) ?_;refine kO ?_;refine kY ?_
  refine bf (i:=0) (cs':=ae o1 na1 xs1 nb1 ys1 nm1 n1 cs1) (by decide) (dy _ _) (Nat.zero_lt_succ 6) rfl rfl rfl rfl rfl rfl rfl rfl ?_;refine kW ?_;refine kC (cl) ?_;refine kD (ca) ?_;refine kW ?_;refine cG (i:=7) Tryz.underlying93 (by kernel_rfl) (by decide) rfl rfl rfl rfl rfl rfl ?_;refine kW ?_;refine kD (cy) ?_;refine kW ?_;refine bf (i:=1) (cs':=ae o2 na2 xs2 nb2 ys2 nm2 n2 cs2) (by decide) (de _ rfl) (Nat.zero_lt_succ 6) rfl rfl rfl rfl rfl rfl rfl rfl ?_;refine kW ?_;refine kQ (cl) ?_;refine kD (cb) ?_;refine kW ?_;exact .inl ⟨⟨_,rfl,rfl⟩,⟨rfl,rfl,trivial⟩⟩
theorem d9:∀(e:Ex),jT e→ ∀least:Nat,least≤3→pQ e least
 | .num v u,hf,n,hn=>⟨fun hl=>EW hn hf hl,fun l hl=>EI l hn hf hl⟩
 | .nam s,hf,n,hn=>⟨fun hl=>FD hn hf hl,fun l hl=>Fd l hn hf hl⟩
 | .neg a,hf,n,hn=>⟨fun hl=>Fs hn (d9 a hf 3 (by decide)) hl,fun l hl=>Fl l hn (d9 a hf 3 (by decide)) hl⟩
 | .bin .add a b,hf,n,hn=>⟨fun hl=>uS (d9 a hf.1 1 (by decide)) (d9 b hf.2 2 (by decide)) hl,fun l hl=>uZ l (d9 a hf.1 1 (by decide)) (d9 b hf.2 2 (by decide)) hl⟩
 | .bin .sub a b,hf,n,hn=>⟨fun hl=>vg (d9 a hf.1 1 (by decide)) (d9 b hf.2 2 (by decide)) hl,fun l hl=>vw l (d9 a hf.1 1 (by decide)) (d9 b hf.2 2 (by decide)) hl⟩
 | .bin .mul a b,hf,n,hn=>⟨fun hl=>wQ (d9 a hf.1 2 (by decide)) (d9 b hf.2 3 (by decide)) hl,fun l hl=>uT l (d9 a hf.1 2 (by decide)) (d9 b hf.2 3 (by decide)) hl⟩
 | .bin .div a b,hf,n,hn=>⟨fun hl=>xi (d9 a hf.1 2 (by decide)) (d9 b hf.2 3 (by decide)) hl,fun l hl=>wU l (d9 a hf.1 2 (by decide)) (d9 b hf.2 3 (by decide)) hl⟩
theorem t8 {fid:FuncId} {p:Rx→Bool} (args:List Rx) (hp:∀x∈args,ab Tryz.prog fid [dR x] (.one (dB (p x)))) (hl:args.length≤1000000):ab Tryz.prog 94 [.leaf (.sl args.length (jJ args)),dF fid] (.one (dN .i64 (if args.findIdx p<args.length then((args.findIdx p:Nat):Int)else -1))):=by
 have hf:=List.findIdx_le_length (p:=p) (xs:=args)
 have hn:∀(i:Nat) (hi:i<args.length),i<args.findIdx p→p args[i]=false:=fun i hi h=>by
  have:=List.not_of_lt_findIdx h
  simpa using this
 have hy:∀(h:args.findIdx p<args.length),p (args[args.findIdx p])=true:=fun h=>List.findIdx_getElem
 generalize args.findIdx p=f at *;refine kU aa ac Tryz.func94 ?_;refine kW ?_
 refine bh Nat (fun i=>i≤f) (fun i=>⟨[(0, .d (.leaf (.sl args.length (jJ args)))),(1, .d (dF fid)),(4, .d (dN .i64 0)),(7, .d (dN .i64 args.length)),(8, .d (dN .i64 i))],[]⟩) (fun i=>args.length-i) 0 (Nat.zero_le _)
  (weak ⟨rfl,rfl,rfl,rfl,rfl,trivial⟩ trivial rfl) ?_
 intro i hi;refine kI ?_
 by_cases hlt:i<args.length
 ·refine kT ?_
  obtain⟨o1,na1,xs1,nb1,ys1,nm1,n1,cs1,hA⟩:=aX args[i];have hx:args[i]? =some args[i]:=by simp[hlt]
  have hat:∀(j:Nat) (a:AV),(ae o1 na1 xs1 nb1 ys1 nm1 n1 cs1)[j]? =some a→(jJ args)[i*7+j]? =some a:=fun j a h=>ko args i args[i] hx j a (by rw[hA];exact h)
  have c:=hp args[i] (List.getElem_mem hlt);rw[show dR args[i]= .agg (ae o1 na1 xs1 nb1 ys1 nm1 n1 cs1) from congrArg DV.agg hA]at c;refine kW ?_;refine bf (i:=i) (cs':=ae o1 na1 xs1 nb1 ys1 nm1 n1 cs1) hlt hat (Nat.zero_lt_succ 6) rfl rfl rfl rfl rfl rfl rfl rfl ?_;refine kO ?_;cases hb:p args[i]
  ·rw[hb]at c
   refine kQ (c) ?_;refine⟨i+1,?_,by omega,weak ⟨rfl,rfl,rfl,rfl,bc (by omega) (by omega),trivial⟩ trivial rfl⟩
   by_cases e:i=f
   ·subst e;have:=hy hlt;rw[hb]at this;cases this
   ·omega
  ·rw[hb]at c
   have e:i=f:=by
    by_cases e:i<f
    ·have:=hn i hlt e;rw[hb]at this;cases this
    ·omega
   subst e;rw[if_pos hlt];refine kC (c) ?_;exact kF
 ·rw[if_neg (by omega)]
  refine kE ?_;exact kF
theorem jL {fid:FuncId} {p:Rx→Bool} (args:List Rx) (hp:∀x∈args,ab Tryz.prog fid [dR x] (.one (dB (p x)))) (hl:args.length≤1000000) {b:Bool} (hb:args.any p=b):ab Tryz.prog 60 [.leaf (.sl args.length (jJ args)),dF fid] (.one (dB b)):=by
 have c:=t8 args hp hl
 have hlt:(args.findIdx p<args.length)↔args.any p=true:=by
  rw[List.any_eq_true];exact List.findIdx_lt_length
 cases b with
 |true=>
  rw[if_pos (hlt.2 hb)]at c;refine kU aa ac Tryz.func60 ?_;refine kW ?_;refine kC (c) ?_;refine kT ?_;exact kF
 |false=>
  rw[if_neg (fun h=>by rw[hlt.1 h]at hb;cases hb)]at c;refine kU aa ac Tryz.func60 ?_;refine kW ?_;refine kC (c) ?_;exact kF
theorem fR:ab Tryz.prog 59 [B7] (.one (dB true)):=by
 show ab Tryz.prog _ [.agg kK] _;refine kU aa ac Tryz.func59 ?_;exact kF
theorem jp {x:Rx} {b:Bool} (h:ab Tryz.prog 34 [dR x] (.one (dB b))):ab Tryz.prog 61 [dR x] (.one (dB (!b))):=by
 obtain⟨o1,na1,xs1,nb1,ys1,nm1,n1,cs1,hA⟩:=aX x;rw[show dR x= .agg (ae o1 na1 xs1 nb1 ys1 nm1 n1 cs1) from congrArg DV.agg hA]at h ⊢;cases b
 all_goals
  refine kU aa ac Tryz.func61 ?_;refine kW ?_;refine kC (h) ?_;exact kF
theorem I5 (a:Ex):jJ [rx a]=aE a:=by
 show aR (rx a)++[]=_;rw[List.append_nil];rfl
theorem Jc (a b:Ex):jJ [rx a,rx b]=aE a++aE b:=by
 show aR (rx a)++(aR (rx b)++[])=_;rw[List.append_nil];rfl
theorem iz:∀(e:Ex),jT e→ab Tryz.prog 34 [dE e] (.one (dB true))
 | .num v u,hf=>by
  obtain⟨h1,h2,h3⟩:=hf;obtain⟨t,c,ht⟩:=kH h2 (by decide);rw[h1]at c;show ab Tryz.prog _ [.agg ([.val (.int .i64 1)]++aQ v++[.val (vL u), .sl 0 []])] _
  by_cases hu:u=[]
  ·subst hu
   refine kU aa ac Tryz.func34 ?_;refine kW ?_;refine cG (i:=1) Tryz.underlying95 (by kernel_rfl) (by decide) rfl rfl rfl rfl rfl rfl ?_;refine kW ?_;refine kC (c) ?_;refine kG ?_
   iterate 4 refine kO ?_
   refine aO rfl rfl rfl rfl rfl rfl rfl (di (a:=[]) (b:=[]) rfl) ?_;exact kF
  ·have hn:=h3.resolve_left hu
   have ci:=jV u (by
    cases u with
    |nil=>exact absurd rfl hu
    |cons c r=>simp only[m4,Bool.and_eq_true,decide_eq_true_eq]at hn;omega)
   rw[hn]at ci;refine kU aa ac Tryz.func34 ?_;refine kW ?_;refine cG (i:=1) Tryz.underlying95 (by kernel_rfl) (by decide) rfl rfl rfl rfl rfl rfl ?_;refine kW ?_;refine kC (c) ?_;refine kG ?_
   iterate 4 refine kO ?_
   refine aO rfl rfl rfl rfl rfl rfl rfl (gE (a:=u) (b:=[]) hu) ?_
   iterate 3 refine kO ?_
   refine kC (ci) ?_;exact kF
 | .nam s,hf=>by
  have hn:m4 s=true:=hf
  have ci:=jV s (by
   cases s with
   |nil=>cases hn
   |cons c r=>simp only[m4,Bool.and_eq_true,decide_eq_true_eq]at hn;omega)
  rw[hn]at ci;show ab Tryz.prog _ [.agg ([.val (.int .i64 2)]++kK++[.val (vL s), .sl 0 []])] _;refine kU aa ac Tryz.func34 ?_;refine kW ?_;refine cG (i:=2) Tryz.underlying95 (by kernel_rfl) (by decide) rfl rfl rfl rfl rfl rfl ?_;refine kW ?_;refine kQ (fR) ?_;refine kC (ci) ?_;exact kF
 | .neg a,hf=>by
  have c:=jL (fid:=61) (p:=fun _=>false) [rx a] (fun x hx=>by
   cases List.mem_singleton.1 hx;exact jp (iz a hf)) (by simp) (b:=false) rfl
  rw[I5]at c;obtain⟨o1,na1,xs1,nb1,ys1,nm1,n1,cs1,hA⟩:=ar a;rw[show dE (.neg a)= .agg ([.val (.int .i64 3)]++kK++[.val (vL []), .sl 1 (aE a)]) from congrArg DV.agg (nd a)];rw[hA]at c ⊢;refine kU aa ac Tryz.func34 ?_;refine kW ?_;refine cG (i:=3) Tryz.underlying95 (by kernel_rfl) (by decide) rfl rfl rfl rfl rfl rfl ?_;refine kW ?_;refine kC (fR) ?_
  iterate 3 refine kO ?_
  refine aO rfl rfl rfl rfl rfl rfl rfl (di (a:=[]) (b:=[]) rfl) ?_;refine kW ?_;refine kC (c) ?_;exact kF
 | .bin k a b,hf=>by
  have c:=jL (fid:=61) (p:=fun _=>false) [rx a,rx b] (fun x hx=>by
   rcases List.mem_cons.1 hx with rfl|hx
   ·exact jp (iz a hf.1)
   ·cases List.mem_singleton.1 hx
    exact jp (iz b hf.2)) (by simp) (b:=false) rfl
  rw[Jc]at c;obtain⟨o1,na1,xs1,nb1,ys1,nm1,n1,cs1,hA⟩:=ar a;obtain⟨o2,na2,xs2,nb2,ys2,nm2,n2,cs2,hA2⟩:=ar b;rw[show dE (.bin k a b)= .agg ([.val (.int .i64 k.code)]++kK++[.val (vL []), .sl 2 (aE a++aE b)]) from congrArg DV.agg (fL k a b)];rw[hA,hA2]at c ⊢;cases k
  ·refine kU aa ac Tryz.func34 ?_
   refine kW ?_;refine cG (i:=4) Tryz.underlying95 (by kernel_rfl) (by decide) rfl rfl rfl rfl rfl rfl ?_;refine kW ?_;refine kC (fR) ?_
   iterate 3 refine kO ?_
   refine aO rfl rfl rfl rfl rfl rfl rfl (di (a:=[]) (b:=[]) rfl) ?_;refine kW ?_;refine kC (c) ?_;exact kF
  ·refine kU aa ac Tryz.func34 ?_
   refine kW ?_;refine cG (i:=5) Tryz.underlying95 (by kernel_rfl) (by decide) rfl rfl rfl rfl rfl rfl ?_;refine kW ?_;refine kC (fR) ?_
   iterate 3 refine kO ?_
   refine aO rfl rfl rfl rfl rfl rfl rfl (di (a:=[]) (b:=[]) rfl) ?_;refine kW ?_;refine kC (c) ?_;exact kF
  ·refine kU aa ac Tryz.func34 ?_
   refine kW ?_;refine cG (i:=6) Tryz.underlying95 (by kernel_rfl) (by decide) rfl rfl rfl rfl rfl rfl ?_;refine kW ?_;refine kC (fR) ?_
   iterate 3 refine kO ?_
   refine aO rfl rfl rfl rfl rfl rfl rfl (di (a:=[]) (b:=[]) rfl) ?_;refine kW ?_;refine kC (c) ?_;exact kF
  ·refine kU aa ac Tryz.func34 ?_
   refine kW ?_;refine cG (i:=7) Tryz.underlying95 (by kernel_rfl) (by decide) rfl rfl rfl rfl rfl rfl ?_;refine kW ?_;refine kC (fR) ?_
   iterate 3 refine kO ?_
   refine aO rfl rfl rfl rfl rfl rfl rfl (di (a:=[]) (b:=[]) rfl) ?_;refine kW ?_;refine kC (c) ?_;exact kF
theorem xD {e:Ex} (hf:jT e) (hw:po (rx e)) (hs:jN (rx e)≤1000000) (hd:ox (rx e)≤40):ab Tryz.prog 14 [dE e] (.one (dN .i64 0)):=by
 have c1:=iz e hf;have c2:ab Tryz.prog 24 [dE e] (.one (dN .i64 (ox (rx e)))):=qG (rx e) hw hs;obtain⟨o1,na1,xs1,nb1,ys1,nm1,n1,cs1,hA⟩:=ar e;rw[show dE e= .agg (ae o1 na1 xs1 nb1 ys1 nm1 n1 cs1) from congrArg DV.agg hA]at c1 c2 ⊢;refine kU aa ac Tryz.func14 ?_;refine kW ?_;refine kQ (c1) ?_;refine kC (c2) ?_;refine kE ?_;exact kF
theorem GX:∀(e:Ex),jT e→aj e 0≠[]
 | .num v u,hf=>by
  obtain⟨d,hd⟩:=Option.isSome_iff_exists.1 hf.1;show jq 4 0 (Bc v++iy u)≠[];rw[rn,Bc,hd];intro h;exact uy hd (List.append_eq_nil_iff.1 h).1
 | .nam s,hf=>by
  show jq 4 0 s≠[];rw[rn];intro h;subst h;cases hf
 | .neg a,hf=>by
  show jq 3 0 ([45]++aj a 3)≠[];rw[rn]
  simp
 | .bin k a b,hf=>by
  show jq (iA k) 0 (aj a (iA k)++bP k++aj b (iA k+1))≠[];rw[rn];cases k<;>simp[bP]
theorem oc {e:Ex} (hf:jT e) (hw:po (rx e)) (hs:jN (rx e)≤1000000) (hd:ox (rx e)≤40) (hl:(aj e 0).length≤65536):ab Tryz.prog 13 [dE e] (.tup [dL (aj e 0),dN .i64 0]):=by
 have c1:=xD hf hw hs hd;have c2:aw Tryz.prog 31 [.box 850 0, .d (dE e), .d (dN .i64 0)] Jv (.v (.tup [])) (E4 701 (aj e 0)):=((d9 e hf 0 (by decide)).w0 (by omega)).swap 950 850 rfl;have c3:=Gf (aj e 0) (by omega);have c4:=BG (aj e 0) (GX e hf);generalize aj e 0=t at *;obtain⟨o1,na1,xs1,nb1,ys1,nm1,n1,cs1,hA⟩:=ar e;rw[show dE e= .agg (ae o1 na1 xs1 nb1 ys1 nm1 n1 cs1) from congrArg DV.agg hA]at c1 c2 ⊢;refine kU aa ac Tryz.func13 ?_;refine kW ?_;refine kQ (c1) ?_;refine IH wI rfl rfl rfl rfl rfl rfl ?_;refine kW ?_;refine kD (c2) ?_;refine kW ?_;refine kD (c3) ?_;refine kY ?_;refine kD (c4) ?_;exact kF
def Gl (ts:List Tk):Prop:=∀t∈ts,(t.1=1→m4 t.2.1=true)∧(t.1=2→t.2.1.length≤500)
theorem Gl.sub {ts r:List Tk} (h:Gl ts) (hs:∀t∈r,t∈ts):Gl r:=fun t ht=>h t (hs t ht)
theorem EK {t:Tk} {r r2:List Tk} {e:Ex} (ht:t.2.1.length≤500) (hr:Gl r) (h:eg t r= .ok (e,r2)):jT e:=by
 unfold eg at h
 split at h
 ·cases h
 ·rename_i q hq
  split at h
  ·cases h
  ·rename_i d hd
   have h1:(fe q).isSome=true:=by rw[hd];rfl
   split at h
   ·rename_i v r'
    split at h
    ·rename_i hv
     cases h;exact⟨h1,ip ht hq, .inr ((hr v (by simp)).1 hv)⟩
    ·cases h;exact⟨h1,ip ht hq, .inl rfl⟩
   ·cases h;exact⟨h1,ip ht hq, .inl rfl⟩
theorem lB:∀(f:Nat) (m:Md) (ts:List Tk) (e:Ex) (r:List Tk),Gl ts→(∀two e0,m= .more two e0→jT e0)→pP f m ts=some (.ok (e,r))→jT e
 |0,_,_,_,_,_,_,h=>by cases h
 |f+1, .sum,ts,e,r,hs,hm,h=>by
  rw[fZ]at h
  split at h
  ·rename_i e1 r1 h1
   have a:=lB f _ _ _ _ hs (fun _ _ h=>by cases h) h1;exact lB f _ _ _ _ (hs.sub (fb f _ _ _ _ h1)) (fun _ _ h=>by cases h;exact a) h
  ·rename_i hn;exact absurd h (hn e r)
 |f+1, .prod,ts,e,r,hs,hm,h=>by
  rw[eR]at h
  split at h
  ·rename_i e1 r1 h1
   have a:=lB f _ _ _ _ hs (fun _ _ h=>by cases h) h1;exact lB f _ _ _ _ (hs.sub (fb f _ _ _ _ h1)) (fun _ _ h=>by cases h;exact a) h
  ·rename_i hn;exact absurd h (hn e r)
 |f+1, .more two e0,ts,e,r,hs,hm,h=>by
  rw[cu]at h
  split at h
  ·rename_i k r1 h0
   split at h
   ·rename_i e1 r2 h1
    have hs1:=hs.sub (qm h0);have a:=lB f _ _ _ _ hs1 (fun _ _ h=>by cases two<;>cases h) h1;exact lB f _ _ _ _ (hs1.sub (fb f _ _ _ _ h1)) (fun _ _ h=>by cases h;exact⟨hm two e0 rfl,a⟩) h
   ·rename_i hn;exact absurd h (hn e r)
  ·cases h;exact hm two _ rfl
 |f+1, .un,ts,e,r,hs,hm,h=>by
  rw[gn]at h
  split at h
  ·rename_i r1 h0
   split at h
   ·rename_i e1 r2 h1
    cases h;have a:=lB f .un _ _ _ (hs.sub (fD h0)) (fun _ _ h=>by cases h) h1;exact a
   ·rename_i hn;exact absurd h (hn e r)
  ·exact lB f .prim _ _ _ hs (fun _ _ h=>by cases h) h
 |f+1, .prim,ts,e,r,hs,hm,h=>by
  rw[dz]at h
  split at h
  ·rename_i r1 h0
   split at h
   ·rename_i e1 r2 h1
    split at h
    ·rename_i r3 h2
     cases h;exact lB f .sum _ _ _ (hs.sub (fD h0)) (fun _ _ h=>by cases h) h1
    ·cases h
   ·rename_i hn;exact absurd h (hn e r)
  ·split at h
   ·rename_i t r1 _
    split at h
    ·rename_i h2
     injection h with h
     exact EK ((hs t (by simp)).2 h2) (hs.sub (fun t ht=>List.mem_cons_of_mem _ ht)) h
    ·split at h
     ·rename_i h1
      cases h;exact(hs t (by simp)).1 h1
     ·cases h
   ·cases h
theorem Bv (p:UInt8→Bool):∀r:List UInt8,aV p (r.take (aV p r))=(r.take (aV p r)).length:=fun r=>by
 rw[gZ,Nat.min_self,List.length_take,Nat.min_eq_left (gt p r)]
theorem CQ {r:List UInt8} {n:Nat} (h:gK r=(1,n)) (hn:n≤24) (h0:0<n):m4 (r.take n)=true:=by
 cases r with
 |nil=>cases h
 |cons c r=>
  rw[gK]at h
  split at h
  ·rename_i hl
   cases h;have hs:=Bv fQ (c::r);generalize aV fQ (c::r)=n at *;obtain⟨n,rfl⟩:∃k,n=k+1:=⟨n-1,by omega⟩;rw[List.take_succ_cons]at hs ⊢;have hlen:(c::r.take n).length≤n+1:=by simp;omega
   simp only[m4,Bool.and_eq_true,decide_eq_true_eq]
   exact⟨by omega,hl,hs⟩
  ·split at h
   ·cases h
   ·split at h
    ·cases h
    ·split at h
     ·cases h
     ·split at h<;>cases h
theorem uE:∀(f:Nat) (r:List UInt8) (at_:Nat) (acc L:List Tk),cU f r at_ acc= .ok L→(∀t∈acc,t.1=1→m4 t.2.1=true)→ ∀t∈L,t.1=1→m4 t.2.1=true
 |0,_,_,_,_,h,_=>by cases h
 |f+1,[],at_,acc,L,h,ha=>by
  rw[cU]at h;cases h;intro t ht h1;rcases List.mem_append.1 ht with ht|ht
  ·exact ha t ht h1
  ·cases List.mem_singleton.1 ht;cases h1
 |f+1,c::r,at_,acc,L,h,ha=>by
  rw[cU]at h
  split at h
  ·exact uE f _ _ _ _ h ha
  ·split at h
   ·cases h
   ·rename_i hn
    split at h
    ·cases h
    ·rename_i hk
     refine uE f _ _ _ _ h ?_;intro t ht h1;rcases List.mem_append.1 ht with ht|ht
     ·exact ha t ht h1
     ·cases List.mem_singleton.1 ht
      have h1:(gK (c::r)).1=1:=h1
      exact CQ (Prod.ext h1 rfl) (by
       by_cases h24:24<(gK (c::r)).2
       ·exact absurd ⟨h1,h24⟩ hk
       ·omega) (by omega)
theorem uz {s:List UInt8} (hl:s.length≤500) {e:Ex} (h:jW s= .ok e):jT e∧po (rx e)∧jN (rx e)≤501∧ox (rx e)≤40:=by
 have hsp:=gT (s.length+1) s 0 [] (Nat.lt_succ_self _)
 have key:∀(T:List Tk) (b:Int) (E:Nat),Gl T→(∀t∈T,t.2.1.length≤65536)→T.length≤501→gQ T b E= .ok e→jT e∧po (rx e)∧jN (rx e)≤501∧ox (rx e)≤40:=fun T b E hN hT hlen hf=>by
  unfold gQ at hf
  split at hf
  ·rename_i e1 t r hp
   split at hf
   ·cases hf
   ·split at hf
    ·cases hf
    ·split at hf
     ·rename_i hd
      cases hf;have a:=ig _ _ _ _ _ hT (fun _ _ h=>by cases h) hp;have:=a.2.2;dsimp only at this;exact⟨lB _ _ _ _ _ hN (fun _ _ h=>by cases h) hp,a.1,by omega,hd⟩
     ·cases hf
  ·cases hf
  ·cases hf
 have hN:∀(u:List UInt8) (T:List Tk) (E:Nat),u.length≤500→cU (u.length+1) u 0 []= .ok T→Gl T∧(∀t∈T,t.2.1.length≤65536)∧T.length≤501:=fun u T E hu hT=>by
  have h1:=gT (u.length+1) u 0 [] (Nat.lt_succ_self _);rw[hT]at h1;obtain⟨T',_,h2,h3⟩:=h1;rw[List.nil_append]at h2;subst h2;have h4:=iZ _ _ _ _ _ hT
  simp only[List.length_nil]at h4
  exact⟨fun t ht=>⟨uE _ _ _ _ _ hT (fun t ht=>by cases ht) t ht,fun _=>Nat.le_trans (h3.s t ht) hu⟩,fun t ht=>Nat.le_trans (h3.s t ht) (by omega),by omega⟩
 unfold jW at h;cases hR:cU (s.length+1) s 0 []with
 |ok T=>
  rw[hR]at h;obtain⟨h1,h2,h3⟩:=hN s T 0 hl hR;exact key T 0 s.length h1 h2 h3 h
 |error z=>
  obtain⟨a,b⟩:=z;rw[hR]at h;dsimp only at h;cases hR2:cU ((s.take a).length+1) (s.take a) 0 []with
  |ok T=>
   rw[hR2]at h;obtain⟨h1,h2,h3⟩:=hN (s.take a) T 0 (by rw[List.length_take];omega) hR2;exact key T b a h1 h2 h3 h
  |error z=>rw[hR2]at h;cases h
theorem vM {na nb:Bool} {xs ys:List Nat} (hl:xs.length≤2147483648) (hl':ys.length≤2147483648):ab Tryz.prog 46 [Gy na xs nb ys,Gy na xs nb ys] (.one (dB true)):=by
 have c1:ab Tryz.prog 79 [dI na xs,dI na xs] (.one (dB true)):=ly hl (mE rfl);have c2:ab Tryz.prog 79 [dI nb ys,dI nb ys] (.one (dB true)):=ly hl' (mE rfl);refine kU aa ac Tryz.func46 ?_;refine kW ?_;refine kQ (c1) ?_;refine kC (c2) ?_;exact kF
inductive IA:Rx→Prop
 |mk {op:Int} {na:Bool} {xs:List Nat} {nb:Bool} {ys:List Nat} {nm:List UInt8} {args:List Rx}:xs.length≤2147483648→ys.length≤2147483648→args.length≤1000000→(∀x∈args,IA x)→IA (.mk op na xs nb ys nm args)
theorem jT.lw:∀(e:Ex),jT e→IA (rx e)
 | .num v u,h=> .mk (Nat.le_trans h.2.1.1.digs (by decide)) (Nat.le_trans h.2.1.2.digs (by decide)) (by simp) (fun x hx=>by cases hx)
 | .nam s,h=> .mk (by simp) (by simp) (by simp) (fun x hx=>by cases hx)
 | .neg a,h=> .mk (by simp) (by simp) (by simp) (fun x hx=>by cases List.mem_singleton.1 hx;exact jT.lw a h)
 | .bin k a b,h=> .mk (by simp) (by simp) (by simp) (fun x hx=>by
  rcases List.mem_cons.1 hx with rfl|hx
  ·exact jT.lw a h.1
  ·cases List.mem_singleton.1 hx;exact jT.lw b h.2)
theorem gb:∀(x:Rx),IA x→ab Tryz.prog 18 [dR x,dR x] (.one (dB true)):=by
 refine ij fun op na xs nb ys nm args ih hx=>?_
 obtain⟨h1,h2,h3,h4⟩:=hx;have cs:=vM (na:=na) (nb:=nb) h1 h2;show ab Tryz.prog _ [.agg (ae op na xs nb ys nm args.length (jJ args)), .agg (ae op na xs nb ys nm args.length (jJ args))] _;refine kU aa ac Tryz.func18 ?_;refine kR ?_;refine kI ?_
 iterate 4 refine kO ?_
 refine kB false ?_ ?_
 ·exact(by simp)
 iterate 5 refine kO ?_
 refine aO rfl rfl rfl rfl rfl rfl rfl (gk (a:=nm) (b:=nm) rfl) ?_
 iterate 8 refine kO ?_
 refine kB false ?_ ?_
 ·exact(by simp)
 iterate 6 refine kO ?_
 refine kQ (cs) ?_
 refine bh Nat (fun i=>i≤args.length) (fun i=>⟨[(2, .box 0 0),(3, .box 1 0),(4, .d (dB false)),(5, .d (dN .i64 i))],[(0,some (ae op na xs nb ys nm args.length (jJ args))),(1,some (ae op na xs nb ys nm args.length (jJ args)))]⟩) (fun i=>args.length-i) 0 (Nat.zero_le _)
  (weak ⟨rfl,rfl,rfl,rfl,trivial⟩ ⟨rfl,rfl,trivial⟩ rfl) ?_
 intro i hi;refine kI ?_
 iterate 4 refine kO ?_
 by_cases hlt:i<args.length
 ·refine kT ?_
  obtain⟨o1,na1,xs1,nb1,ys1,nm1,n1,cs1,hA⟩:=aX args[i];have hx:args[i]? =some args[i]:=by simp[hlt]
  have hat:∀(j:Nat) (a:AV),(ae o1 na1 xs1 nb1 ys1 nm1 n1 cs1)[j]? =some a→(jJ args)[i*7+j]? =some a:=fun j a h=>ko args i args[i] hx j a (by rw[hA];exact h)
  have c:=ih args[i] (List.getElem_mem hlt) (h4 _ (List.getElem_mem hlt));rw[show dR args[i]= .agg (ae o1 na1 xs1 nb1 ys1 nm1 n1 cs1) from congrArg DV.agg hA]at c;refine kW ?_;refine bf (i:=i) (cs':=ae o1 na1 xs1 nb1 ys1 nm1 n1 cs1) hlt hat (Nat.zero_lt_succ 6) rfl rfl rfl rfl rfl rfl rfl rfl ?_;refine kW ?_;refine bf (i:=i) (cs':=ae o1 na1 xs1 nb1 ys1 nm1 n1 cs1) hlt hat (Nat.zero_lt_succ 6) rfl rfl rfl rfl rfl rfl rfl rfl ?_;refine kW ?_;refine kQ (c) ?_;exact⟨i+1,hlt,by omega,weak ⟨rfl,rfl,rfl,bc (by omega) (by omega),trivial⟩ ⟨rfl,rfl,trivial⟩ rfl⟩
 ·refine kE ?_
  exact kF
theorem F0 (c:UInt8) (h:cX c) (h0:c≠48):ic false [c]:=⟨by simp,fun x hx=>by cases List.mem_singleton.1 hx;exact h, .inl fun x r hr=>by cases hr;exact h0⟩
theorem GK (c:UInt8) (h:cX c) (h0:c≠48) (hb:re c=true):eZ [c]=some ((num [c]:Int):Rat):=by
 have e1:ey [c]=[c]:=by simp[ey,hb]
 have e2:iw [c]=[]:=by simp[iw,hb]
 unfold eZ;rw[e1,e2,if_pos (F0 c h h0)]
theorem vf (c:UInt8) (h:cX c) (h0:c≠48) (hb:re c=true) (h45:c≠45):bF [c]=some ((num [c]:Int):Rat):=by
 have e3:dx [c]=[c]:=by simp[dx,h45]
 have e4:bU [c]=false:=by simp[bU,h45]
 unfold bF;rw[if_pos (by simp),e3,GK c h h0 hb,e4];rfl
theorem Jq:bF [50]=some ((2:Int):Rat):=vf 50 (by decide) (by decide) (by decide) (by decide)
theorem Jw:bF [49]=some ((1:Int):Rat):=vf 49 (by decide) (by decide) (by decide) (by decide)
theorem Iw:bF [48,48,55]=none:=by
 have e3:dx [48,48,55]=[48,48,55]:=rfl;have e1:ey [48,48,55]=[48,48,55]:=rfl
 have hp:eZ [48,48,55]=none:=by
  unfold eZ;rw[e1,if_neg];rintro⟨_,_,h|h⟩
  ·exact h 48 [48,55] rfl rfl
  ·cases h.1
 unfold bF;rw[if_pos (by simp),e3,hp]
def xV:Rat:=Rat.divInt 250 100
theorem I3:bF [50,46,53,48]=some xV:=by
 have e3:dx [50,46,53,48]=[50,46,53,48]:=rfl;have e1:ey [50,46,53,48]=[50]:=rfl;have e2:iw [50,46,53,48]=[46,53,48]:=rfl
 have hp:eZ [50,46,53,48]=some xV:=by
  unfold eZ;rw[e1,e2,if_pos (F0 50 (by decide) (by decide))];dsimp only;rw[if_pos rfl,if_pos ⟨by simp,by decide⟩];rfl
 unfold bF;rw[if_pos (by simp),e3,hp];rfl
theorem Jd:fmt 2=[50]:=by
 unfold fmt;rw[if_neg (by decide),if_neg (by decide)];show []++kP 2=_;rw[dA (by decide)];show []++(kP 0++[dg 2])=_;rw[dM];rfl
theorem Jf:fmt 1=[49]:=by
 unfold fmt;rw[if_neg (by decide),if_neg (by decide)];show []++kP 1=_;rw[dA (by decide)];show []++(kP 0++[dg 1])=_;rw[dM];rfl
theorem Iq:fmt 25=[50,53]:=by
 unfold fmt;rw[if_neg (by decide),if_neg (by decide)];show []++kP 25=_;rw[dA (by decide)];show []++(kP 2++[dg 5])=_;rw[dA (by decide)];show []++(kP 0++[dg 2]++[dg 5])=_;rw[dM];rfl
theorem Js:fe ((2:Int):Rat)=some [50]:=by
 unfold fe;rw[if_neg (by decide),jH,if_pos (by rfl),show(pw ((2:Int):Rat) 0).num=2 from rfl,Jd];rfl
theorem Jy:fe ((1:Int):Rat)=some [49]:=by
 unfold fe;rw[if_neg (by decide),jH,if_pos (by rfl),show(pw ((1:Int):Rat) 0).num=1 from rfl,Jf];rfl
theorem EP:xV.den=2:=by kernel_rfl
theorem Ef:(xV*((10:Int):Rat)).den=1∧(xV*((10:Int):Rat)).num=25:=⟨by kernel_rfl,by kernel_rfl⟩
theorem HO:fe xV=some [50,46,53]:=by
 have e0:pw xV 0=xV:=rfl;have e1:pw xV 1=xV*((10:Int):Rat):=rfl;unfold fe;rw[if_neg (show ¬BH xV<0 by show ¬BH (Rat.divInt 250 100)<0;rw[A0 (by decide)];decide),jH,e0,EP,if_neg (by decide),jH,Nat.zero_add,e1,Ef.1,Ef.2,if_pos (by decide),Iq];rfl
theorem FX:IA z7:= .mk (by simp) (by simp) (by simp) (fun x hx=>by cases hx)
def sA:List UInt8:=[97,32,45,32,40,98,32,45,32,99,41,32,42,32,50,46,53,48,32,109,109]
def eA:Ex:= .bin .sub (.nam [97]) (.bin .mul (.bin .sub (.nam [98]) (.nam [99])) (.num xV [109,109]))
def TA:List Tk:=[(1,[97],0),(4,[45],2),(4,[40],4),(1,[98],5),(4,[45],7),(1,[99],9),(4,[41],10),(4,[42],12),(2,[50,46,53,48],14),(1,[109,109],19),(0,[],21)]
theorem tA:cU (sA.length+1) sA 0 []= .ok TA:=by rfl
theorem nA:eg (2,[50,46,53,48],14) [(1,[109,109],19),(0,[],21)]= .ok (.num xV [109,109],[(0,[],21)]):=by
 unfold eg;rw[I3];dsimp only;rw[HO];rfl
theorem pA:pP 60 .sum TA=some (.ok (eA,[(0,[],21)])):=by
 simp[fZ,eR,gn,dz,cu,a7,eF,iT,d4,nA,TA,eA]
def IU:List UInt8:=[97,32,43,32]
def TB:List Tk:=[(1,[97],0),(4,[43],2),(0,[],4)]
theorem tB:cU (IU.length+1) IU 0 []= .ok TB:=by rfl
theorem pB:pP 20 .sum TB=some (.error (4,2)):=by
 simp[fZ,eR,gn,dz,cu,a7,eF,iT,d4,TB]
def sC:List UInt8:=[50,32,109,109,32,120]
def TC:List Tk:=[(2,[50],0),(1,[109,109],2),(1,[120],5),(0,[],6)]
theorem tC:cU (sC.length+1) sC 0 []= .ok TC:=by rfl
theorem nC:eg (2,[50],0) [(1,[109,109],2),(1,[120],5),(0,[],6)]= .ok (.num ((2:Int):Rat) [109,109],[(1,[120],5),(0,[],6)]):=by
 unfold eg;rw[Jq];dsimp only;rw[Js];rfl
theorem pC:pP 25 .sum TC=some (.ok (.num ((2:Int):Rat) [109,109],[(1,[120],5),(0,[],6)])):=by
 simp[fZ,eR,gn,dz,cu,a7,eF,iT,d4,nC,TC]
def sD:List UInt8:=[49,32,43,32,48,48,55]
def TD:List Tk:=[(2,[49],0),(4,[43],2),(2,[48,48,55],4),(0,[],7)]
theorem tD:cU (sD.length+1) sD 0 []= .ok TD:=by rfl
theorem Jp:eg (2,[49],0) [(4,[43],2),(2,[48,48,55],4),(0,[],7)]= .ok (.num ((1:Int):Rat) [],[(4,[43],2),(2,[48,48,55],4),(0,[],7)]):=by
 unfold eg;rw[Jw];dsimp only;rw[Jy];rfl
theorem Jr:eg (2,[48,48,55],4) [(0,[],7)]= .error (4,2):=by
 unfold eg;rw[Iw]
theorem pD:pP 25 .sum TD=some (.error (4,2)):=by
 simp[fZ,eR,gn,dz,cu,a7,eF,iT,d4,Jp,Jr,TD]
theorem Ib:jW sA= .ok eA:=by
 unfold jW;rw[tA];show gQ TA 0 21=_;unfold gQ;rw[show 5*TA.length+5=60 from rfl,pA];rfl
theorem IZ:jW IU= .error (4,2):=by
 unfold jW;rw[tB];show gQ TB 0 4=_;unfold gQ;rw[show 5*TB.length+5=20 from rfl,pB];rfl
theorem I2:jW sC= .error (5,2):=by
 unfold jW;rw[tC];show gQ TC 0 6=_;unfold gQ;rw[show 5*TC.length+5=25 from rfl,pC];rfl
theorem Je:jW sD= .error (4,2):=by
 unfold jW;rw[tD];show gQ TD 0 7=_;unfold gQ;rw[show 5*TD.length+5=25 from rfl,pD];rfl
theorem Jk:aj eA 0=[97,32,45,32,40,98,32,45,32,99,41,32,42,32,50,46,53,32,109,109]:=by
 have e:Bc xV=[50,46,53]:=by rw[Bc,HO];rfl
 simp[eA,aj,jq,iA,bP,iy,e]
theorem bv:ab Tryz.prog 10 [] (.one (dB true)):=by
 have cA:=(nF sA (by decide)).1;rw[Ib]at cA;have cB:=(nF IU (by decide)).1;rw[IZ]at cB;have cC:=(nF sC (by decide)).1;rw[I2]at cC;have cD:=(nF sD (by decide)).1;rw[Je]at cD;have hA:=uz (s:=sA) (by decide) Ib;have cF:=oc hA.1 hA.2.1 (by omega) hA.2.2.2 (by rw[Jk];decide);rw[Jk]at cF;have cN:=jV [109,109] (by decide);obtain⟨o1,na1,xs1,nb1,ys1,nm1,n1,cs1,hA1⟩:=ar (.nam [97]);obtain⟨o2,na2,xs2,nb2,ys2,nm2,n2,cs2,hA2⟩:=ar (.bin .mul (.bin .sub (.nam [98]) (.nam [99])) (.num xV [109,109]))
 have ho:o2=6:=by
  have h:=congrArg (fun l:List AV=>l[0]?) hA2
  injection h with h;injection h with h;injection h with _ h;exact h.symm
 subst ho;have hE:dE eA= .agg ([.val (.int .i64 5)]++kK++[.val (vL []), .sl 2 (ae o1 na1 xs1 nb1 ys1 nm1 n1 cs1++ae 6 na2 xs2 nb2 ys2 nm2 n2 cs2)]):=by rw[← hA1,← hA2];exact congrArg DV.agg (fL .sub _ _)
 unfold gv at cA cB cC cD;dsimp only at cA cB cC cD;rw[hE]at cA cF;refine kU aa ac Tryz.func10 ?_;refine kW ?_;refine kQ (cA) ?_;refine kQ (cF) ?_;refine kQ (cB) ?_;refine kQ (cC) ?_;refine kC (cD) ?_;refine kG ?_
 iterate 8 refine kO ?_
 refine aO rfl rfl rfl rfl rfl rfl rfl (di (a:=[97,32,45,32,40,98,32,45,32,99,41,32,42,32,50,46,53,32,109,109]) (b:=[97,32,45,32,40,98,32,45,32,99,41,32,42,32,50,46,53,32,109,109]) rfl) ?_;refine kW ?_;refine bf (i:=1) (cs':=ae 6 na2 xs2 nb2 ys2 nm2 n2 cs2) (by decide) (de _ rfl) (Nat.zero_lt_succ 6) rfl rfl rfl rfl rfl rfl rfl rfl ?_;refine kW ?_;refine kC (cN) ?_;exact kF
end Go.Proofs.YtikbnnljjeefgaaGreatDoor
