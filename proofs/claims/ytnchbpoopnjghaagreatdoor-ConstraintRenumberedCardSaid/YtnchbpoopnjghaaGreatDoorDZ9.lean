/- Parts of a proof: contracts of the functions that the laws reach. -/
import Derived.Test.YtnchbpoopnjghaaGreatDoorDZ8
set_option maxHeartbeats 100000000
set_option linter.all false
open Go.Proofs.Tryz
namespace Go.Proofs.YtnchbpoopnjghaaGreatDoor
open Go.RowKit
theorem mC {P:Program} {w:World} (t u ty:TypeId) (e:TypeId) (i:TypeInfo) (ht:P.underlying t=some (.slice e)) (hu:P.underlying u=some .string) (hi:P.info? e=some i) (hz:i.zero=some (.int .u8 0))
 (hsize:i.size=1) (hby:i.bytes=1)
 (v:Value) (n:Nat) (xs:List Value) (hown:w.ownsRow 0 e 1 v n xs) (s:ByteArray)
 (hm:0<s.size) (h63:n+s.size<=maxLen) (hbytes:n+s.size<=140737488355328):
 ∃g cap w',(Builtin.append_ #[t,u] ty #[v, .string s]).run P w= .ok (.slice (some ⟨g,0,none⟩) (n+s.size) cap) w' /\
  w'.ownsRow 0 e 1 (.slice (some ⟨g,0,none⟩) (n+s.size) cap) (n+s.size) (xs++Lib.strCells s)/\w.grownBy w' v.ownBlock/\(v.ownBlock=some g∨g=w.heap.size)/\g<w'.heap.size /\
  (v.ownBlock≠some g-> ∀b,b<w.heap.size->w'.heap[b]? =w.heap[b]?) /\
  (∀arr,v.ownBlock=some g->w.heap[g]? =some (.cells arr e (0,0))-> ∀cur,w'.heap[g]? =some (.cells cur e (0,0))->cur.size=arr.size) /\
  (∀(p:Value->Prop),p (.int .u8 0)->(∀u∈Lib.strCells s,p u)->(∀b,v.ownBlock=some b-> ∀arr,w.heap[b]? =some (.cells arr e (0,0))-> ∀u∈arr.toList,p u)-> ∀cur,w'.heap[g]? =some (.cells cur e (0,0))-> ∀u∈cur.toList,p u):=by
 have hsmall:n+s.size<=9223372036854775807:=by simp only[maxLen]at h63;omega
 have hxl:xs.length=n:=by simpa using hown.1
 have hsl:(Lib.strCells s).length=s.size:=Lib.strCells_length s;have hlen:(xs++Lib.strCells s).length=(n+s.size)*1:=by rw[List.length_append,hxl,hsl,Nat.mul_one]
 have pz:∀(p:Value->Prop) k,p (.int .u8 0)-> ∀u∈(Builtin.zeroCells (Value.int .u8 0).cells k).toList,p u:=by
  intro p k hp u hu;obtain⟨q,hq⟩:=List.getElem?_of_mem hu;obtain⟨hql,hqe⟩:=(List.getElem?_eq_some_iff.1 hq)
  simp only[Builtin.zeroCells]at hqe hql
  rw[<- hqe];have hc:(Value.int IntKind.u8 0).cells= #[.int .u8 0]:=rfl
  simp only[Array.getElem_toList,Array.getElem_map,Array.getElem_range,hc]
  have h1:(#[Value.int IntKind.u8 0]:Array Value).size=1:=rfl;have h2:q%(#[Value.int IntKind.u8 0]:Array Value).size=0:=by rw[h1];omega
  rw[h2];exact hp
 have grown:∀(old:Nat),old<n+s.size-> ∀(row:Option Nat),
  (w.drew.alloc (.cells (xs.toArray++(Lib.strCells s).toArray++Builtin.zeroCells (Value.int .u8 0).cells (grownCap w (n+s.size) old e-(n+s.size))) e)).ownsRow 0 e 1
   (.slice (some ⟨w.heap.size,0,none⟩) (n+s.size) (grownCap w (n+s.size) old e)) (n+s.size) (xs++Lib.strCells s) /\
  w.grownBy (w.drew.alloc (.cells (xs.toArray++(Lib.strCells s).toArray++Builtin.zeroCells (Value.int .u8 0).cells (grownCap w (n+s.size) old e-(n+s.size))) e)) row:=by
  intro old ho row;have hge:=grownCap_ge w (n+s.size) old e;have hcm:grownCap w (n+s.size) old e<=maxLen:=grownCap_le_maxLen w (n+s.size) old e h63;refine⟨⟨hlen, .inr ⟨w.heap.size,_,_,rfl,Nat.zero_le _,heap_alloc_new w.drew _,hge,hcm,?_,?_⟩⟩,⟨rfl,rfl,rfl,by simp,fun k hk _=>Below.heap_alloc w.drew _ k hk⟩⟩
  ·have hz1:(Value.int IntKind.u8 0).cells.size=1:=rfl
   simp only[Array.size_append,List.size_toArray,size_zeroCells,hz1,hxl,hsl]
   omega
  ·simp only[Array.toList_append,List.append_assoc]
   rw[<- List.append_assoc,<- hlen];exact List.take_left
 have fresh:∀(old:Nat) (p:Value->Prop),p (.int .u8 0)->(∀u∈Lib.strCells s,p u)->(∀u∈xs,p u)-> ∀cur,(w.drew.alloc (.cells (xs.toArray++(Lib.strCells s).toArray++Builtin.zeroCells (Value.int .u8 0).cells (grownCap w (n+s.size) old e-(n+s.size))) e)).heap[w.heap.size]? =some (.cells cur e (0,0))-> ∀u∈cur.toList,p u:=by
  intro old p h2 h3 h4 cur hc u hu;have h5:=heap_alloc_new w.drew (.cells (xs.toArray++(Lib.strCells s).toArray++Builtin.zeroCells (Value.int .u8 0).cells (grownCap w (n+s.size) old e-(n+s.size))) e);have h6:(w.drew.alloc (.cells (xs.toArray++(Lib.strCells s).toArray++Builtin.zeroCells (Value.int .u8 0).cells (grownCap w (n+s.size) old e-(n+s.size))) e)).heap[w.heap.size]? =some (.cells (xs.toArray++(Lib.strCells s).toArray++Builtin.zeroCells (Value.int .u8 0).cells (grownCap w (n+s.size) old e-(n+s.size))) e (0,0)):=h5;rw[h6]at hc
  simp only[Option.some.injEq,Obj.cells.injEq]at hc
  rw[<- hc.1]at hu
  simp only[Array.toList_append,List.mem_append]at hu
  rcases hu with(hu|hu)|hu
  ·exact h4 u (by simpa using hu)
  ·exact h3 u (by simpa using hu)
  ·exact pz p _ h2 u hu
 rcases hown.2 with⟨rfl,rfl⟩| ⟨g,cap,cur,rfl,hbg,hg,hnc,hcm,hcs,htake⟩
 ·have hx:xs=[]:=List.eq_nil_of_length_eq_zero hxl
  subst hx;have hr:=run_append_nil_string (P:=P) w t u ty e i (.int .u8 0) ht hu hi hz s hm (by omega) (by rw[hby];omega);have hgr:=grown 0 (by omega) (Value.ownBlock (.slice none 0 0));have hfr:=fresh 0
  simp only[Nat.zero_add,List.nil_append,Array.empty_append]at hgr hfr ⊢
  have e1:(s.data.map fun b=>Value.int .u8 b.toNat)=(Lib.strCells s).toArray:=by
   apply Array.ext'
   simp[Lib.strCells]
  rw[e1]at hr;refine⟨_,_,_,hr,hgr.1,hgr.2,Or.inr rfl,?_,fun _ b hb=>Below.heap_alloc w.drew _ b hb,fun _ h=>by simp[Value.ownBlock]at h,fun p h2 h3 _=>hfr p h2 h3 (fun u hu=>by cases hu)⟩;show w.heap.size<(w.heap.push _).size
  simp
 ·by_cases hroom:n+s.size<=cap
  ·have hcs':cur.size=cap:=by simpa using hcs
   have hr:=Lib.run_append_room_string (P:=P) w t u ty e i ht hu hi hsize g n cap cur hg s hroom (by omega);have hset:=setRow_heap w g cur (cur.toList.take n++Lib.strCells s++cur.toList.drop (n+s.size)).toArray e (0,0) hg;refine⟨g,cap,_,hr,⟨hlen, .inr ⟨g,cap,_,rfl,hbg,hset,hroom,hcm,?_,?_⟩⟩,⟨rfl,rfl,rfl,by simp,fun k _ hk=>setRow_other w g k _ (fun e=>hk (by simp[Value.ownBlock,e]))⟩,Or.inl rfl,?_,fun h=>absurd rfl h,?_,?_⟩
   ·exact OC
   ·have ht':cur.toList.take n=xs:=by simpa using htake
    rw[ht',<- hlen];exact List.take_left
   ·exact(Array.getElem?_eq_some_iff.1 hset).1
   ·intro arr _ harr cur' hc
    rw[hset]at hc;rw[hg]at harr
    simp only[Option.some.injEq,Obj.cells.injEq]at hc harr
    rw[<- hc.1,<- harr.1];exact OC
   ·intro p _ h3 h4 cur' hc u hu
    rw[hset]at hc
    simp only[Option.some.injEq,Obj.cells.injEq]at hc
    rw[<- hc.1]at hu
    simp only[List.mem_append]at hu
    have hold:=h4 g rfl cur hg;rcases hu with(hu|hu)|hu
    ·exact hold u (List.mem_of_mem_take hu)
    ·exact h3 u hu
    ·exact hold u (List.mem_of_mem_drop hu)
  ·have holds:∀j u,xs[j]? =some u->w.cell? ((⟨g,0,none⟩:Addr).add j)=some u:=hown.cells (g:=g) rfl
   have hr:=Lib.run_append_grow_string (P:=P) w t u ty e i (.int .u8 0) ht hu hi hz ⟨g,0,none⟩ n cap xs (by rw[hsize];simpa using hxl) holds s (by omega) (by omega) (by rw[hby];exact growslice_fits (by omega) (by omega));have hgr:=grown cap (by omega) (Value.ownBlock (.slice (some ⟨g,0,none⟩) n cap));have hgl:g<w.heap.size:=(Array.getElem?_eq_some_iff.1 hg).1
   refine⟨_,_,_,hr,hgr.1,hgr.2,Or.inr rfl,?_,fun _ b hb=>Below.heap_alloc w.drew _ b hb,fun arr h=>?_,fun p h2 h3 h4=>fresh cap p h2 h3 (fun u hu=>h4 g rfl cur hg u ?_)⟩
   ·show w.heap.size<(w.heap.push _).size
    simp
   ·simp only[Value.ownBlock,Option.some.injEq]at h
    omega
   ·rw[<- htake]at hu
    exact List.mem_of_mem_take hu
def pO (l:List UInt8):List AV:=l.map fun c=>AV.val (.int .u8 c.toNat)
theorem Cy (l:List UInt8):(pO l).length=l.length:=by simp[pO]
theorem KZ (l m:List UInt8):pO (l++m)=pO l++pO m:=by simp[pO]
theorem uo (l:List UInt8):Lib.strCells (Bs l)=l.map fun c=>Value.int .u8 c.toNat:=by
 simp[Lib.strCells,Bs]
theorem R1 (S:Nat->Prop) (w:World) (l:List UInt8):CM S w (pO l) (Lib.strCells (Bs l)):=by
 rw[uo];refine⟨by simp[pO],fun i a v h1 h2=>?_⟩
 simp only[pO,List.getElem?_map,Option.map_eq_some_iff]at h1 h2
 obtain⟨c,h3,rfl⟩:=h1;obtain⟨c',h4,rfl⟩:=h2;rw[h3]at h4;cases h4;exact .val rfl
section
variable {P:Program} {T:TypeId->Option Ty} {n:Nat} {ops:Array Oper} {id:Nat} {draw:Bool} {K:AS->Prop} {s:AS} {k:Nat} {o:Oper} {os:List Oper} {fps:List FP}
structure GJ (P:Program) (t u e:TypeId):Prop where
 sl:P.underlying t=some (.slice e)
 str:P.underlying u=some .string
 inf:∃i,P.info? e=some i/\i.zero=some (.int .u8 0)/\i.size=1/\i.bytes=1
theorem Gd (j':Nat) {d:Nat} {x y:Operand} {t u et m1 m:Nat} {dead:Option Nat} {cs cs':List AV} {l:List UInt8} (em:m1+l.length=m) (ec:cs.take (m1*1)++pO l=cs') (hbt:GJ P t u et) (hm:l≠[]) (hb:m1+l.length<=140737488355328) (h0:draw=false) (h1:gd ops s o=some true) (ho:o.op= .call ⟨.builtin .append,#[x,y],#[t,u]⟩) (hd:o.dst=some d) (h3:aG n o.dst=true)
 (hbase:eU s x m1 1 et dead cs) (hy:s.ev y= .d (.leaf (.val (vL l)))) (hnew:fc s j'=true) (hcl:iV dead=true)
 (h:aq P T n ops id draw K (k+1) os ⟨(d, .own j' m 1 et)::s.t,(j',some cs')::eH dead s.b⟩ (az ops o ⟨.junk,none⟩ []::fps)):aq P T n ops id draw K k (o::os) s fps:=by
 subst em ec;refine .snd h0 h1 (fun S0 w0 g a w K' Q hM hK=>?_) h;obtain⟨i,hi,hz,his,hib⟩:=hbt.inf;obtain⟨v,hxv,olds,hown,hblk,hcln,holds⟩:=rO hM hbase;have hyv:=bh hM hy;have hsz:(Bs l).size=l.length:=aB l;have hpos:0<(Bs l).size:=by rw[hsz];exact List.length_pos_iff.2 hm
 obtain⟨B,cap,w',hr,h2,h3',h4,_,h5,h6,h7⟩:=mC (P:=P) (w:=w) t u o.type et i hbt.sl hbt.str hi hz his hib v m1 olds hown (Bs l) hpos (by unfold maxLen;omega) (by omega);rw[hsz]at hr h2
 have:=qa (d:=d) hM (dx h3 d hd) hbase (xs:=pO l) (m2:=l.length) (by rw[Cy];omega) (bt hnew) (kp hnew) hown hblk hcln holds (R1 _ _ l) h2 h3' h4 h5 h6 (fun hwf cur hc u' hu=>by
  refine h7 (fun u=>fR u=true) rfl (fun u hu=>?_) (fun b hb arr har u hu=>?_) cur hc u' hu
  ·rw[uo]at hu
   obtain⟨c,_,rfl⟩:=List.mem_map.1 hu;rfl
  ·obtain⟨j,hj,rfl⟩:=hblk b hb
   obtain⟨_,arr',h11,h12⟩:=hcln j hj;rw[h11]at har
   simp only[Option.some.injEq,Obj.cells.injEq]at har
   obtain⟨rfl,_⟩:=har;rw[hj]at hcl;exact h12 (by simpa[iV]using hcl) u hu)
 unfold Oper.wp execOp
 simp only[ho,resolve,invoke,builtin,Sem.run_bind,Sem.run_pure,Result.andThen_ok,List.map_toArray,List.map_cons,List.map_nil,hxv,hyv,vL,hr]
 show K' (a.put o.dst _) w';rw[hd];exact hK _ _ _ this
theorem SB (hz:(P.info? vX).bind (·.zero)=some (.agg #[.pointer none, .slice none 0 0])) {d:Nat} (h1:gd ops s o=some true) (ho:o.op= .alloc vX) (hd:o.dst=some d) (hj:ak s.b 850=none) (h3:aG n o.dst=true)
 (h4:eY draw ops (az ops o ⟨.box 850 0,some [(850,some [.val (.pointer none), .nl])]⟩ [850]) k fps=true) (h:aq P T n ops id draw K (k+1) os (s.eff o.dst ⟨.box 850 0,some [(850,some [.val (.pointer none), .nl])]⟩) (az ops o ⟨.box 850 0,some [(850,some [.val (.pointer none), .nl])]⟩ [850]::fps)):aq P T n ops id draw K k (o::os) s fps:=
 .run h1 (.gen fun s2 _ hrb=>nI hd ⟨(hrb 850 (by simp)).trans hj,rfl⟩ (fun n S0 w0 g a w hM=>by
  refine⟨#[.pointer none, .slice none 0 0],vX,?_,CM.cons (.val rfl) (CM.cons .nl (CM.nil _ _)),fun _=>⟨rfl,rfl⟩⟩;unfold execOp;rw[ho]
  simp only[Instr.alloc,Sem.run_bind,kf hz w,Result.andThen_ok]
  rfl) rfl) h3 h4 h
end
theorem Fp:GJ Tryz.prog 137 9 5:=⟨underlying137,underlying9,by
 obtain⟨i,h1,h2⟩:=Option.map_eq_some_iff.1 qZ
 simp only[Prod.mk.injEq]at h2
 exact⟨i,h1,h2.1,h2.2.1,h2.2.2⟩⟩
theorem x5:((Tryz.prog).info? vX).bind (·.zero)=some (.agg #[.pointer none, .slice none 0 0]):=by kernel_rfl
def ME:Ty:=⟨true,2,32,[.val (.pointer none), .nl],[(0,1,false),(1,1,false)],none,false,false,none⟩
theorem Pp:aY Tryz.prog 139 ME where
 size:=by kernel_rfl
 bytes:=by kernel_rfl
 und:=by
  refine⟨_,underlying139,rfl,fun et k h=>(by cases h),fun fs h=>?_,fun h=>(by cases h),fun h=>(by cases h),fun k h=>(by cases h),fun f o k b h=>?_⟩
  ·cases h;rfl
  ·match f,h with
   |0,h=>cases h;exact⟨_,_,_,rfl,rfl,rfl,by kernel_rfl,by decide,underlying136,rfl⟩
   |1,h=>cases h;exact⟨_,_,_,rfl,rfl,rfl,by kernel_rfl,by decide,underlying137,rfl⟩
   |n+2,h=>simp[ME]at h
 zero:=⟨_,x5,fun S w=>CM.cons (.val rfl) (CM.cons .nl (CM.nil _ _))⟩
 zlen:=rfl
section
variable {P:Program} {T:TypeId->Option Ty} {n:Nat} {ops:Array Oper} {id:Nat} {draw:Bool} {K:AS->Prop} {s:AS} {k:Nat} {o:Oper} {os:List Oper} {fps:List FP}
theorem Rb {t:TypeId} {ty:Ty} {x:Operand} {f off k0 j i:Nat} {ag:Bool} {cs:List AV} (hT:aY P t ty) (hf:ty.flds[f]? =some (off,k0,ag)) (h1:gd ops s o=some true) (ho:o.op= .fieldAddr t x f) (hx:s.ev x= .box j i) (hj:s.bx j=some cs) (h3:aG n o.dst=true)
 (h4:eY draw ops (az ops o ⟨.box j (i+off),none⟩ [j]) k fps=true) (h:aq P T n ops id draw K (k+1) os (s.eff o.dst ⟨.box j (i+off),none⟩) (az ops o ⟨.box j (i+off),none⟩ [j]::fps)):aq P T n ops id draw K k (o::os) s fps:=
 .run h1 (.gen fun s2 ht hrb=>by
  have hx2:=(aw ht (x:=x) (by simp[ho,Op.operands])).trans hx;exact jx hT ho hf hx2 rfl (fun j' k' e=>by cases e;exact⟨cs,(ba (hrb j (by simp))).trans hj⟩)) h3 h4 h
theorem M6 {v:Value} (hv:v.oneCell'=true) (h1:gd ops s o=some true) (ho:o.op= .assign (.const v)) (h3:aG n o.dst=true) (h4:eY draw ops (az ops o ⟨.d (.leaf (.val v)),none⟩ []) k fps=true)
 (h:aq P T n ops id draw K (k+1) os (s.eff o.dst ⟨.d (.leaf (.val v)),none⟩) (az ops o ⟨.d (.leaf (.val v)),none⟩ []::fps)):aq P T n ops id draw K k (o::os) s fps:=
 .run h1 (.gen fun s2 _ _=>an (tv:= .d (.leaf (.val v))) fun n S0 w0 g a w hM=>⟨v,w,(by
  unfold execOp;rw[ho]
  rfl),Below.refl _ _,AV.M.val hv⟩) h3 h4 h
end
section
open Go.Shelf Go.RowKit
abbrev y6:BL:=[(950,[.val (.pointer none), .nl])]
abbrev ib (r:Nat) (l:List UInt8):BL:=[(950,[.bp 950 0, .ow r l.length 1 5]),(r,pO l)]
theorem BT {r:Nat} {l:List UInt8}:di y6 (ib r l):=fun j cs cs' h h'=>by
 obtain⟨rfl,rfl⟩:=a8.1 h;have h':some _=some cs':=h';cases h';exact Nat.le_refl 2
theorem pN {r r':Nat} {l l':List UInt8} (h5:(r == r')=false) (h9:(r == 950)=false) (h9':(r' == 950)=false):di (ib r l) (ib r' l'):=fun j cs cs' h h'=>by
 rw[beq_eq_false_iff_ne]at h5 h9 h9';rw[bI]at h h'
 by_cases e:j=950
 ·subst e
  have h:some (some _)=some (some cs):=h;have h':some (some _)=some (some cs'):=h';cases h;cases h';exact Nat.le_refl 2
 ·rw[ar,ap _ _ (Ne.symm e),ar]at h h'
  by_cases e2:r=j
  ·subst e2
   rw[ap _ _ (Ne.symm h5)]at h';cases h'
  ·rw[ap _ _ e2]at h
   cases h
theorem Se {S:Nat->Prop} {w:World} {v:Value} (h:AV.M S w .nl v):v= .slice none 0 0:=by cases h;rfl
theorem HT {S:Nat->Prop} {g:Nat->Nat} {b:BL} {r:RT} {w:World} {v:Value} (h:EM S g w b) (hv:TV.M (Own S g (sB b)) g (sB b) w r.tv v):uR S g b r b w (.returned v) w:=
 ⟨v,g,rfl,fun j cs cs' h1 h2=>by rw[h1]at h2;cases h2;exact⟨rfl,Nat.le_refl _⟩,fun j cs' hj=>⟨.inr ⟨j,cs',hj,rfl⟩,h.bm j cs' hj⟩,h.inj,hv,bY.refl _ _⟩
theorem SX {S:Nat->Prop} {g:Nat->Nat} {s:AS} {w:World}:TV.M S g s w (RT.v (.tup [])).tv (.tuple #[]):=⟨[],rfl,rfl,fun i x u h1 _=>by simp at h1⟩
theorem wk {S:Nat->Prop} {g:Nat->Nat} {b:BL} {w:World} {j:Nat} {cs:List AV} {vs:List Value} (hj:(sB b).bx j=some cs) (hv:ny S g (sB b) w [.box j 0] vs):vs=[.pointer (some ⟨g j,0,none⟩)]:=by
 match vs,hv with
 | [v],⟨h,_⟩=>rw[h.2 cs hj]
theorem Lq (r:Nat) (l:List UInt8):au Tryz.prog 145 [.box 950 0] (ib r l) (.v (.tup [])) (ib r l):=by
 refine⟨av func145 rfl rfl,fun S g w vs hpre hv=>?_⟩;have hj:(sB (ib r l)).bx 950=some [.bp 950 0, .ow r l.length 1 5]:=rfl;rw[wk hj hv];obtain⟨arr,e,h1,h2,_,h4,h5⟩:=hpre.bm 950 _ hj;have hlen:=(h5 rfl).2
 have h0:w.cell? ⟨g 950,0,none⟩=some (.pointer (some ⟨g 950,0,none⟩)):=by
  rw[dh h1];have hx:arr.toList[0]? =some arr[0]:=by simp[hlen]
  have:=h4 rfl 0 (.bp 950 0) arr[0] rfl hx;rw[show arr[0]? =some arr[0] by simp[hlen],this.2 _ hj]
 refine(jE (g 950) w h0).mono ?_;rintro e w' ⟨rfl,rfl⟩;exact HT hpre SX
theorem EH {w:World} {B:Nat} {arr:Array Value} {e:TypeId} {v:Value} (h:w.heap[B]? =some (.cells arr e (0,0))):(w.setCell ⟨B,0,none⟩ v).heap[B]? =some (.cells (arr.setIfInBounds 0 v) e (0,0)):=by
 simp[World.setCell,Array.getElem?_modify,h]
theorem Au {w:World} {B k:Nat} {v:Value} (h:k≠B):(w.setCell ⟨B,0,none⟩ v).heap[k]? =w.heap[k]?:=by
 simp[World.setCell,Array.getElem?_modify,Ne.symm h]
theorem HY:au Tryz.prog 145 [.box 950 0] y6 (.v (.tup [])) [(950,[.bp 950 0, .nl])]:=by
 refine⟨av func145 rfl rfl,fun S g w vs hpre hv=>?_⟩;have hj:(sB y6).bx 950=some [.val (.pointer none), .nl]:=rfl;rw[wk hj hv];obtain⟨arr,e,h1,h2,h3,h4,h5⟩:=hpre.bm 950 _ hj;obtain⟨rfl,hlen⟩:=h5 rfl;have h20:=h2.2 0 (.val (.pointer none)) arr[0] rfl (by simp[hlen]);have h21:=h2.2 1 .nl arr[1] rfl (by simp[hlen])
 have h0:w.cell? ⟨g 950,0,none⟩=some (.pointer none):=by
  rw[dh h1,show arr[0]? =some arr[0] by simp[hlen],aV h20]
 refine(jw (g 950) w h0 (by simp[World.shape?,h1,hlen];rfl) (by simp[World.frozen?,h1])).mono ?_;rintro e w' ⟨rfl,rfl⟩;have hh:=EH (v:= .pointer (some ⟨g 950,0,none⟩)) h1;have hO:∀c c',Own S g (sB [(950,c)])=Own S g (sB [(950,c')]):=fun c c'=>by rw[ks,ks]
 refine⟨_,g,rfl,?_,?_,?_,SX,?_⟩
 ·intro j cs cs' k1 k2
  obtain⟨rfl,rfl⟩:=a8.1 k1;obtain⟨_,rfl⟩:=a8.1 k2;exact⟨rfl,Nat.le_refl _⟩
 ·intro j cs' k2
  obtain⟨rfl,rfl⟩:=a8.1 k2;refine⟨.inr ⟨950,_,hj,rfl⟩,_,_,hh,⟨by simp[hlen],fun i a v ha hv=>?_⟩,fun _ v hv=>?_,fun _ i a v ha hv=>?_,fun _=>⟨rfl,by simp[hlen]⟩⟩
  ·match i,ha with
   |0,ha=>
    cases ha;have:v= .pointer (some ⟨g 950,0,none⟩):=by simpa[hlen]using hv.symm
    subst this;exact .bp rfl
   |1,ha=>
    cases ha;have:v=arr[1]:=by simpa[hlen]using hv.symm
    subst this;rw[Se h21];exact .nl
  ·simp only[Array.toList_setIfInBounds]at hv
   rcases List.mem_or_eq_of_mem_set hv with h|h
   ·exact h3 rfl v h
   ·subst h;rfl
  ·match i,ha with
   |0,ha=>
    cases ha;have:v= .pointer (some ⟨g 950,0,none⟩):=by simpa[hlen]using hv.symm
    subst this;exact⟨⟨_,rfl⟩,fun _ _=>rfl⟩
   |1,ha=>cases ha;trivial
 ·intro i j ci cj k1 k2 _
  rw[(a8.1 k1).1,(a8.1 k2).1]
 ·refine⟨rfl,rfl,rfl,by simp[World.setCell],fun k hk hx=>?_,fun k hk hx a e fz ha=>?_⟩
  ·exact Au (fun h=>hx ⟨950,_,hj,h.symm⟩)
  ·rw[lP]at hx
   subst hx;rw[h1]at ha;cases ha;exact⟨_,_,hh,by simp⟩
theorem D5 (l:List UInt8) (hl:l≠[]) (hs:l.length<=100000000000000):gC Tryz.prog 103 [.box 950 0, .d (dL l)] y6 (.v (.tup [dN .i64 l.length, .leaf (.val .nilIface)])) (ib 701 l):=by
 have hB:=aB l;refine rf ah cX func103 rfl rfl rfl rfl rfl BT ?_;refine kW ?_;refine kD (HY) ?_;refine xV ?_;refine kW ?_;refine Gd 701 (Nat.zero_add _) rfl Fp hl (by omega) rfl rfl rfl rfl rfl (.nil rfl rfl) rfl rfl rfl ?_;refine xV ?_;refine kG ?_;refine kO ?_;refine bM (v':= .int .i64 ((l.length:Nat))) rfl rfl rfl rfl ?_ ?_
 ·exact congrArg (Value.int .i64) (by rw[hB])
 refine kO ?_;refine M6 rfl rfl rfl rfl rfl ?_;exact Gz
theorem Eg (l m:List UInt8) (hm:m≠[]) (hs:l.length+m.length<=100000000000000):gC Tryz.prog 103 [.box 950 0, .d (dL m)] (ib 700 l) (.v (.tup [dN .i64 m.length, .leaf (.val .nilIface)])) (ib 701 (l++m)):=by
 have hB:=aB m;have e1:pO (l++m)=(pO l).take (l.length*1)++pO m:=by rw[KZ,Nat.mul_one,List.take_of_length_le (by rw[Cy];exact Nat.le_refl _)]
 refine rf ah cX func103 rfl rfl rfl rfl rfl (pN rfl rfl rfl) ?_;refine kW ?_;refine kD (Lq 700 l) ?_;refine xV ?_;refine kW ?_;refine Gd 701 (List.length_append).symm e1.symm Fp hm (by omega) rfl rfl rfl rfl rfl (.own rfl rfl) rfl rfl rfl ?_;refine xV ?_;refine kG ?_;refine kO ?_;refine bM (v':= .int .i64 ((m.length:Nat))) rfl rfl rfl rfl ?_ ?_
 ·exact congrArg (Value.int .i64) (by rw[hB])
 refine kO ?_;refine M6 rfl rfl rfl rfl rfl ?_;exact Gz
end
section
open Go.Shelf Go.RowKit
def lx (a:Nat):Bool:=Nat.ble 700 a && Nat.ble a 740
theorem Ay {a:Nat} (h:lx a=true):700<=a/\a<=740:=by
 simp only[lx,Bool.and_eq_true]at h
 exact⟨Nat.le_of_ble_eq_true h.1,Nat.le_of_ble_eq_true h.2⟩
theorem Al {a:Nat} (h:lx a=true):bD a=false/\bW a=false/\gH a=false:=by
 have:=Ay h;refine⟨?_,?_,?_⟩
 ·unfold bD
  cases hb:Nat.ble 1000000 a
  ·rfl
  ·have:=Nat.le_of_ble_eq_true hb;omega
 ·have e:a/50=14:=by omega
  unfold bW;rw[e];rfl
 ·have h1:Nat.beq (a/10) 85=false:=by
   cases hb:Nat.beq (a/10) 85
   ·rfl
   ·have:=Nat.eq_of_beq_eq_true hb;omega
  have h2:Nat.beq (a/10) 95=false:=by
   cases hb:Nat.beq (a/10) 95
   ·rfl
   ·have:=Nat.eq_of_beq_eq_true hb;omega
  unfold gH;rw[h1,h2];rfl
theorem GZ {a b:Nat} (ha:lx a=true) (hb:lx b=true):mA a b=true:=by
 obtain⟨h1,h2,h3⟩:=Al ha;obtain⟨k1,k2,k3⟩:=Al hb;rw[mA,h1,h2,h3,k1,k2,k3];rfl
theorem Ax {x y:Nat} (hx:lx x=true) (hy:lx y=true):sw x y 950=950:=by
 have:=Ay hx;have:=Ay hy;unfold sw;rw[if_neg (by omega),if_neg (by omega)]
theorem TB {x y r:Nat} (hx:lx x=true) (hy:lx y=true) (hr:lx r=true):lx (sw x y r)=true:=by
 unfold sw
 split
 ·exact hy
 ·split
  ·exact hx
  ·exact hr
theorem zI {x y r:Nat} (l:List UInt8) (hx:lx x=true) (hy:lx y=true) (hr:lx r=true):nO x y (ib r l)=ib (sw x y r) l:=by
 have e1:uk x y 950 [.bp 950 0, .ow r l.length 1 5]=[.bp (sw x y 950) 0, .ow (sw x y r) l.length 1 5]:=rfl;have e2:uk x y r (pO l)=pO l:=by unfold uk;rw[(Al hr).2.1]
 show [(sw x y 950,uk x y 950 _),(sw x y r,uk x y r (pO l))]=_;rw[e1,e2,Ax hx hy]
theorem PL {x y:Nat} (hx:lx x=true) (hy:lx y=true):nO x y y6=y6:=by
 have e1:uk x y 950 [.val (.pointer none), .nl]=[.val (.pointer none), .nl]:=rfl;show [(sw x y 950,uk x y 950 _)]=_;rw[e1,Ax hx hy]
theorem Ce {x y:Nat} (hx:lx x=true) (hy:lx y=true) (ds:List DV):(TV.box 950 0::ds.map .d).map (Pj x y)= .box 950 0::ds.map .d:=by
 rw[List.map_cons,List.map_map];show TV.box (sw x y 950) 0::_=_;rw[Ax hx hy]
 congr 1
section
variable {C:List TV->BL->RT->BL->Prop} (hs:∀{ts:List TV} {l:BL} {r:RT} {l':BL} (a b:Nat),mA a b=true->C ts l r l'->C (ts.map (Pj a b)) (nO a b l) (Tc a b r) (nO a b l'))
include hs
theorem H8 {ds:List DV} {r:RV} {l m:List UInt8} {p q:Nat} (x y:Nat) (hx:lx x=true) (hy:lx y=true) (hp:lx p=true) (hq:lx q=true) (h:C (.box 950 0::ds.map .d) (ib p l) (.v r) (ib q m)):C (.box 950 0::ds.map .d) (ib (sw x y p) l) (.v r) (ib (sw x y q) m):=by
 have:=hs x y (GZ hx hy) h;rw[Ce hx hy,zI l hx hy hp,zI m hx hy hq]at this;exact this
theorem Br {ds:List DV} {r:RV} {l m:List UInt8} (a b:Nat) (ha:lx a=true) (hb:lx b=true) (hab:(a == b)=false) (h:C (.box 950 0::ds.map .d) (ib 700 l) (.v r) (ib 701 m)):C (.box 950 0::ds.map .d) (ib a l) (.v r) (ib b m):=by
 have h1:=H8 hs 700 a rfl ha rfl rfl h;have ho:lx (sw 700 a 701)=true:=TB rfl ha rfl;have e1:sw 700 a 700=a:=if_pos rfl
 have hne:sw 700 a 701≠a:=fun e=>by
  have:=u9 (e.trans e1.symm);omega
 rw[e1]at h1;have h2:=H8 hs (sw 700 a 701) b ho hb ha ho h1;rw[beq_eq_false_iff_ne]at hab
 have e2:sw (sw 700 a 701) b a=a:=by
  unfold sw at hne ⊢;rw[if_neg (Ne.symm hne),if_neg hab]
 have e3:sw (sw 700 a 701) b (sw 700 a 701)=b:=if_pos rfl;rw[e2,e3]at h2;exact h2
theorem Bn {ds:List DV} {r:RV} {m:List UInt8} (b:Nat) (hb:lx b=true) (h:C (.box 950 0::ds.map .d) y6 (.v r) (ib 701 m)):C (.box 950 0::ds.map .d) y6 (.v r) (ib b m):=by
 have:=hs 701 b (GZ rfl hb) h;rw[Ce rfl hb,PL rfl hb,zI m rfl hb rfl]at this;rw[show sw 701 b 701=b from if_pos rfl]at this;exact this
end
theorem D4 (a b:Nat) (l m:List UInt8) (hm:m≠[]) (hs:l.length+m.length<=100000000000000) (ha:lx a=true) (hb:lx b=true) (hab:(a == b)=false):gC Tryz.prog 103 [.box 950 0, .d (dL m)] (ib a l) (.v (.tup [dN .i64 m.length, .leaf (.val .nilIface)])) (ib b (l++m)):=
 Br (C:=gC Tryz.prog 103) (ds:=[dL m]) (fun a b h=>gC.swap a b h) a b ha hb hab (Eg l m hm hs)
theorem SY (b:Nat) (m:List UInt8) (hm:m≠[]) (hs:m.length<=100000000000000) (hb:lx b=true):gC Tryz.prog 103 [.box 950 0, .d (dL m)] y6 (.v (.tup [dN .i64 m.length, .leaf (.val .nilIface)])) (ib b m):=
 Bn (C:=gC Tryz.prog 103) (ds:=[dL m]) (fun a b h=>gC.swap a b h) b hb (D5 m hm hs)
abbrev KO (r:Nat) (l:List UInt8):BL:=[(850,[.bp 850 0, .ow r l.length 1 5]),(r,pO l)]
abbrev Ux:BL:=[(850,[.val (.pointer none), .nl])]
theorem PF (l:List UInt8) (hl:l.length<=100000000000000):au Tryz.prog 106 [.box 850 0] (KO 701 l) (.v (.one (dN .i64 l.length))) (KO 701 l):=by
 have h:au Tryz.prog 106 [.box 950 0] [(950,[.bp 950 0, .ow 901 l.length 1 5]),(901,pO l)] (.v (.one (dN .i64 l.length))) [(950,[.bp 950 0, .ow 901 l.length 1 5]),(901,pO l)]:=by
  refine aM ah cX func106 rfl rfl rfl rfl rfl ((di.refl _)) ?_;refine xV ?_;exact Gz
 exact((h.swap 950 850 rfl).swap 901 701 rfl)
set_option maxRecDepth 100000 in
theorem E6 (l:List UInt8) (h0:l≠[]):au Tryz.prog 104 [.box 850 0] (KO 701 l) (.v (.one (dL l))) []:=by
 refine⟨av func104 rfl rfl,fun S g w vs hpre hv=>?_⟩;have hj:(sB (KO 701 l)).bx 850=some [.bp 850 0, .ow 701 l.length 1 5]:=rfl;have hj2:(sB (KO 701 l)).bx 701=some (pO l):=rfl;rw[wk hj hv];obtain⟨arr,e,h1,h2,_,h4,h5⟩:=hpre.bm 850 _ hj;obtain⟨rfl,hlen⟩:=h5 rfl;have hx:arr.toList[1]? =some arr[1]:=by simp[hlen]
 have hw:TV.M (Own S g (sB (KO 701 l))) g (sB (KO 701 l)) w (.own 701 l.length 1 5) arr[1]:=h4 rfl 1 (.ow 701 l.length 1 5) arr[1] rfl hx;obtain⟨cap,e1,e2,e3,e4,cur,e5,e6⟩:=hw.2 _ hj2;obtain⟨cur',e',q1,q2,_⟩:=hpre.bm 701 _ hj2;rw[e5]at q1;cases q1;have hne:g 850≠g 701:=fun e=>by have:=hpre.inj 850 701 _ _ hj hj2 e;omega
 have hl0:l.length≠0:=by simpa using h0
 have c1:w.drew.cell? ⟨g 850,1,none⟩=some (.slice (some ⟨g 701,0,none⟩) l.length cap):=by
  have:w.drew.heap[g 850]? =some (.cells arr vX (0,0)):=h1;rw[dh this,<- e1]
  simp[hlen]
 have hSD:(Builtin.unsafeSliceData_ #[137] 183 #[.slice (some ⟨g 701,0,none⟩) l.length cap]).run Tryz.prog w.drew= .ok (.pointer (some ⟨g 701,0,none⟩)) w.drew:=
  Lib.run_unsafeSliceData_row _ _ _ _ _ _ (by omega)
 have hUS:(Builtin.unsafeString_ #[183,3] 9 #[.pointer (some ⟨g 701,0,none⟩), .int .i64 l.length]).run Tryz.prog w.drew= .ok (.string ⟨l.toArray⟩) (w.drew.freeze ⟨g 701,0,none⟩ l.length):=by
  refine Lib.run_unsafeString_row w.drew 183 3 9 5 underlying183 (by kernel_rfl) (g 701) cur.size (by have hg':w.drew.heap[g 701]? =some (.cells cur 5 (0,0)):=e5;simp[World.shape?,hg']) l h0 (by omega) (by omega) ?_;intro j x hx;have hjl:=(List.getElem?_eq_some_iff.1 hx).1;have hg':w.drew.heap[g 701]? =some (.cells cur 5 (0,0)):=e5;have hcell:(pO l)[j]? =some (.val (.int .u8 x.toNat)):=by simp[pO,hx]
  have hcl:j<cur.size:=by omega
  have:=aV (q2.2 j (.val (.int .u8 x.toNat)) cur[j] hcell (by simp[hcl]));rw[bX,dh hg',Nat.zero_add,show cur[j]? =some cur[j] by simp[hcl],this]
 have hfr:bY (BX g (KO 701 l)) w (w.drew.freeze ⟨g 701,0,none⟩ l.length):=by
  unfold World.freeze;rw[if_neg hl0];refine⟨rfl,rfl,rfl,by show w.heap.size<=(w.heap.modify _ _).size;rw[Array.size_modify];exact Nat.le_refl _,fun k hk hx=>?_,fun k hk hx a e fz ha=>?_⟩
  ·have hkne:g 701≠k:=fun h=>hx ⟨701,_,hj2,h⟩
   show(w.heap.modify (g 701) _)[k]? =_;rw[Array.getElem?_modify,if_neg hkne]
  ·show ∃arr' fz',(w.heap.modify (g 701) _)[k]? =_/\_
   rw[Array.getElem?_modify]
   by_cases hk1:g 701=k
   ·rw[if_pos hk1,ha]
    obtain⟨lo,hi⟩:=fz;exact⟨a,_,rfl,rfl⟩
   ·rw[if_neg hk1,ha]
    exact⟨a,fz,rfl,rfl⟩
 have hmx:=cX
 go_enter func104,ntmps104
 go_wp2
 go_region_o
 all_goals(go_wp2;go_ret;exact⟨_,g,rfl,fun j cs cs' _ h=>(by cases h),fun j cs h=>(by cases h),fun i j ci cj h=>(by cases h),AV.M.val rfl,hfr⟩)
end
section
variable {P:Program} {T:TypeId->Option Ty} {n:Nat} {ops:Array Oper} {id:Nat} {draw:Bool} {K:AS->Prop} {s:AS} {k:Nat} {o:Oper} {os:List Oper} {fps:List FP}
theorem fV {t e:TypeId} {x y:Operand} {m i:Nat} {ik:IntKind} {cs:List AV} (hu:P.underlying t=some (.array m e)) (hs:(P.info? e).map (·.size)=some 1) (hi:i<m) (h1:gd ops s o=some true) (ho:o.op= .indexAddr t x y) (hx:s.ev x= .rp cs) (hy:s.ev y= .d (.leaf (.val (.int ik (i:Nat)))))
 (h3:aG n o.dst=true) (h4:eY draw ops (az ops o ⟨.rp (cs.drop i),none⟩ []) k fps=true) (h:aq P T n ops id draw K (k+1) os (s.eff o.dst ⟨.rp (cs.drop i),none⟩) (az ops o ⟨.rp (cs.drop i),none⟩ []::fps)):aq P T n ops id draw K k (o::os) s fps:=
 .run h1 (.gen fun s2 ht _=>an (tv:= .rp (cs.drop i)) fun n S0 w0 g a w hM=>by
  have hx2:=(aw ht (x:=x) (by simp[ho,Op.operands])).trans hx;have hy2:=(aw ht (x:=y) (by simp[ho,Op.operands])).trans hy;have h:=hM.ev x;rw[hx2]at h;obtain⟨b,off,f,e1,h1,h2,h3,h4⟩:=h;refine⟨.pointer (some ⟨b,off+i,none⟩),w,?_,Below.refl _ _,b,off+i,fun q=>f (i+q),rfl,h1,h2,fun q c hq=>?_,fun q c hq=>?_⟩
  ·refine Oo ?_
   have e2:(0:Int)<=i/\(i:Int)<m:=by omega
   simp only[e2,and_self,if_true,Sem.run_bind,bA hs w,Result.andThen_ok,Sem.run_pure,bX,Int.toNat_natCast,Nat.mul_one]
  ·rw[Nat.add_assoc];exact h3 (i+q) c (by simpa using hq)
  ·exact h4 (i+q) c (by simpa using hq)) h3 h4 h
end
theorem dH (e:Ex):aa Tryz.prog 147 [dE e] (.one (dN .i64 (TI e))):=by
 cases e with
 |num v u=>
  show aa Tryz.prog _ [.agg ([.val (.int .i64 1)]++aQ v++[.val (vL u), .sl 0 []])] _;refine kU func147 ?_;exact am
 |nam s=>
  show aa Tryz.prog _ [.agg ([.val (.int .i64 2)]++jq++[.val (vL s), .sl 0 []])] _;refine kU func147 ?_;exact am
 |neg a=>
  rw[show dE (.neg a)= .agg ([.val (.int .i64 3)]++jq++[.val (vL []), .sl 1 (aE a)]) from congrArg DV.agg (nV a)];refine kU func147 ?_;exact am
 |bin k a b=>
  refine M2 ?_;cases k
  all_goals
   refine kU func147 ?_;exact kF
theorem sL (lv:Nat) (t:List UInt8):xI lv 0 t=t:=if_neg (Nat.not_lt_zero lv)
theorem Li {k:Nat} {s:List UInt8} (h:s≠[]):lg k s≠[]:=by
 intro e;unfold lg at e
 split at e
 ·simp at e
 ·unfold ti at e
  exact h (List.append_eq_nil_iff.1 e).2
theorem xq {q:Rat} {d:List UInt8}:∀(n k:Nat),lj q n k=some d->d≠[]
 |0,_,h=>by cases h
 |n+1,k,h=>by
  rw[lj]at h
  split at h
  ·split at h
   ·cases h;exact Li (List.length_pos_iff.1 (Gu _))
   ·cases h
  ·exact xq n (k+1) h
theorem wu {q:Rat} {d:List UInt8} (h:fT q=some d):d≠[]:=by
 unfold fT at h
 split at h
 ·cases h
 ·exact xq _ _ h
theorem qF {r:Nat} {l:List UInt8}:di y6 (ib r l):=BT
structure Gy (e:Ex) (least:Nat):Prop where
 w0:(bU e least).length<=1000000000->au Tryz.prog 105 [.box 950 0, .d (dE e), .d (dN .i64 least)] y6 (.v (.tup [])) (ib 701 (bU e least))
 w1:∀l:List UInt8,l.length+(bU e least).length<=1000000000->au Tryz.prog 105 [.box 950 0, .d (dE e), .d (dN .i64 least)] (ib 700 l) (.v (.tup [])) (ib 701 (l++bU e least))
theorem Gy.n0 {e:Ex} {least:Nat} (h:Gy e least) (b:Nat) (hl:(bU e least).length<=1000000000) (hb:lx b=true):au Tryz.prog 105 [.box 950 0, .d (dE e), .d (dN .i64 least)] y6 (.v (.tup [])) (ib b (bU e least)):=
 Bn (C:=au Tryz.prog 105) (ds:=[dE e,dN .i64 least]) (fun a b h=>au.swap a b h) b hb (h.w0 hl)
theorem Gy.n1 {e:Ex} {least:Nat} (h:Gy e least) (a b:Nat) (l:List UInt8) (hl:l.length+(bU e least).length<=1000000000) (ha:lx a=true) (hb:lx b=true) (hab:(a == b)=false):au Tryz.prog 105 [.box 950 0, .d (dE e), .d (dN .i64 least)] (ib a l) (.v (.tup [])) (ib b (l++bU e least)):=
 Br (C:=au Tryz.prog 105) (ds:=[dE e,dN .i64 least]) (fun a b h=>au.swap a b h) a b ha hb hab (h.w1 l hl)
theorem Lz {v:Rat} {u:List UInt8} {least:Nat} (h4:least<=3) (hf:pu (.num v u)) (hl:(bU (.num v u) least).length<=1000000000):au Tryz.prog 105 [.box 950 0, .d (dE (.num v u)), .d (dN .i64 least)] y6 (.v (.tup [])) (ib 701 (bU (.num v u) least)):=by
 obtain⟨h1,h2,h3⟩:=hf;obtain⟨t,c,ht⟩:=it h2 (by decide);obtain⟨d,hd⟩:=Option.isSome_iff_exists.1 h1;rw[ht d hd,h1]at c;have hd0:d≠[]:=wu hd;have cl:=dH (.num v u)
 have e0:bU (.num v u) least=d++qy u:=by
  refine CG ?_;show xI 4 0 (K7 v++qy u)=_;rw[sL,K7,hd];rfl
 rw[e0]at hl ⊢;have hdn:dE (.num v u)= .agg ([.val (.int .i64 1)]++aQ v++[.val (vL u), .sl 0 []]):=rfl;rw[hdn]at cl ⊢
 by_cases hu:u=[]
 ·subst hu
  rw[show qy []=[] from rfl,List.append_nil]at hl ⊢;refine Ch ?_;refine Bo ?_;refine cu ((SY 701 (d) hd0 (by omega) rfl).toT) rfl rfl rfl rfl rfl ⟨rfl,trivial⟩ rfl rfl rfl rfl ?_;refine kG ?_
  refine kO2 ?_
  refine xW ?_;exact yu
 ·have hu2:qy u=[32]++u:=if_neg hu
  rw[hu2]at hl ⊢
  simp only[List.length_append,List.length_cons,List.length_nil]at hl
  rw[show(d++([32]++u))=(d)++([32]++u) by simp];refine Ch ?_;refine Bo ?_;refine cu ((SY 702 (d) hd0 (by omega) rfl).toT) rfl rfl rfl rfl rfl ⟨rfl,trivial⟩ rfl rfl rfl rfl ?_;refine Mh ?_;refine cu ((D4 702 701 (d) ([32]++u) (by simp) (by simp <;>omega) rfl rfl rfl).toT) rfl rfl rfl rfl rfl ⟨rfl,rfl,trivial⟩ rfl rfl rfl rfl ?_;exact yu
theorem J9 {s:List UInt8} {least:Nat} (h4:least<=3) (hf:pu (.nam s)) (hl:(bU (.nam s) least).length<=1000000000):au Tryz.prog 105 [.box 950 0, .d (dE (.nam s)), .d (dN .i64 least)] y6 (.v (.tup [])) (ib 701 (bU (.nam s) least)):=by
 have hs0:s≠[]:=fun e=>by subst e;cases hf
 have cl:=dH (.nam s)
 have e0:bU (.nam s) least=s:=by
  refine CG ?_;exact sL _ _
 rw[e0]at hl ⊢;have hdn:dE (.nam s)= .agg ([.val (.int .i64 2)]++jq++[.val (vL s), .sl 0 []]):=rfl;rw[hdn]at cl ⊢;refine Ch ?_;refine gI ?_;refine OO ?_;refine cu ((SY 701 (s) hs0 (by omega) rfl).toT) rfl rfl rfl rfl rfl ⟨rfl,trivial⟩ rfl rfl rfl rfl ?_;exact yu
theorem Lk {a:Ex} {least:Nat} (h4:least<=3) (ih:Gy a 3) (hl:(bU (.neg a) least).length<=1000000000):au Tryz.prog 105 [.box 950 0, .d (dE (.neg a)), .d (dN .i64 least)] y6 (.v (.tup [])) (ib 701 (bU (.neg a) least)):=by
 have cl:=dH (.neg a)
 have e0:bU (.neg a) least=[45]++bU a 3:=by
  rw[GL,xI,if_neg (by show ¬3<least;omega)];exact sL _ _
 rw[e0]at hl ⊢
 simp only[List.length_append,List.length_cons,List.length_nil]at hl
 obtain⟨o1,na1,xs1,nb1,ys1,nm1,n1,cs1,hA⟩:=bd a;have hdn:dE (.neg a)= .agg ([.val (.int .i64 3)]++jq++[.val (vL []), .sl 1 (ab o1 na1 xs1 nb1 ys1 nm1 n1 cs1)]):=by rw[<- hA];exact congrArg DV.agg (nV a)
 rw[hdn]at cl ⊢;have cw:=ih.n1 702 701 ([45]) (by simp <;>omega) rfl rfl rfl;rw[show dE a= .agg (ab o1 na1 xs1 nb1 ys1 nm1 n1 cs1) from congrArg DV.agg hA]at cw;rw[show([45]++bU a 3)=([45])++bU a 3 by simp];refine Ch ?_;refine gI ?_;refine NS ?_;refine cu ((SY 702 ([45]) (by simp) (by simp <;>omega) rfl).toT) rfl rfl rfl rfl rfl ⟨rfl,trivial⟩ rfl rfl rfl rfl ?_;refine SK ?_;refine kC (cl) ?_;refine kD (cw) ?_;exact yu
theorem J5 {a b:Ex} (k:B4) {least:Nat} (iha:Gy a (eW k)) (ihb:Gy b (eW k+1)) (hl:(bU (.bin k a b) least).length<=1000000000):au Tryz.prog 105 [.box 950 0, .d (dE (.bin k a b)), .d (dN .i64 least)] y6 (.v (.tup [])) (ib 701 (bU (.bin k a b) least)):=by
 have cl:aa Tryz.prog 147 [dE (.bin k a b)] (.one (dN .i64 ((eW k:Nat):Int))):=dH (.bin k a b);obtain⟨o1,na1,xs1,nb1,ys1,nm1,n1,cs1,hA⟩:=bd a;obtain⟨o2,na2,xs2,nb2,ys2,nm2,n2,cs2,hA2⟩:=bd b;have hdn:dE (.bin k a b)= .agg ([.val (.int .i64 k.code)]++jq++[.val (vL []), .sl 2 (ab o1 na1 xs1 nb1 ys1 nm1 n1 cs1++ab o2 na2 xs2 nb2 ys2 nm2 n2 cs2)]):=by rw[<- hA,<- hA2];exact congrArg DV.agg (jV k a b)
 have hsy:(nw k).length=3:=by cases k<;>rfl
 have hEa:dE a= .agg (ab o1 na1 xs1 nb1 ys1 nm1 n1 cs1):=congrArg DV.agg hA;have hEb:dE b= .agg (ab o2 na2 xs2 nb2 ys2 nm2 n2 cs2):=congrArg DV.agg hA2
 by_cases hlt:eW k<least
 ·have e0:bU (.bin k a b) least=[40]++(bU a (eW k)++nw k++bU b (eW k+1))++[41]:=if_pos hlt
  rw[e0]at hl ⊢
  simp only[List.length_append,List.length_cons,List.length_nil,hsy]at hl
  have ca:=iha.n1 704 702 ([40]) (by simp <;>omega) rfl rfl rfl;have cb:=ihb.n1 703 705 ([40]++bU a (eW k)++nw k) (by simp only[List.length_append,List.length_cons,List.length_nil,hsy];omega) rfl rfl rfl;have hfin:=D4 705 701 ([40]++bU a (eW k)++nw k++bU b (eW k+1)) [41] (by simp) (by simp only[List.length_append,List.length_cons,List.length_nil,hsy];omega) rfl rfl rfl;have cy:=(D4 702 703 ([40]++bU a (eW k)) (nw k) (fun e=>by rw[e]at hsy;cases hsy) (by simp only[List.length_append,List.length_cons,List.length_nil,hsy];omega) rfl rfl rfl).toT;rw[hdn]at cl ⊢;rw[hEa]at ca;rw[hEb]at cb;rw[show([40]++(bU a (eW k)++nw k++bU b (eW k+1))++[41])=[40]++bU a (eW k)++nw k++bU b (eW k+1)++[41] by simp];generalize bU a (eW k)=ta at *;generalize bU b (eW k+1)=tb at *;cases k
  all_goals
   refine ge ah cX func105 rfl rfl rfl rfl rfl rfl qF ?_;refine kR ?_;refine kI ?_;refine kO ?_;refine kC (cl) ?_;refine kO ?_;refine kX ?_;refine cu ((SY 704 ([40]) (by simp) (by simp <;>omega) rfl).toT) rfl rfl rfl rfl rfl ⟨rfl,trivial⟩ rfl rfl rfl rfl ?_;refine kW ?_;refine CL rfl rfl rfl rfl rfl rfl rfl ?_;refine kW ?_;refine aH (i:=0) (cs':=ab o1 na1 xs1 nb1 ys1 nm1 n1 cs1) (by decide) (nt _ _) (Nat.zero_lt_succ 6) rfl rfl rfl rfl rfl rfl rfl rfl ?_;refine kW ?_;refine kC (cl) ?_;refine kZ (ca) ?_;refine fV underlying184 (by kernel_rfl) (by decide) rfl rfl rfl rfl rfl rfl ?_;refine kW ?_;refine kZ (cy) ?_;refine aH (i:=1) (cs':=ab o2 na2 xs2 nb2 ys2 nm2 n2 cs2) (by decide) (mB _ rfl) (Nat.zero_lt_succ 6) rfl rfl rfl rfl rfl rfl rfl rfl ?_
   refine kW ?_;refine kQ (cl) ?_;refine kZ (cb) ?_;exact .inr ⟨_,_,_,_,_,{ dk:=rfl,one:=rfl,body:=hfin,kn:=rfl,bx:=⟨rfl,rfl,trivial⟩,cl:=rfl,new:=rfl,fin:=⟨rfl,rfl,trivial⟩ }⟩
 ·have e0:bU (.bin k a b) least=bU a (eW k)++nw k++bU b (eW k+1):=if_neg hlt
  rw[e0]at hl ⊢
  simp only[List.length_append,hsy]at hl
  have ca:=iha.n0 702 (by omega) rfl;have cb:=ihb.n1 703 701 (bU a (eW k)++nw k) (by simp only[List.length_append,List.length_cons,List.length_nil,hsy];omega) rfl rfl rfl;have cy:=(D4 702 703 (bU a (eW k)) (nw k) (fun e=>by rw[e]at hsy;cases hsy) (by simp only[List.length_append,List.length_cons,List.length_nil,hsy];omega) rfl rfl rfl).toT;rw[hdn]at cl ⊢;rw[hEa]at ca;rw[hEb]at cb;rw[show(bU a (eW k)++nw k++bU b (eW k+1))=bU a (eW k)++nw k++bU b (eW k+1) by simp];generalize bU a (eW k)=ta at *;generalize bU b (eW k+1)=tb at *;cases k
  all_goals
   refine ge ah cX func105 rfl rfl rfl rfl rfl rfl qF ?_;refine kR ?_;refine kI ?_;refine kO ?_;refine kC (cl) ?_;refine kO ?_;refine kY ?_;refine aH (i:=0) (cs':=ab o1 na1 xs1 nb1 ys1 nm1 n1 cs1) (by decide) (nt _ _) (Nat.zero_lt_succ 6) rfl rfl rfl rfl rfl rfl rfl rfl ?_;refine kW ?_;refine kC (cl) ?_;refine kZ (ca) ?_;refine fV underlying184 (by kernel_rfl) (by decide) rfl rfl rfl rfl rfl rfl ?_;refine kW ?_;refine kZ (cy) ?_;refine aH (i:=1) (cs':=ab o2 na2 xs2 nb2 ys2 nm2 n2 cs2) (by decide) (mB _ rfl) (Nat.zero_lt_succ 6) rfl rfl rfl rfl rfl rfl rfl rfl ?_;refine kW ?_;refine kQ (cl) ?_;refine kZ (cb) ?_;exact .inl ⟨⟨_,rfl,rfl⟩,⟨rfl,rfl,trivial⟩⟩
theorem L3 (l:List UInt8) {v:Rat} {u:List UInt8} {least:Nat} (h4:least<=3) (hf:pu (.num v u)) (hl:l.length+(bU (.num v u) least).length<=1000000000):au Tryz.prog 105 [.box 950 0, .d (dE (.num v u)), .d (dN .i64 least)] (ib 700 l) (.v (.tup [])) (ib 701 (l++bU (.num v u) least)):=by
 obtain⟨h1,h2,h3⟩:=hf;obtain⟨t,c,ht⟩:=it h2 (by decide);obtain⟨d,hd⟩:=Option.isSome_iff_exists.1 h1;rw[ht d hd,h1]at c;have hd0:d≠[]:=wu hd;have cl:=dH (.num v u)
 have e0:bU (.num v u) least=d++qy u:=by
  refine CG ?_;show xI 4 0 (K7 v++qy u)=_;rw[sL,K7,hd];rfl
 rw[e0]at hl ⊢;have hdn:dE (.num v u)= .agg ([.val (.int .i64 1)]++aQ v++[.val (vL u), .sl 0 []]):=rfl;rw[hdn]at cl ⊢
 by_cases hu:u=[]
 ·subst hu
  rw[show qy []=[] from rfl,List.append_nil]at hl ⊢;refine C8 ?_;refine Bo ?_;refine cu ((D4 700 701 l (d) hd0 (by omega) rfl rfl rfl).toT) rfl rfl rfl rfl rfl ⟨rfl,rfl,trivial⟩ rfl rfl rfl rfl ?_;refine kG ?_
  refine kO2 ?_
  refine xW ?_;exact yu
 ·have hu2:qy u=[32]++u:=if_neg hu
  rw[hu2]at hl ⊢
  simp only[List.length_append,List.length_cons,List.length_nil]at hl
  rw[show l++(d++([32]++u))=(l++d)++([32]++u) by simp];refine C8 ?_;refine Bo ?_;refine cu ((D4 700 702 l (d) hd0 (by omega) rfl rfl rfl).toT) rfl rfl rfl rfl rfl ⟨rfl,rfl,trivial⟩ rfl rfl rfl rfl ?_;refine Mh ?_;refine cu ((D4 702 701 (l++d) ([32]++u) (by simp) (by simp <;>omega) rfl rfl rfl).toT) rfl rfl rfl rfl rfl ⟨rfl,rfl,trivial⟩ rfl rfl rfl rfl ?_;exact yu
theorem KI (l:List UInt8) {s:List UInt8} {least:Nat} (h4:least<=3) (hf:pu (.nam s)) (hl:l.length+(bU (.nam s) least).length<=1000000000):au Tryz.prog 105 [.box 950 0, .d (dE (.nam s)), .d (dN .i64 least)] (ib 700 l) (.v (.tup [])) (ib 701 (l++bU (.nam s) least)):=by
 have hs0:s≠[]:=fun e=>by subst e;cases hf
 have cl:=dH (.nam s)
 have e0:bU (.nam s) least=s:=by
  refine CG ?_;exact sL _ _
 rw[e0]at hl ⊢;have hdn:dE (.nam s)= .agg ([.val (.int .i64 2)]++jq++[.val (vL s), .sl 0 []]):=rfl;rw[hdn]at cl ⊢;refine C8 ?_;refine gI ?_;refine OO ?_;refine cu ((D4 700 701 l (s) hs0 (by omega) rfl rfl rfl).toT) rfl rfl rfl rfl rfl ⟨rfl,rfl,trivial⟩ rfl rfl rfl rfl ?_;exact yu
theorem Kr (l:List UInt8) {a:Ex} {least:Nat} (h4:least<=3) (ih:Gy a 3) (hl:l.length+(bU (.neg a) least).length<=1000000000):au Tryz.prog 105 [.box 950 0, .d (dE (.neg a)), .d (dN .i64 least)] (ib 700 l) (.v (.tup [])) (ib 701 (l++bU (.neg a) least)):=by
 have cl:=dH (.neg a)
 have e0:bU (.neg a) least=[45]++bU a 3:=by
  rw[GL,xI,if_neg (by show ¬3<least;omega)];exact sL _ _
 rw[e0]at hl ⊢
 simp only[List.length_append,List.length_cons,List.length_nil]at hl
 obtain⟨o1,na1,xs1,nb1,ys1,nm1,n1,cs1,hA⟩:=bd a;have hdn:dE (.neg a)= .agg ([.val (.int .i64 3)]++jq++[.val (vL []), .sl 1 (ab o1 na1 xs1 nb1 ys1 nm1 n1 cs1)]):=by rw[<- hA];exact congrArg DV.agg (nV a)
 rw[hdn]at cl ⊢;have cw:=ih.n1 702 701 (l++[45]) (by simp <;>omega) rfl rfl rfl;rw[show dE a= .agg (ab o1 na1 xs1 nb1 ys1 nm1 n1 cs1) from congrArg DV.agg hA]at cw;rw[show l++([45]++bU a 3)=(l++[45])++bU a 3 by simp];refine C8 ?_;refine gI ?_;refine NS ?_;refine cu ((D4 700 702 l ([45]) (by simp) (by simp <;>omega) rfl rfl rfl).toT) rfl rfl rfl rfl rfl ⟨rfl,rfl,trivial⟩ rfl rfl rfl rfl ?_;refine SK ?_;refine kC (cl) ?_;refine kD (cw) ?_;exact yu
theorem JY (l:List UInt8) {a b:Ex} (k:B4) {least:Nat} (iha:Gy a (eW k)) (ihb:Gy b (eW k+1)) (hl:l.length+(bU (.bin k a b) least).length<=1000000000):au Tryz.prog 105 [.box 950 0, .d (dE (.bin k a b)), .d (dN .i64 least)] (ib 700 l) (.v (.tup [])) (ib 701 (l++bU (.bin k a b) least)):=by
 have cl:aa Tryz.prog 147 [dE (.bin k a b)] (.one (dN .i64 ((eW k:Nat):Int))):=dH (.bin k a b);obtain⟨o1,na1,xs1,nb1,ys1,nm1,n1,cs1,hA⟩:=bd a;obtain⟨o2,na2,xs2,nb2,ys2,nm2,n2,cs2,hA2⟩:=bd b;have hdn:dE (.bin k a b)= .agg ([.val (.int .i64 k.code)]++jq++[.val (vL []), .sl 2 (ab o1 na1 xs1 nb1 ys1 nm1 n1 cs1++ab o2 na2 xs2 nb2 ys2 nm2 n2 cs2)]):=by rw[<- hA,<- hA2];exact congrArg DV.agg (jV k a b)
 have hsy:(nw k).length=3:=by cases k<;>rfl
 have hEa:dE a= .agg (ab o1 na1 xs1 nb1 ys1 nm1 n1 cs1):=congrArg DV.agg hA;have hEb:dE b= .agg (ab o2 na2 xs2 nb2 ys2 nm2 n2 cs2):=congrArg DV.agg hA2
 by_cases hlt:eW k<least
 ·have e0:bU (.bin k a b) least=[40]++(bU a (eW k)++nw k++bU b (eW k+1))++[41]:=if_pos hlt
  rw[e0]at hl ⊢
  simp only[List.length_append,List.length_cons,List.length_nil,hsy]at hl
  have ca:=iha.n1 704 702 (l++[40]) (by simp <;>omega) rfl rfl rfl;have cb:=ihb.n1 703 705 (l++[40]++bU a (eW k)++nw k) (by simp only[List.length_append,List.length_cons,List.length_nil,hsy];omega) rfl rfl rfl;have hfin:=D4 705 701 (l++[40]++bU a (eW k)++nw k++bU b (eW k+1)) [41] (by simp) (by simp only[List.length_append,List.length_cons,List.length_nil,hsy];omega) rfl rfl rfl;have cy:=(D4 702 703 (l++[40]++bU a (eW k)) (nw k) (fun e=>by rw[e]at hsy;cases hsy) (by simp only[List.length_append,List.length_cons,List.length_nil,hsy];omega) rfl rfl rfl).toT;rw[hdn]at cl ⊢;rw[hEa]at ca;rw[hEb]at cb;rw[show l++([40]++(bU a (eW k)++nw k++bU b (eW k+1))++[41])=l++[40]++bU a (eW k)++nw k++bU b (eW k+1)++[41] by simp];generalize bU a (eW k)=ta at *
  generalize bU b (eW k+1)=tb at *;cases k
  all_goals
   refine ge ah cX func105 rfl rfl rfl rfl rfl rfl (pN rfl rfl rfl) ?_;refine kR ?_;refine kI ?_;refine kO ?_;refine kC (cl) ?_;refine kO ?_;refine kX ?_;refine cu ((D4 700 704 l ([40]) (by simp) (by simp <;>omega) rfl rfl rfl).toT) rfl rfl rfl rfl rfl ⟨rfl,rfl,trivial⟩ rfl rfl rfl rfl ?_;refine kW ?_;refine CL rfl rfl rfl rfl rfl rfl rfl ?_;refine kW ?_;refine aH (i:=0) (cs':=ab o1 na1 xs1 nb1 ys1 nm1 n1 cs1) (by decide) (nt _ _) (Nat.zero_lt_succ 6) rfl rfl rfl rfl rfl rfl rfl rfl ?_;refine kW ?_;refine kC (cl) ?_;refine kZ (ca) ?_;refine fV underlying184 (by kernel_rfl) (by decide) rfl rfl rfl rfl rfl rfl ?_;refine kW ?_;refine kZ (cy) ?_
   refine aH (i:=1) (cs':=ab o2 na2 xs2 nb2 ys2 nm2 n2 cs2) (by decide) (mB _ rfl) (Nat.zero_lt_succ 6) rfl rfl rfl rfl rfl rfl rfl rfl ?_;refine kW ?_;refine kQ (cl) ?_;refine kZ (cb) ?_;exact .inr ⟨_,_,_,_,_,{ dk:=rfl,one:=rfl,body:=hfin,kn:=rfl,bx:=⟨rfl,rfl,trivial⟩,cl:=rfl,new:=rfl,fin:=⟨rfl,rfl,trivial⟩ }⟩
 ·have e0:bU (.bin k a b) least=bU a (eW k)++nw k++bU b (eW k+1):=if_neg hlt
  rw[e0]at hl ⊢
  simp only[List.length_append,hsy]at hl
  have ca:=iha.n1 700 702 l (by omega) rfl rfl rfl;have cb:=ihb.n1 703 701 (l++bU a (eW k)++nw k) (by simp only[List.length_append,List.length_cons,List.length_nil,hsy];omega) rfl rfl rfl;have cy:=(D4 702 703 (l++bU a (eW k)) (nw k) (fun e=>by rw[e]at hsy;cases hsy) (by simp only[List.length_append,List.length_cons,List.length_nil,hsy];omega) rfl rfl rfl).toT;rw[hdn]at cl ⊢;rw[hEa]at ca;rw[hEb]at cb;rw[show l++(bU a (eW k)++nw k++bU b (eW k+1))=l++bU a (eW k)++nw k++bU b (eW k+1) by simp];generalize bU a (eW k)=ta at *;generalize bU b (eW k+1)=tb at *;cases k
  all_goals
   refine ge ah cX func105 rfl rfl rfl rfl rfl rfl (pN rfl rfl rfl) ?_;refine kR ?_;refine kI ?_;refine kO ?_;refine kC (cl) ?_;refine kO ?_;refine kY ?_;refine aH (i:=0) (cs':=ab o1 na1 xs1 nb1 ys1 nm1 n1 cs1) (by decide) (nt _ _) (Nat.zero_lt_succ 6) rfl rfl rfl rfl rfl rfl rfl rfl ?_;refine kW ?_;refine kC (cl) ?_;refine kZ (ca) ?_;refine fV underlying184 (by kernel_rfl) (by decide) rfl rfl rfl rfl rfl rfl ?_;refine kW ?_;refine kZ (cy) ?_;refine aH (i:=1) (cs':=ab o2 na2 xs2 nb2 ys2 nm2 n2 cs2) (by decide) (mB _ rfl) (Nat.zero_lt_succ 6) rfl rfl rfl rfl rfl rfl rfl rfl ?_;refine kW ?_;refine kQ (cl) ?_;refine kZ (cb) ?_;exact .inl ⟨⟨_,rfl,rfl⟩,⟨rfl,rfl,trivial⟩⟩
theorem lY:∀(e:Ex),pu e-> ∀least:Nat,least<=3->Gy e least
 | .num v u,hf,n,hn=>⟨fun hl=>Lz hn hf hl,fun l hl=>L3 l hn hf hl⟩
 | .nam s,hf,n,hn=>⟨fun hl=>J9 hn hf hl,fun l hl=>KI l hn hf hl⟩
 | .neg a,hf,n,hn=>⟨fun hl=>Lk hn (lY a hf 3 (by decide)) hl,fun l hl=>Kr l hn (lY a hf 3 (by decide)) hl⟩
 | .bin k a b,hf,n,hn=>⟨fun hl=>J5 k (lY a hf.1 _ (by cases k<;>decide)) (lY b hf.2 _ (by cases k<;>decide)) hl,fun l hl=>JY l k (lY a hf.1 _ (by cases k<;>decide)) (lY b hf.2 _ (by cases k<;>decide)) hl⟩
theorem u5 {fid:FuncId} {p:Rx->Bool} (args:List Rx) (hp:∀x∈args,aa Tryz.prog fid [dR x] (.one (dB (p x)))) (hl:args.length<=1000000):aa Tryz.prog 86 [.leaf (.sl args.length (d7 args)),dF fid] (.one (dN .i64 (if args.findIdx p<args.length then((args.findIdx p:Nat):Int)else -1))):=by
 have hf:=List.findIdx_le_length (p:=p) (xs:=args)
 have hn:∀(i:Nat) (hi:i<args.length),i<args.findIdx p->p args[i]=false:=fun i hi h=>by
  exact tY
 have hy:∀(h:args.findIdx p<args.length),p (args[args.findIdx p])=true:=fun h=>List.findIdx_getElem
 generalize args.findIdx p=f at *;refine kV func86 ?_
 refine ax Nat (fun i=>i<=f) (fun i=>⟨[(0, .d (.leaf (.sl args.length (d7 args)))),(1, .d (dF fid)),(4, .d (dN .i64 0)),(7, .d (dN .i64 args.length)),(8, .d (dN .i64 i))],[]⟩) (fun i=>args.length-i) 0 (Nat.zero_le _)
  kw ?_
 intro i hi;refine kI ?_
 by_cases hlt:i<args.length
 ·refine kT ?_
  obtain⟨o1,na1,xs1,nb1,ys1,nm1,n1,cs1,hA⟩:=aN args[i];have hx:args[i]? =some args[i]:=by simp[hlt]
  have hat:∀(j:Nat) (a:AV),(ab o1 na1 xs1 nb1 ys1 nm1 n1 cs1)[j]? =some a->(d7 args)[i*7+j]? =some a:=fun j a h=>dz args i args[i] hx j a (by rw[hA];exact h)
  have c:=hp args[i] (List.getElem_mem hlt);rw[show dR args[i]= .agg (ab o1 na1 xs1 nb1 ys1 nm1 n1 cs1) from congrArg DV.agg hA]at c;refine rS ?_;refine kO ?_;cases hb:p args[i]
  ·rw[hb]at c
   refine kC (c) ?_;refine Ig ?_
   by_cases e:i=f
   ·subst e;have:=hy hlt;rw[hb]at this;cases this
   ·omega
  ·rw[hb]at c
   have e:i=f:=by
    by_cases e:i<f
    ·have:=hn i hlt e;rw[hb]at this;cases this
    ·omega
   subst e;rw[if_pos hlt];refine kC (c) ?_;exact am
 ·rw[if_neg (by omega)]
  refine kE ?_;exact am
theorem ek {fid:FuncId} {p:Rx->Bool} (args:List Rx) (hp:∀x∈args,aa Tryz.prog fid [dR x] (.one (dB (p x)))) (hl:args.length<=1000000) {b:Bool} (hb:args.any p=b):aa Tryz.prog 42 [.leaf (.sl args.length (d7 args)),dF fid] (.one (dB b)):=by
 have c:=u5 args hp hl
 have hlt:(args.findIdx p<args.length)↔args.any p=true:=by
  rw[List.any_eq_true];exact List.findIdx_lt_length
 cases b with
 |true=>
  rw[if_pos (hlt.2 hb)]at c;refine kV func42 ?_;refine kC (c) ?_;refine kT ?_;exact am
 |false=>
  rw[if_neg (fun h=>by rw[hlt.1 h]at hb;cases hb)]at c;refine kV func42 ?_;refine kC (c) ?_;exact am
theorem rG:aa Tryz.prog 126 [F0] (.one (dB true)):=by
 show aa Tryz.prog _ [.agg jq] _;refine kU func126 ?_;exact am
theorem f7 {x:Rx} {b:Bool} (h:aa Tryz.prog 87 [dR x] (.one (dB b))):aa Tryz.prog 127 [dR x] (.one (dB (!b))):=by
 obtain⟨o1,na1,xs1,nb1,ys1,nm1,n1,cs1,hA⟩:=aN x;rw[show dR x= .agg (ab o1 na1 xs1 nb1 ys1 nm1 n1 cs1) from congrArg DV.agg hA]at h ⊢;cases b
 all_goals
  refine kV func127 ?_;refine kC (h) ?_;exact kF
theorem TU (a:Ex):d7 [rx a]=aE a:=by
 show aR (rx a)++[]=_;rw[List.append_nil];rfl
theorem TE (a b:Ex):d7 [rx a,rx b]=aE a++aE b:=by
 show aR (rx a)++(aR (rx b)++[])=_;rw[List.append_nil];rfl
theorem gL:∀(e:Ex),pu e->aa Tryz.prog 87 [dE e] (.one (dB true))
 | .num v u,hf=>by
  obtain⟨h1,h2,h3⟩:=hf;obtain⟨t,c,ht⟩:=it h2 (by decide);rw[h1]at c;show aa Tryz.prog _ [.agg ([.val (.int .i64 1)]++aQ v++[.val (vL u), .sl 0 []])] _
  by_cases hu:u=[]
  ·subst hu
   refine gF ?_;refine Dg ?_;refine kW ?_;refine kC (c) ?_;refine kG ?_
   refine kO4 ?_
   refine aD rfl rfl rfl rfl rfl rfl rfl (bv (a:=[]) (b:=[]) rfl) ?_;exact am
  ·have hn:=h3.resolve_left hu
   have ci:=fB u (by
    cases u with
    |nil=>exact absurd rfl hu
    |cons c r=>simp only[pB,Bool.and_eq_true,decide_eq_true_eq]at hn;omega)
   rw[hn]at ci;refine gF ?_;refine Dg ?_;refine kW ?_;refine kC (c) ?_;refine kG ?_
   refine kO4 ?_
   refine Jy ?_
   refine kO3 ?_
   refine kC (ci) ?_;exact am
 | .nam s,hf=>by
  have hn:pB s=true:=hf
  have ci:=fB s (by
   cases s with
   |nil=>cases hn
   |cons c r=>simp only[pB,Bool.and_eq_true,decide_eq_true_eq]at hn;omega)
  rw[hn]at ci;show aa Tryz.prog _ [.agg ([.val (.int .i64 2)]++jq++[.val (vL s), .sl 0 []])] _;refine gF ?_;refine HL ?_;refine kW ?_;refine kQ (rG) ?_;refine kC (ci) ?_;exact am
 | .neg a,hf=>by
  have c:=ek (fid:=127) (p:=fun _=>false) [rx a] (fun x hx=>by
   cases List.mem_singleton.1 hx;exact f7 (gL a hf)) (by simp) (b:=false) rfl
  rw[TU]at c;obtain⟨o1,na1,xs1,nb1,ys1,nm1,n1,cs1,hA⟩:=bd a;rw[show dE (.neg a)= .agg ([.val (.int .i64 3)]++jq++[.val (vL []), .sl 1 (aE a)]) from congrArg DV.agg (nV a)];rw[hA]at c ⊢;refine gF ?_;refine H7 ?_;refine Jo ?_;exact am
 | .bin k a b,hf=>by
  have c:=ek (fid:=127) (p:=fun _=>false) [rx a,rx b] (fun x hx=>by
   rcases List.mem_cons.1 hx with rfl|hx
   ·exact f7 (gL a hf.1)
   ·cases List.mem_singleton.1 hx
    exact f7 (gL b hf.2)) (by simp) (b:=false) rfl
  rw[TE]at c;obtain⟨o1,na1,xs1,nb1,ys1,nm1,n1,cs1,hA⟩:=bd a;obtain⟨o2,na2,xs2,nb2,ys2,nm2,n2,cs2,hA2⟩:=bd b;refine M2 ?_;rw[hA,hA2]at c ⊢;cases k
  ·refine gF ?_
   refine FD ?_;refine Jo ?_;exact am
  ·refine gF ?_
   refine Is ?_;refine Jo ?_;exact am
  ·refine gF ?_
   refine IP ?_;refine Jo ?_;exact am
  ·refine gF ?_
   refine ID ?_;refine Jo ?_;exact am
theorem Ae {e:Ex} (hf:pu e) (hw:lV (rx e)) (hs:fW (rx e)<=1000000) (hd:s7 (rx e)<=40):aa Tryz.prog 44 [dE e] (.one (dN .i64 0)):=by
 have c1:=gL e hf;have c2:aa Tryz.prog 81 [dE e] (.one (dN .i64 (s7 (rx e)))):=l5 (rx e) hw hs;obtain⟨o1,na1,xs1,nb1,ys1,nm1,n1,cs1,hA⟩:=bd e;rw[show dE e= .agg (ab o1 na1 xs1 nb1 ys1 nm1 n1 cs1) from congrArg DV.agg hA]at c1 c2 ⊢;refine kU func44 ?_;exact Gh
theorem Qb:∀(e:Ex),pu e->bU e 0≠[]
 | .num v u,hf=>by
  obtain⟨d,hd⟩:=Option.isSome_iff_exists.1 hf.1;show xI 4 0 (K7 v++qy u)≠[];rw[sL,K7,hd];intro h;exact wu hd (List.append_eq_nil_iff.1 h).1
 | .nam s,hf=>by
  show xI 4 0 s≠[];rw[sL];intro h;subst h;cases hf
 | .neg a,hf=>by
  show xI 3 0 ([45]++bU a 3)≠[];rw[sL]
  simp
 | .bin k a b,hf=>by
  show xI (eW k) 0 (bU a (eW k)++nw k++bU b (eW k+1))≠[];rw[sL];cases k<;>simp[nw]
theorem yx {e:Ex} (hf:pu e) (hw:lV (rx e)) (hs:fW (rx e)<=1000000) (hd:s7 (rx e)<=40) (hl:(bU e 0).length<=65536):aa Tryz.prog 63 [dE e] (.tup [dL (bU e 0),dN .i64 0]):=by
 have c1:=Ae hf hw hs hd;have c2:au Tryz.prog 105 [.box 850 0, .d (dE e), .d (dN .i64 0)] Ux (.v (.tup [])) (KO 701 (bU e 0)):=((lY e hf 0 (by decide)).w0 (by omega)).swap 950 850 rfl;have c3:=PF (bU e 0) (by omega);have c4:=E6 (bU e 0) (Qb e hf);generalize bU e 0=t at *;obtain⟨o1,na1,xs1,nb1,ys1,nm1,n1,cs1,hA⟩:=bd e;rw[show dE e= .agg (ab o1 na1 xs1 nb1 ys1 nm1 n1 cs1) from congrArg DV.agg hA]at c1 c2 ⊢;refine kU func63 ?_;refine gG ?_;refine SB x5 rfl rfl rfl rfl rfl rfl ?_;refine kW ?_;refine kZ (c2) ?_;refine kD (c3) ?_;refine kY ?_;refine kD (c4) ?_;exact am
theorem xB {na nb:Bool} {xs ys:List Nat} (hl:xs.length<=2147483648) (hl':ys.length<=2147483648):aa Tryz.prog 24 [Fd na xs nb ys,Fd na xs nb ys] (.one (dB true)):=by
 have c1:aa Tryz.prog 59 [dI na xs,dI na xs] (.one (dB true)):=fy hl (kb rfl);have c2:aa Tryz.prog 59 [dI nb ys,dI nb ys] (.one (dB true)):=fy hl' (kb rfl);refine kU func24 ?_;refine gG ?_;refine kC (c2) ?_;exact am
inductive JO:Rx->Prop
 |mk {op:Int} {na:Bool} {xs:List Nat} {nb:Bool} {ys:List Nat} {nm:List UInt8} {args:List Rx}:xs.length<=2147483648->ys.length<=2147483648->args.length<=1000000->(∀x∈args,JO x)->JO (.mk op na xs nb ys nm args)
theorem Ru (c:UInt8) (h:gb c) (h0:c≠48):jy false [c]:=⟨by simp,fun x hx=>by cases List.mem_singleton.1 hx;exact h, .inl fun x r hr=>by cases hr;exact h0⟩
theorem OS (c:UInt8) (h:gb c) (h0:c≠48) (hb:tz c=true):iN [c]=some ((num [c]:Int):Rat):=by
 have e1:fJ [c]=[c]:=by simp[fJ,hb]
 have e2:jz [c]=[]:=by simp[jz,hb]
 unfold iN;rw[e1,e2,if_pos (Ru c h h0)]
theorem xK (c:UInt8) (h:gb c) (h0:c≠48) (hb:tz c=true) (h45:c≠45):fS [c]=some ((num [c]:Int):Rat):=by
 have e3:mE [c]=[c]:=by simp[mE,h45]
 have e4:d4 [c]=false:=by simp[d4,h45]
 unfold fS;rw[if_pos (by simp),e3,OS c h h0 hb,e4];rfl
theorem UF:fS [50]=some ((2:Int):Rat):=xK 50 (by decide) (by decide) (by decide) (by decide)
theorem Rs:fmt 2=[50]:=by
 unfold fmt;rw[if_neg (by decide),if_neg (by decide)];show []++l8 2=_;rw[dY (by decide)];show []++(l8 0++[dg 2])=_;rw[dM];rfl
theorem T4:fmt 1=[49]:=by
 unfold fmt;rw[if_neg (by decide),if_neg (by decide)];show []++l8 1=_;rw[dY (by decide)];show []++(l8 0++[dg 1])=_;rw[dM];rfl
theorem T3:fT ((2:Int):Rat)=some [50]:=by
 unfold fT;rw[if_neg (by decide),lj,if_pos (by rfl),show(pw ((2:Int):Rat) 0).num=2 from rfl,Rs];rfl
end Go.Proofs.YtnchbpoopnjghaaGreatDoor
