/- Format of the program (under way). -/
import Derived.Test.YtnchbpoopnjghaaGreatDoorQZ4
set_option maxHeartbeats 100000000
set_option linter.all false
open Go.Proofs.Tryz
namespace Go.Proofs.YtnchbpoopnjghaaGreatDoor
open Go.RowKit
section
open Go.RowKit Go.Shelf
attribute [local go_sem] Oper.semAt_some
set_option maxRecDepth 100000 in
theorem Fw (A:Option Addr) (n c:Nat) (xs:List Nat) (w:World) (hx:bi w A n c xs) (h0:0<n) (hs:n<=4294967296):
 Calls Tryz.prog 236 #[.slice A n c] w fun e w'=>∃v',e= .returned v'/\w'.ownsRow w.heap.size 135 1 v' n (xs.map bZ)/\Below w.heap.size w w':=by
 obtain⟨i0,hi,hz0,hz1,hz2⟩:=info_parts Tryz.infoU32;rcases hx.cells with h1| ⟨b,off,e,hc⟩
 ·have:=hx.len
  have h2:xs=[]:=by simpa using h1
  rw[h2]at this
  simp at this
  omega
 ·cases e
  ·refine(Tryz.slices_Clone i0 (.int .u32 0) 1 4 hi hz0 hz1 hz2 rfl D_ (fun w=>by first|exact sizeOf135 w|exact bJ (by rw[hi];exact congrArg some hz1) w) b off n c (xs.map bZ) w (by simp[hx.len]) (by unfold maxLen;omega) O_ (fun j u hj=>?_) (fun u hu=>?_)).mono ?_
   ·rw[List.getElem?_map]at hj
    cases hxj:xs[j]? with
    |none=>rw[hxj]at hj;cases hj
    |some x=>
     rw[hxj]at hj
     simp only[Option.map_some,X_]at hj
     subst hj;have hjl:=(G_.1 hxj).1;have:=hc j (bZ x) (by rw[List.getElem?_map,hxj];rfl);exact this
   ·obtain⟨x,_,rfl⟩:=List.mem_map.1 hu
    rfl
   ·rintro e w' ⟨v',rfl,ho,_,hb⟩
    exact⟨v',rfl,ho,hb⟩
theorem jx {w w':World} {B g k:Nat} {e:TypeId} {v:Value} {n:Nat} {xs:List Value} (h:w.ownsRow B e k v n xs) (hb:∀b,b≠g->w'.heap[b]? =w.heap[b]?) (hne:v.ownBlock≠some g):w'.ownsRow B e k v n xs:=by
 refine⟨h.1,h.2.imp id ?_⟩;rintro⟨g',cap,cur,rfl,h1,h2,h3⟩;exact⟨g',cap,cur,rfl,h1,by rw[hb g' (fun e=>hne (by rw[<- e];rfl))];exact h2,h3⟩
theorem Jo {d r1 rr x V U:Nat} (h:V*1000000000+rr=U) (hd:(rr*4294967296+x)/1000000000=d) (hr:(rr*4294967296+x)%1000000000=r1):(d+4294967296*V)*1000000000+r1=x+4294967296*U:=by
 have:=Nat.div_add_mod (rr*4294967296+x) 1000000000;rw[hd,hr]at this;subst h;rw[Nat.add_mul,Nat.mul_add,Nat.mul_comm d,Nat.mul_assoc];generalize V*1000000000=W;omega
def CG (len:Nat) (p:Nat × Nat):List UInt8:=if(p.1:Int)<(len:Int)-1 then uN (p.2%1000000000)else dd (p.2%1000000000)
def oQ (len:Nat) (l:List (Nat × Nat)):List UInt8:=l.flatMap (CG len)
theorem vZ (len:Nat) (l:List (Nat × Nat)) (p:Nat × Nat):oQ len (l++[p])=oQ len l++CG len p:=by unfold oQ;simp
theorem q8 (n:Nat):n%1000000000<1000000000:=Nat.mod_lt _ D_
theorem Ks {c:Nat} (h:c<1000000000):(uN c).length=9:=by
 have:=(xd h).2;unfold uN;simp;omega
theorem LY (len:Nat) (p:Nat × Nat):(CG len p).length<=9:=by
 unfold CG;split
 ·exact Nat.le_of_eq (Ks (q8 _))
 ·exact(xd (q8 _)).2
theorem zk (len:Nat) (l:List (Nat × Nat)):(oQ len l).length<=9*l.length:=by
 induction l with
 |nil=>simp[oQ]
 |cons p l ih=>
  have e:oQ len (p::l)=CG len p++oQ len l:=rfl;have:=LY len p;rw[e,L_,List.length_cons];omega
theorem vC {xs:List Nat} (h9:∀x∈xs,x<1000000000) (hne:xs≠[]):oQ xs.length (upto (dH xs) xs.length)=SF xs.reverse:=by
 obtain⟨m,hm⟩:∃m,xs.length=m+1:=⟨xs.length-1,by have:=List.length_pos_iff.2 hne;omega⟩
 have hr:xs.reverse=xs.getD m 0::(List.range m).map fun j=>xs.getD (m-1-j) 0:=by
  apply List.ext_getElem
  ·simp[hm]
  ·intro i h1 h2
   rw[List.getElem_reverse];have hi:i<m+1:=by simpa[hm]using h1
   match i,hi with
   |0,_=>simp[H_,hm]
   |i+1,hi=>
    simp only[List.getElem_cons_succ,List.getElem_map,List.getElem_range,H_]
    rw[Q_ O_]
    simp only[Option.getD_some]
    congr 1
    omega
 rw[hr];unfold upto oQ;rw[hm,List.range_succ_eq_map,List.map_cons,List.flatMap_cons,List.map_map]
 have e0:CG (m+1) (dH xs 0)=dd (xs.getD m 0):=by
  unfold CG dH;dsimp only;rw[if_neg O_,hm,Nat.mod_eq_of_lt (wF D_ h9 _)];rfl
 rw[e0];show _=dd _++((List.range m).map _).flatMap uN
 congr 1
 rw[List.flatMap_map,List.flatMap_map]
 have hh:∀j∈List.range m,CG (m+1) (dH xs (j+1))=uN (xs.getD (m-1-j) 0):=by
  intro j hj;have hj:=List.mem_range.1 hj;unfold CG dH;dsimp only;rw[if_pos O_,Nat.mod_eq_of_lt (wF D_ h9 _)]
  congr 2
  omega
 clear e0 hr
 revert hh
 generalize List.range m=R;intro hh
 induction R with
 |nil=>rfl
 |cons j R ih=>
  rw[List.flatMap_cons,List.flatMap_cons,ih (fun j hj=>hh j (by simp[hj]))]
  congr 1
  exact hh j S_
theorem fy {T e:TypeId} {B b:Nat} {bs:List Value} {W W':World} (h:Lib.IsBuilderF T e B b bs W) (hk:∀(k:Nat) c t f,W.heap[k]? =some (Obj.cells c t f)->W'.heap[k]? =some (Obj.cells c t f)):Lib.IsBuilderF T e B b bs W':=by
 have key:∀p,Lib.BuilderAtF T e B b p bs W->Lib.BuilderAtF T e B b p bs W':=by
  rintro p ⟨hB,v,hb,ho,hne⟩;refine⟨hB,v,hk _ _ _ _ hb,⟨ho.1,ho.2.imp id ?_⟩,hne⟩;rintro⟨g,cap,cur,fz,h1,h2,h3,h4⟩;exact⟨g,cap,cur,fz,h1,h2,hk _ _ _ _ h3,h4⟩
 exact h.imp (key _) (key _)
theorem dP {W W':World} (h:Below W.heap.size W W'):∀(k:Nat) c t f,W.heap[k]? =some (Obj.cells c t f)->W'.heap[k]? =some (Obj.cells c t f):=fun k _ _ _ hk=>(h.block k (A_.1 hk).1).trans hk
theorem CR {T e:TypeId} {N B b:Nat} {f:List (Nat × Nat)->List Value}:OwnFrom N (fun pre W=>Lib.IsBuilderF T e B b (f pre) W):=by
 intro s W W' row hs hg hr;refine fy hs fun k c t fz hk=>?_
 rw[hg.block k (A_.1 hk).1 (fun e=>?_)]
 ·exact hk
 ·obtain⟨_,o,ho,hc⟩:=hr k e.symm
  rw[hk]at ho;cases ho;cases hc
theorem vT {β:Type} (N g:Nat) (cs:Array Value) (t:TypeId):OwnFrom N (fun(_:β) W=>W.heap[g]? =some (Obj.cells cs t (0,0))):=by
 intro s W W' row hs hg hr;show W'.heap[g]? =_;rw[hg.block g (A_.1 hs).1 (fun e=>?_)]
 ·exact hs
 ·obtain⟨_,o,ho,hc⟩:=hr g e.symm
  rw[hs]at ho;cases ho;cases hc
theorem nG {W W':World} (h:Below W.heap.size W W'):KeepsOthers W W':=⟨h.size,fun k _ hk _=>(h.block k (A_.1 hk).1).trans hk⟩
theorem ld {T e:TypeId} {B b:Nat} {bs:List Value} {W W':World} (hb:Lib.IsBuilderF T e B b bs W) (hs:W.heap.size<=W'.heap.size) (h:Lib.OthersKept e (some b) W W'):KeepsOthers W W':=by
 refine⟨hs,fun k o hk ho=>h k o hk (fun e0=>?_) (fun c fz e0=>by subst e0;cases ho)⟩;cases e0
 have key:∀p,Lib.BuilderAtF T e B b p bs W->False:=by
  rintro p ⟨_,v,hb,_⟩;rw[hk]at hb;cases hb;cases ho
 exact hb.elim (key _) (key _)
theorem lB {e t:TypeId} {N b Bs:Nat} {v:Value} {W W':World} (hb:Below N W W') (hc:W.heap[Bs]? =some (Obj.cells #[v] t (0,0))) (ht:t≠e) (hne:Bs≠b) (h:Lib.OthersKept e (some b) W W'):KB N Bs W W':=
 ⟨hb,(h Bs _ hc (fun e0=>hne (Option.some.inj e0)) (fun c fz e0=>ht (by cases e0;rfl))).trans hc.symm⟩
theorem gH (l m:List UInt8):Lib.byteCells l++Lib.strCells ⟨m.toArray⟩=Lib.byteCells (l++m):=by
 rw[Lib.strCells_toArray]
 simp[Lib.byteCells]
theorem AA (l:List UInt8):(ByteArray.mk l.toArray).size=l.length:=aJ l
theorem Up (q:Nat):Lib.repeatL [48] q=List.replicate q 48:=by
 induction q with
 |zero=>rfl
 |succ q ih=>rw[Lib.repeatL,ih];rfl
theorem Dc {cc m:Nat} (hS9:1<=(dd cc).length/\(dd cc).length<=9) (hm:m=(dd cc).length) (W:World):Calls Tryz.prog 178 #[.string ⟨#[48]⟩, .int .i64 ((9:Int)-(m:Int))] W fun e w'=>e= .returned (.string ⟨(List.replicate (9-(dd cc).length) (48:UInt8)).toArray⟩)/\Below W.heap.size W w':=by
 have h:=Tryz.strings_Repeat ⟨#[48]⟩ (9-(dd cc).length) W O_ (by show 1*_<=_;omega);rw[show((9-(dd cc).length:Nat):Int)=(9:Int)-(m:Int) by omega]at h;refine h.mono ?_;rintro e w' ⟨rfl,hb⟩;exact⟨by rw[show((⟨#[48]⟩:ByteArray).data.toList)=[48] from rfl,Up],hb⟩
theorem FA {xs:List Nat} (h:val xs≠0):[]++mE (val xs)=fmt (bI false xs):=by
 have e:bI false xs=(val xs:Int):=rfl;rw[e];unfold fmt;rw[if_neg O_,if_neg O_,b_]
theorem Kn {xs:List Nat} (h:val xs≠0):[45]++mE (val xs)=fmt (bI true xs):=by
 have e:bI true xs= -(val xs:Int):=rfl;rw[e];unfold fmt;rw[if_neg O_,if_pos O_,Int.natAbs_neg,b_]
def wH:Value->World->Nat
 | .slice (some a) n _,w=>val ((List.range n).map fun i=>match w.cell? ⟨a.block,a.off+i,none⟩with|some (.int _ k)=>k.toNat|_=>0)
 |_,_=>0
theorem sK {w:World} {B g cap:Nat} {e:TypeId} {ms:List Nat} (h:w.ownsRow B e 1 (.slice (some ⟨g,0,none⟩) ms.length cap) ms.length (ms.map bZ)):wH (.slice (some ⟨g,0,none⟩) ms.length cap) w=val ms:=by
 show val _=_
 congr 1
 apply List.ext_getElem
 ·simp
 ·intro i h1 h2
  have hc:=h.cells (g:=g) rfl i (bZ ms[i]) (by simp[h2]);have hadd:(⟨g,0,none⟩:Addr).add i=⟨g,i,none⟩:=by unfold Addr.add;split <;>simp_all
  rw[hadd]at hc
  simp[hc,bZ]
theorem Kg {w:World} {B g n k cap:Nat} {e:TypeId} {xs:List Value} (h:w.ownsRow B e 1 (.slice (some ⟨g,0,none⟩) n cap) n xs) (hk:k<=n):w.ownsRow B e 1 (.slice (some ⟨g,0,none⟩) k cap) k (xs.take k):=by
 have hl:=h.1;refine⟨by simp;omega, .inr ?_⟩;rcases h.2 with⟨h1,_⟩| ⟨g',cap',cur,h1,h2,h3,h4,h5,h6,h7⟩
 ·cases h1
 ·cases h1
  refine⟨g,cap,cur,rfl,h2,h3,by omega,h5,h6,?_⟩;rw[<- h7,List.take_take]
  congr 1
  omega
set_option maxRecDepth 100000 in
theorem Fy (v:Value) (na:Bool) (xs:List Nat) (w:World) (h:Jt w v na xs) (hl:xs.length<=1000) (htab:m0 w):
 CallsIn Fence.wide 4 Tryz.prog 177 #[v] w fun e w'=>e= .returned (.string (Bs (fmt (bI na xs))))/\Below w.heap.size w w':=by
 obtain⟨A,n,c,rfl,hx⟩:=h;have hro:Fence.wide.round=none:=rfl;have hcap:=hx.cap;have hlim:=hx.lim;have htrim:=gi A n c xs;have Hx:=Lib.hid hx;have Htrim:=Lib.hid htrim;have Htab:=Lib.hid htab;clear hx htab htrim;refine callsIn_of_wp_marks func177 rfl trivial ?_ hro
 simp only[ntmps177,List.size_toArray,List.length_cons,List.length_nil,Nat.reduceAdd,Nat.reduceSub,Array.replicate_succ,Array.replicate_zero,List.push_toArray,List.append_toArray,List.nil_append,List.cons_append]
 by_cases ht:trim xs=[]
 ·have hv0:val xs=0:=by rw[<- dm,ht];rfl
  have hz:fmt (bI na xs)=[48]:=by
   have:bI na xs=0:=by unfold bI;rw[hv0];cases na<;>rfl
   rw[this];rfl
  rw[hz];rw[ht]at Htrim;have hw0:bi w A 0 c []:=⟨rfl,Nat.zero_le _,hlim,Wd.nil, .nil _ _,Hx.out.isnil⟩;have Hcl:=Lib.hid (oA A 0 c [] (w.alloc (.cells #[.bool na, .slice A n c] 36)) (hw0.alloc _) D_);clear hw0 hz hv0
  gi_wp2_with (first|(refine⟨trivial,?_⟩;gi_at_call 194;refine(callsIn_wide.2 (Htrim.out _ (Hx.out.alloc _))).mono ?_;rintro e w' ⟨rfl,rfl⟩)|(refine⟨trivial,?_⟩;gi_at_call 236;refine(callsIn_wide.2 Hcl.out).mono ?_;rintro e w' ⟨A',n',c',zs,rfl,hz',rfl,hb'⟩;obtain rfl:=hz'.len))
  refine⟨_,results_tmp rfl _ _ _,rfl,?_⟩;exact((Below.refl _ w).alloc (l_ _) _).trans (hb'.mono S_)
 ·have hpos:0<(trim xs).length:=List.length_pos_iff.2 ht
  have hw0:bi w A (trim xs).length c (trim xs):=Hx.out.trim;have htl:(trim xs).length<=1000:=by have:=bR Hx.out.wd;omega
  have Hcl:=Lib.hid (Fw A (trim xs).length c (trim xs) (w.alloc (.cells #[.bool na, .slice A n c] 36)) (hw0.alloc _) hpos O_);clear hw0;have Hpos:=Lib.hid hpos;have hi1:((trim xs).length:Int)≠0:=O_
  gi_wp2_with (first|(refine⟨trivial,?_⟩;gi_at_call 194;refine(callsIn_wide.2 (Htrim.out _ (Hx.out.alloc _))).mono ?_;rintro e w' ⟨rfl,rfl⟩)|(refine⟨trivial,?_⟩;gi_at_call 236;refine(callsIn_wide.2 Hcl.out).mono ?_;rintro e w' ⟨v',rfl,ho',hb'⟩;obtain⟨g,cap,cur,rfl,hg1,hg2,hg3,hg4,hg5,hg6⟩:=ho'.2.resolve_left (by rintro⟨_,h0⟩;omega)))
  simp only[show(((trim xs).length:Int) == 0)=false from beq_eq_false_iff_ne.2 hi1]
  gi_loopw [3] (fun m wr=>∃(ms chs:List Nat) (cv:Value),m= .slice (some ⟨g,0,none⟩) ms.length cap/\wr.ownsRow (w.heap.size+1) 135 1 m ms.length (ms.map bZ)/\ms=digs (val ms)/\ms.length<=1000/\chs++ch (val ms)=ch (val xs) /\
   wr.heap[w'.heap.size]? =some (.cells #[cv] 34 (0,0))/\wr.ownsRow (w'.heap.size+1) 135 1 cv chs.length (chs.map bZ)/\Below (w.heap.size+1) w' wr)
   (fun m wr=>wH m wr)
  case atStart=>
   rw[World.size_alloc]at ho' hb' hg1;have hg:g<w'.heap.size:=(A_.1 hg2).1
   refine⟨trim xs,[], .slice none 0 0,rfl,ho'.alloc _,by rw[dm];rfl,htl,by rw[dm];rfl,by rw[heap_alloc_new],World.ownsRow_nil _ _ _ _,(Below.refl _ _).alloc (by have:=hb'.size;simp at this;omega) _⟩
  case round=>
   obtain⟨ms,chs,cv,rfl,hm,hmd,hml,hch,hcv,hcr,hbw⟩:=hrel;have hne1:cv.ownBlock≠some g:=fun e=>by have:=(hcr.lt g e).1;have:=(A_.1 hg2).1;omega
   have hne2:cv.ownBlock≠some w'.heap.size:=fun e=>by have:=(hcr.lt _ e).1;omega
   have Hm:=Lib.hid hm;have Hmd:=Lib.hid hmd;have Hch:=Lib.hid hch;have Hcv:=Lib.hid hcv;have Hcr:=Lib.hid hcr;have Hw':=Lib.hid hbw;clear hm hmd hch hcv hcr hbw
   by_cases hz:ms.length=0
   ·have hz1:¬((ms.length:Int) > 0):=O_
    have hmn:ms=[]:=E_ hz
    have hchs:chs=ch (val xs):=by
     have:=Hch.out;rw[hmn,show val []=0 from rfl,lw,c_]at this;exact this
    have hv0:val xs≠0:=fun e=>ht (by show digs (val xs)=[];rw[e,aK])
    have hne:chs≠[]:=by rw[hchs];exact NV hv0
    have h9:∀x∈chs,x<1000000000:=by rw[hchs];exact TC _
    have hcl:chs.length<=2000:=by
     have h2:=nS Hx.out.wd;rw[hchs];omega
    have hwd9:Wd chs:=fun x hx=>Nat.lt_trans (h9 x hx) D_
    obtain⟨k,cap2,cur2,rfl,hk1,hk2,hk3,hk4,hk5,hk6⟩:=Hcr.out.2.resolve_left (by rintro⟨_,h0⟩;exact hne (E_ h0));have hW:bi wr (some ⟨k,0,none⟩) chs.length cap2 chs:=gQ Hcr.out hwd9 hk3 (by unfold maxLen at hk4;omega)
    have hneg:wr.cell? ⟨w.heap.size,0,none⟩=some (.bool na):=by
     have h1:(w.alloc (.cells #[.bool na, .slice A n c] 36)).cell? ⟨w.heap.size,0,none⟩=some (.bool na):=by rw[Lib.cell_of_heap (heap_alloc_new _ _)];rfl
     rw[World.size_alloc]at hb';exact(Hw'.out.cell (p:=⟨w.heap.size,0,none⟩) (m_ _)).trans ((hb'.cell (p:=⟨w.heap.size,0,none⟩) (m_ _)).trans h1)
    have hchunk:wr.cell? ⟨w'.heap.size,0,none⟩=some (.slice (some ⟨k,0,none⟩) chs.length cap2):=by rw[Lib.cell_of_heap Hcv.out];rfl
    have htxt:SF chs.reverse=mE (val xs):=by rw[hchs];exact Sc _
    have hBx:Below w.heap.size w wr:=by
     rw[World.size_alloc]at hb';exact((Below.refl _ w).alloc (l_ _) _).trans ((hb'.trans Hw'.out).mono (Nat.le_succ _))
    have hB0:Lib.IsBuilderF 139 5 wr.heap.size wr.heap.size (Lib.byteCells []) (wr.alloc (.cells #[.pointer none, .slice none 0 0] 139)):= .inl ⟨l_ _,_,heap_alloc_new _ _,World.ownsRowF_nil _ _ _ _,by simp[Value.ownBlock]⟩;have Hchs:=Lib.hid hchs;have Hne:=Lib.hid hne;have H9:=Lib.hid h9;have HW:=Lib.hid hW;have Htxt:=Lib.hid htxt;have HBx:=Lib.hid hBx;have HB0:=Lib.hid hB0;have Hv0:=Lib.hid hv0;have Htab':Hid (m0 wr):=Lib.hid (Htab.out.mono hBx rfl);clear hchs hne h9 hW htxt hBx hB0 hv0 hwd9 hk2 hk5 hk6 hmn
    have hbs:w.heap.size+1<=wr.heap.size:=by
     have h1:=hg1;have h2:=(A_.1 Hcv.out).1;rw[World.size_alloc]at h1 hb';have:=hb'.size
     simp at this
     omega
    have hws:w.heap.size<wr.heap.size:=O_
    have hBlt:=(A_.1 Hcv.out).1;have hneg1:(wr.alloc (.cells #[.pointer none, .slice none 0 0] 139)).cell? ⟨w.heap.size,0,none⟩=some (.bool na):=by rw[World.cell?_of_block (w:=wr) (a:=⟨w.heap.size,0,none⟩) (Lib.alloc_old wr _ _ hws)];exact hneg
    have hchunk1:(wr.alloc (.cells #[.pointer none, .slice none 0 0] 139)).cell? ⟨w'.heap.size,0,none⟩=some (.slice (some ⟨k,0,none⟩) chs.length cap2):=by rw[World.cell?_of_block (w:=wr) (a:=⟨w'.heap.size,0,none⟩) (Lib.alloc_old wr _ _ hBlt)];exact hchunk
    have Hchunk:=Lib.hid hchunk;clear hneg hchunk;cases na
    ·gi_wp2_with (refine⟨trivial,?_⟩;gi_at_call 238;refine(j6 _ _ trivial hro _ _ _ _).mono ?_;rintro e w5 ⟨rfl,rfl⟩)
     have hbV:=HB0.out;have hBV:Below wr.heap.size wr (wr.alloc (.cells #[.pointer none, .slice none 0 0] 139)):=(Below.refl _ _).alloc (l_ _) _;have hlt0:wr.heap.size<(wr.alloc (.cells #[.pointer none, .slice none 0 0] 139)).heap.size:=S_
     obtain⟨V,hV⟩:∃V,V=(wr.alloc (.cells #[.pointer none, .slice none 0 0] 139)):=⟨_,rfl⟩;rw[<- hV]at hbV hBV hlt0 ⊢;have hVS:V.heap.size=(wr.heap.size+1):=by first|rfl|(rw[hV,World.size_alloc])
     clear hV;have hVs:=hBV.size;have HbV:=Lib.hid hbV;clear hbV hneg1 hchunk1 hne1 hne2 hk4 hg5 hg6 hg4 hg3 ho' Htrim Hcl Hm Hmd Hch Hcr;have hVa:Below wr.heap.size wr (V.alloc (.cells #[.slice (some ⟨k,0,none⟩) chs.length cap2] 34)):=hBV.alloc hVs _;have hbs1:(V.alloc (.cells #[.slice (some ⟨k,0,none⟩) chs.length cap2] 34)).heap[(wr.heap.size+1)]? =some (.cells #[.slice (some ⟨k,0,none⟩) chs.length cap2] 34 (0,0)):=(by rw[<- hVS];exact heap_alloc_new _ _);have hltZ:wr.heap.size<(wr.heap.size+1):=O_
     clear hlt0
     refine wpIn_rangeFunc_ownG hro D_ (gf:=286) (lb:= #[.pointer (some ⟨(wr.heap.size+1),0,none⟩)]) rfl trivial (enters_of func286 (by kernel_rfl) rfl)
      (pG Fence.wide 3 trivial hro D_ (wr.heap.size+1) (some ⟨k,0,none⟩) chs.length cap2 chs 1000000000 D_ H9.out wr _ HW.out hVa (by rw[World.size_alloc];have:=hVS;omega) (by rw[Lib.cell_of_heap hbs1];rfl)) (fun h k=>KB.trans h k) (KB.put (by simp;omega) (by rw[World.size_alloc];have:=hVS;omega)) (Below.refl _ _) (fun _=>rfl)
      (fun pre W=>Lib.IsBuilderF 139 5 wr.heap.size wr.heap.size (Lib.byteCells ([]++oQ chs.length pre)) W/\Below wr.heap.size wr W/\W.heap[(wr.heap.size+1)]? =some (.cells #[.slice (some ⟨k,0,none⟩) chs.length cap2] 34 (0,0)))
      (fun _ _ _=>False)
      (OwnFrom.and CR (OwnFrom.and (ownFrom_below (l_ _) (by simp;omega)) (vT _ _ _ _)))
      (fun _ _ _ _ _ hs _ _=>hs)
      ⟨fy HbV.out (dP ((Below.refl _ _).alloc (l_ _) _)),hVa,hbs1⟩ ?afalse ?assign ?body ?done ?stop
     all_goals clear hVS
     case assign=>
      intro l x W K hK
      gi_wp2
      exact hK
     case body=>
      rintro l pre x W ⟨hb,hB,hbs⟩ hlt;obtain⟨cc,hcc⟩:∃cc,cc=x.2%1000000000:=⟨_,rfl⟩;obtain⟨ix,hix⟩:∃ix,ix=x.1:=⟨_,rfl⟩;have hc9:cc<1000000000:=by rw[hcc];exact q8 _
      have hS9:=xd hc9;have hL:=zk chs.length pre;have hsn:=vZ chs.length pre x;have hpx:CG chs.length x=if(ix:Int)<(chs.length:Int)-1 then uN cc else dd cc:=by rw[hcc,hix];rfl
      rw[<- hcc,<- hix];have hfu:=gK cc O_ W (Htab'.out.mono hB rfl).here;rw[fA]at hfu;have hcW:W.cell? ⟨w'.heap.size,0,none⟩=some (.slice (some ⟨k,0,none⟩) chs.length cap2):=(hB.cell (p:=⟨w'.heap.size,0,none⟩) hBlt).trans Hchunk.out;have hwr:IntKind.u64.wrap (cc:Int)=cc:=by rw[IntKind.wrap_u64];omega
      have hWs:=hB.size;have hl1:(Lib.byteCells ([]++oQ chs.length pre)).length<=20000:=by rw[Lib.byteCells_length];simp;omega
      have Hcc:=Lib.hid hcc;have Hix:=Lib.hid hix;have Hsn:=Lib.hid hsn;have Hpx:=Lib.hid hpx;have Hfu:=Lib.hid hfu;have Hb:=Lib.hid hb;have HB:=Lib.hid hB;have Hbs:=Lib.hid hbs;clear hcc hix hsn hpx hfu hb hB hbs
      by_cases hp:(ix:Int)<(chs.length:Int)-1
      ·have hpt:CG chs.length x=List.replicate (9-(dd cc).length) 48++dd cc:=by rw[Hpx.out,if_pos hp];rfl
       have hrep:=fun W=>Dc (cc:=cc) hS9 rfl W
       have hsz:(ByteArray.mk (dd cc).toArray).size=(dd cc).length:=aJ _;have Hpt:=Lib.hid hpt;clear hpt
       gi_wp2
       refine⟨trivial,?_⟩
       gi_at_call 239
       refine(CallsIn.inRound l (callsIn_wide.2 Hfu.out)).mono ?_;rintro e w6 ⟨rfl,hb6⟩;have hc6:=(hb6.cell (p:=⟨w'.heap.size,0,none⟩) (by dsimp only;omega)).trans hcW;have Hb6:=Lib.hid (fy Hb.out (dP hb6));have hs6:=hb6.size
       gi_wp2
       refine⟨trivial,?_⟩
       gi_at_call 178
       refine(CallsIn.inRound l (callsIn_wide.2 (hrep _))).mono ?_;rintro e w7 ⟨rfl,hb7⟩;have Hb7:=Lib.hid (fy Hb6.out (dP hb7));have hs7:=hb7.size
       gi_wp2
       refine⟨trivial,?_⟩
       gi_at_call 103
       refine(CallsIn.inRound l (callsIn_wide.2 (eg wr.heap.size wr.heap.size _ ⟨(List.replicate (9-(dd cc).length) (48:UInt8)).toArray⟩ w7 Hb7.out (by rw[show(ByteArray.mk (List.replicate (9-(dd cc).length) (48:UInt8)).toArray).size=9-(dd cc).length by rw[AA _];simp];omega) O_))).mono ?_;rintro e w8 ⟨rfl,hb8,hw8,ho8⟩;rw[gH]at hb8;have Hb8:=Lib.hid (show Lib.IsBuilderF 139 5 wr.heap.size wr.heap.size _ w8 from .inr hb8);have hs8:=hw8.size;have Hw8:=Lib.hid hw8;have Ho8:=Lib.hid ho8;clear hb8 hw8 ho8
       gi_wp2
       refine⟨trivial,?_⟩
       gi_at_call 103
       refine(CallsIn.inRound l (callsIn_wide.2 (eg wr.heap.size wr.heap.size _ ⟨(dd cc).toArray⟩ w8 Hb8.out (by rw[hsz,Lib.byteCells_length];simp;omega) O_))).mono ?_;rintro e w9 ⟨rfl,hb9,hw9,ho9⟩;rw[gH]at hb9;have Hb9:=Lib.hid (show Lib.IsBuilderF 139 5 wr.heap.size wr.heap.size _ w9 from .inr hb9);have hs9:=hw9.size;have Hw9:=Lib.hid hw9;have Ho9:=Lib.hid ho9;clear hb9 hw9 ho9
       gi_wp2
       have h1:KB wr.heap.size (wr.heap.size+1) W w7:=⟨(hb6.mono hWs).trans (hb7.mono O_),(hb7.block _ (by have:=(A_.1 Hbs.out).1;omega)).trans (hb6.block _ (A_.1 Hbs.out).1)⟩;have h2:=lB Hw8.out (h1.2.trans Hbs.out) D_ O_ Ho8.out;have h3:=lB Hw9.out ((h1.trans h2).2.trans Hbs.out) D_ O_ Ho9.out;refine⟨?_,(h1.trans h2).trans h3,?_,?_,((h1.trans h2).trans h3).2.trans Hbs.out⟩
       ·exact QE
       ·exact OH
       ·exact N2
      ·have hpt:CG chs.length x=dd cc:=by rw[Hpx.out,if_neg hp]
       have hsz:(ByteArray.mk (dd cc).toArray).size=(dd cc).length:=aJ _;have Hpt:=Lib.hid hpt;clear hpt
       gi_wp2
       refine⟨trivial,?_⟩
       gi_at_call 239
       refine(CallsIn.inRound l (callsIn_wide.2 Hfu.out)).mono ?_;rintro e w6 ⟨rfl,hb6⟩;have hc6:=(hb6.cell (p:=⟨w'.heap.size,0,none⟩) (by dsimp only;omega)).trans hcW;have Hb6:=Lib.hid (fy Hb.out (dP hb6));have hs6:=hb6.size
       gi_wp2
       refine⟨trivial,?_⟩
       gi_at_call 103
       refine(CallsIn.inRound l (callsIn_wide.2 (eg wr.heap.size wr.heap.size _ ⟨(dd cc).toArray⟩ w6 Hb6.out (by rw[hsz,Lib.byteCells_length];simp;omega) O_))).mono ?_;rintro e w9 ⟨rfl,hb9,hw9,ho9⟩;rw[gH]at hb9;have Hb9:=Lib.hid (show Lib.IsBuilderF 139 5 wr.heap.size wr.heap.size _ w9 from .inr hb9);have hs9:=hw9.size;have Hw9:=Lib.hid hw9;have Ho9:=Lib.hid ho9;clear hb9 hw9 ho9
       gi_wp2
       have h1:KB wr.heap.size (wr.heap.size+1) W w6:=⟨hb6.mono hWs,hb6.block _ (A_.1 Hbs.out).1⟩;have h3:=lB Hw9.out (h1.2.trans Hbs.out) D_ O_ Ho9.out;refine⟨?_,h1.trans h3,?_,?_,(h1.trans h3).2.trans Hbs.out⟩
       ·exact((nG hb6).trans (ld Hb6.out hs9 Ho9.out)).from _
       ·have h4:=Hb9.out
        rw[e_,<- Hpt.out,<- Hsn.out]at h4;exact h4
       ·exact(HB.out.trans (hb6.mono hWs)).trans Hw9.out
     case done=>
      rintro D ys W hD rfl ⟨hb,hB,_⟩ hK;rw[vC H9.out Hne.out,Htxt.out,FA Hv0.out]at hb;have hWs:=hB.size;have hDs:w.heap.size<=D:=by rw[World.size_alloc]at hD;omega
      gi_wp2_with (refine⟨trivial,?_⟩;gi_at_call 104;refine(callsIn_wide.2 (Tryz.Builder_String_any_k wr.heap.size wr.heap.size _ W hb hWs)).mono ?_;rintro e w6 ⟨rfl,hb6,hw6,ho6⟩)
      have hK6:=(ld hb hw6.size ho6).same D _ hK rfl;refine⟨by simp, .inl ⟨_,_,rfl,run_takeDeferred hK6,?_⟩⟩;refine⟨_,results_tmp rfl _ _ _,rfl,?_⟩;exact(HBx.out.trans ((hB.trans hw6).mono O_)).trans (belowK_b (w:=w) (l_ _) w6 D _ _ hDs hK6 rfl rfl)
     case stop=>
      rintro D c pre W _ _ h _;exact h.elim
    ·gi_wp2_with (first|(refine⟨trivial,?_⟩;gi_at_call 237;refine(callsIn_wide.2 (zn wr.heap.size wr.heap.size (Lib.byteCells []) 45 _ HB0.out (by simp[Lib.byteCells]) S_)).mono ?_;rintro e w4 ⟨rfl,hb4,hw4,ho4⟩;have hcV:w4.cell? ⟨w'.heap.size,0,none⟩=some (.slice (some ⟨k,0,none⟩) chs.length cap2):=(hw4.cell (p:=⟨w'.heap.size,0,none⟩) hBlt).trans hchunk1)|(refine⟨trivial,?_⟩;gi_at_call 238;refine(j6 _ _ trivial hro _ _ _ _).mono ?_;rintro e w5 ⟨rfl,rfl⟩))
     have hbV:Lib.IsBuilderF 139 5 wr.heap.size wr.heap.size (Lib.byteCells [45]) w4:= .inr hb4;have hBV:Below wr.heap.size wr w4:=((Below.refl _ _).alloc (l_ _) _).trans hw4;have hlt0:=hb4.lt;clear ho4 hw4 hb4 hcV
     obtain⟨V,hV⟩:∃V,V=w4:=⟨_,rfl⟩;rw[<- hV]at hbV hBV hlt0 ⊢;have hVS:V.heap.size=V.heap.size:=by first|rfl|(rw[hV,World.size_alloc])
     clear hV;have hVs:=hBV.size;have HbV:=Lib.hid hbV;clear hbV hneg1 hchunk1 hne1 hne2 hk4 hg5 hg6 hg4 hg3 ho' Htrim Hcl Hm Hmd Hch Hcr;have hVa:Below wr.heap.size wr (V.alloc (.cells #[.slice (some ⟨k,0,none⟩) chs.length cap2] 34)):=hBV.alloc hVs _;have hbs1:(V.alloc (.cells #[.slice (some ⟨k,0,none⟩) chs.length cap2] 34)).heap[V.heap.size]? =some (.cells #[.slice (some ⟨k,0,none⟩) chs.length cap2] 34 (0,0)):=(by rw[<- hVS];exact heap_alloc_new _ _);have hltZ:wr.heap.size<V.heap.size:=O_
     clear hlt0
     refine wpIn_rangeFunc_ownG hro D_ (gf:=286) (lb:= #[.pointer (some ⟨V.heap.size,0,none⟩)]) rfl trivial (enters_of func286 (by kernel_rfl) rfl)
      (pG Fence.wide 3 trivial hro D_ V.heap.size (some ⟨k,0,none⟩) chs.length cap2 chs 1000000000 D_ H9.out wr _ HW.out hVa (by rw[World.size_alloc];have:=hVS;omega) (by rw[Lib.cell_of_heap hbs1];rfl)) (fun h k=>KB.trans h k) (KB.put (by simp;omega) (by rw[World.size_alloc];have:=hVS;omega)) (Below.refl _ _) (fun _=>rfl)
      (fun pre W=>Lib.IsBuilderF 139 5 wr.heap.size wr.heap.size (Lib.byteCells ([45]++oQ chs.length pre)) W/\Below wr.heap.size wr W/\W.heap[V.heap.size]? =some (.cells #[.slice (some ⟨k,0,none⟩) chs.length cap2] 34 (0,0)))
      (fun _ _ _=>False)
      (OwnFrom.and CR (OwnFrom.and (ownFrom_below (l_ _) (by simp;omega)) (vT _ _ _ _)))
      (fun _ _ _ _ _ hs _ _=>hs)
      ⟨fy HbV.out (dP ((Below.refl _ _).alloc (l_ _) _)),hVa,hbs1⟩ ?atrue ?assign ?body ?done ?stop
     all_goals clear hVS
     case assign=>
      intro l x W K hK
      gi_wp2
      exact hK
     case body=>
      rintro l pre x W ⟨hb,hB,hbs⟩ hlt;obtain⟨cc,hcc⟩:∃cc,cc=x.2%1000000000:=⟨_,rfl⟩;obtain⟨ix,hix⟩:∃ix,ix=x.1:=⟨_,rfl⟩;have hc9:cc<1000000000:=by rw[hcc];exact q8 _
      have hS9:=xd hc9;have hL:=zk chs.length pre;have hsn:=vZ chs.length pre x;have hpx:CG chs.length x=if(ix:Int)<(chs.length:Int)-1 then uN cc else dd cc:=by rw[hcc,hix];rfl
      rw[<- hcc,<- hix];have hfu:=gK cc O_ W (Htab'.out.mono hB rfl).here;rw[fA]at hfu;have hcW:W.cell? ⟨w'.heap.size,0,none⟩=some (.slice (some ⟨k,0,none⟩) chs.length cap2):=(hB.cell (p:=⟨w'.heap.size,0,none⟩) hBlt).trans Hchunk.out;have hwr:IntKind.u64.wrap (cc:Int)=cc:=by rw[IntKind.wrap_u64];omega
      have hWs:=hB.size;have hl1:(Lib.byteCells ([45]++oQ chs.length pre)).length<=20000:=by rw[Lib.byteCells_length];simp;omega
      have Hcc:=Lib.hid hcc;have Hix:=Lib.hid hix;have Hsn:=Lib.hid hsn;have Hpx:=Lib.hid hpx;have Hfu:=Lib.hid hfu;have Hb:=Lib.hid hb;have HB:=Lib.hid hB;have Hbs:=Lib.hid hbs;clear hcc hix hsn hpx hfu hb hB hbs
      by_cases hp:(ix:Int)<(chs.length:Int)-1
      ·have hpt:CG chs.length x=List.replicate (9-(dd cc).length) 48++dd cc:=by rw[Hpx.out,if_pos hp];rfl
       have hrep:=fun W=>Dc (cc:=cc) hS9 rfl W
       have hsz:(ByteArray.mk (dd cc).toArray).size=(dd cc).length:=aJ _;have Hpt:=Lib.hid hpt;clear hpt
       gi_wp2
       refine⟨trivial,?_⟩
       gi_at_call 239
       refine(CallsIn.inRound l (callsIn_wide.2 Hfu.out)).mono ?_;rintro e w6 ⟨rfl,hb6⟩;have hc6:=(hb6.cell (p:=⟨w'.heap.size,0,none⟩) (by dsimp only;omega)).trans hcW;have Hb6:=Lib.hid (fy Hb.out (dP hb6));have hs6:=hb6.size
       gi_wp2
       refine⟨trivial,?_⟩
       gi_at_call 178
       refine(CallsIn.inRound l (callsIn_wide.2 (hrep _))).mono ?_;rintro e w7 ⟨rfl,hb7⟩;have Hb7:=Lib.hid (fy Hb6.out (dP hb7));have hs7:=hb7.size
       gi_wp2
       refine⟨trivial,?_⟩
       gi_at_call 103
       refine(CallsIn.inRound l (callsIn_wide.2 (eg wr.heap.size wr.heap.size _ ⟨(List.replicate (9-(dd cc).length) (48:UInt8)).toArray⟩ w7 Hb7.out (by rw[show(ByteArray.mk (List.replicate (9-(dd cc).length) (48:UInt8)).toArray).size=9-(dd cc).length by rw[AA _];simp];omega) O_))).mono ?_;rintro e w8 ⟨rfl,hb8,hw8,ho8⟩;rw[gH]at hb8;have Hb8:=Lib.hid (show Lib.IsBuilderF 139 5 wr.heap.size wr.heap.size _ w8 from .inr hb8);have hs8:=hw8.size;have Hw8:=Lib.hid hw8;have Ho8:=Lib.hid ho8;clear hb8 hw8 ho8
       gi_wp2
       refine⟨trivial,?_⟩
       gi_at_call 103
       refine(CallsIn.inRound l (callsIn_wide.2 (eg wr.heap.size wr.heap.size _ ⟨(dd cc).toArray⟩ w8 Hb8.out (by rw[hsz,Lib.byteCells_length];simp;omega) O_))).mono ?_;rintro e w9 ⟨rfl,hb9,hw9,ho9⟩;rw[gH]at hb9;have Hb9:=Lib.hid (show Lib.IsBuilderF 139 5 wr.heap.size wr.heap.size _ w9 from .inr hb9);have hs9:=hw9.size;have Hw9:=Lib.hid hw9;have Ho9:=Lib.hid ho9;clear hb9 hw9 ho9
       gi_wp2
       have h1:KB wr.heap.size V.heap.size W w7:=⟨(hb6.mono hWs).trans (hb7.mono O_),(hb7.block _ (by have:=(A_.1 Hbs.out).1;omega)).trans (hb6.block _ (A_.1 Hbs.out).1)⟩;have h2:=lB Hw8.out (h1.2.trans Hbs.out) D_ O_ Ho8.out;have h3:=lB Hw9.out ((h1.trans h2).2.trans Hbs.out) D_ O_ Ho9.out;refine⟨?_,(h1.trans h2).trans h3,?_,?_,((h1.trans h2).trans h3).2.trans Hbs.out⟩
       ·exact QE
       ·exact OH
       ·exact N2
      ·have hpt:CG chs.length x=dd cc:=by rw[Hpx.out,if_neg hp]
       have hsz:(ByteArray.mk (dd cc).toArray).size=(dd cc).length:=aJ _;have Hpt:=Lib.hid hpt;clear hpt
       gi_wp2
       refine⟨trivial,?_⟩
       gi_at_call 239
       refine(CallsIn.inRound l (callsIn_wide.2 Hfu.out)).mono ?_;rintro e w6 ⟨rfl,hb6⟩;have hc6:=(hb6.cell (p:=⟨w'.heap.size,0,none⟩) (by dsimp only;omega)).trans hcW;have Hb6:=Lib.hid (fy Hb.out (dP hb6));have hs6:=hb6.size
       gi_wp2
       refine⟨trivial,?_⟩
       gi_at_call 103
       refine(CallsIn.inRound l (callsIn_wide.2 (eg wr.heap.size wr.heap.size _ ⟨(dd cc).toArray⟩ w6 Hb6.out (by rw[hsz,Lib.byteCells_length];simp;omega) O_))).mono ?_;rintro e w9 ⟨rfl,hb9,hw9,ho9⟩;rw[gH]at hb9;have Hb9:=Lib.hid (show Lib.IsBuilderF 139 5 wr.heap.size wr.heap.size _ w9 from .inr hb9);have hs9:=hw9.size;have Hw9:=Lib.hid hw9;have Ho9:=Lib.hid ho9;clear hb9 hw9 ho9
       gi_wp2
       have h1:KB wr.heap.size V.heap.size W w6:=⟨hb6.mono hWs,hb6.block _ (A_.1 Hbs.out).1⟩;have h3:=lB Hw9.out (h1.2.trans Hbs.out) D_ O_ Ho9.out;refine⟨?_,h1.trans h3,?_,?_,(h1.trans h3).2.trans Hbs.out⟩
       ·exact((nG hb6).trans (ld Hb6.out hs9 Ho9.out)).from _
       ·have h4:=Hb9.out
        rw[e_,<- Hpt.out,<- Hsn.out]at h4;exact h4
       ·exact(HB.out.trans (hb6.mono hWs)).trans Hw9.out
     case done=>
      rintro D ys W hD rfl ⟨hb,hB,_⟩ hK;rw[vC H9.out Hne.out,Htxt.out,Kn Hv0.out]at hb;have hWs:=hB.size;have hDs:w.heap.size<=D:=by rw[World.size_alloc]at hD;omega
      gi_wp2_with (refine⟨trivial,?_⟩;gi_at_call 104;refine(callsIn_wide.2 (Tryz.Builder_String_any_k wr.heap.size wr.heap.size _ W hb hWs)).mono ?_;rintro e w6 ⟨rfl,hb6,hw6,ho6⟩)
      have hK6:=(ld hb hw6.size ho6).same D _ hK rfl;refine⟨by simp, .inl ⟨_,_,rfl,run_takeDeferred hK6,?_⟩⟩;refine⟨_,results_tmp rfl _ _ _,rfl,?_⟩;exact(HBx.out.trans ((hB.trans hw6).mono O_)).trans (belowK_b (w:=w) (l_ _) w6 D _ _ hDs hK6 rfl rfl)
     case stop=>
      rintro D c pre W _ _ h _;exact h.elim
   ·have hz1:(ms.length:Int) > 0:=O_
    have hz2:(0:Int)<ms.length:=O_
    gi_wp2
    gi_loopw [5,6] (fun r i w2=>∃(k:Nat) (zs:List Nat) (rr:Nat),k<=ms.length/\i= .int .i64 ((ms.length:Int)-1-k)/\r= .int .u64 (rr:Int)/\rr<1000000000/\zs.length=ms.length/\Wd zs /\
     w2.ownsRow (w.heap.size+1) 135 1 (.slice (some ⟨g,0,none⟩) ms.length cap) ms.length (zs.map bZ)/\zs.take (ms.length-k)=ms.take (ms.length-k)/\val (zs.drop (ms.length-k))*1000000000+rr=val (ms.drop (ms.length-k)) /\
     (∀b,b≠g->w2.heap[b]? =wr.heap[b]?)/\Below (w.heap.size+1) wr w2)
     (fun r i w2=>(intOf i+1).toNat)
    case atStart=>exact⟨0,ms,0,Nat.zero_le _,by go_num,rfl,by decide,rfl,by rw[Hmd.out];exact ae _,Hm.out,rfl,by rw[Nat.sub_zero,List.drop_length];rfl,fun _ _=>rfl,Below.refl _ _⟩
    case round=>
     obtain⟨k,zs,rr,hk,rfl,rfl,hrr,hzl,hzw,hzo,hzt,hzv,hzb,hzB⟩:=hrel;have Hzl:=Lib.hid hzl;have Hzw:=Lib.hid hzw;have Hzt:=Lib.hid hzt;have Hzv:=Lib.hid hzv;have Hzb:=Lib.hid hzb;have HzB:=Lib.hid hzB
     by_cases hlt:k<ms.length
     ·obtain⟨j,hj⟩:∃j,j=ms.length-1-k:=⟨_,rfl⟩
      have hjl:j<ms.length:=O_
      have hjz:j<zs.length:=O_
      have hcell:=hzo.cellAt j O_;have hfr:=hzo.frozenAt j;rw[List.getElem?_map,Q_ hjz]at hcell;have hxw:zs[j]<4294967296:=hzw _ (List.getElem_mem hjz)
      obtain⟨x,hx⟩:∃x,zs[j]=x:=⟨_,rfl⟩;rw[hx]at hcell hxw;have hor:=ij rr x O_ hxw;have Hx':=Lib.hid hx;have Hzo:=Lib.hid hzo;have g1:(0:Int)<=(ms.length:Int)-1-k:=O_
      have g2:(ms.length:Int)-1-k<ms.length:=O_
      have g3:((ms.length:Int)-1-k).toNat=j:=O_
      rw[hj]at hcell hfr g3;have HJ:=Lib.hid hj;have Hjl:=Lib.hid hjl;clear hzo hzl hzw hzt hzv hzb hzB hx hj hjl
      gi_wp2
      obtain⟨d,hd⟩:∃d:Nat,(rr*4294967296+x)/1000000000=d:=⟨_,rfl⟩;obtain⟨r1,hr1⟩:∃r1:Nat,(rr*4294967296+x)%1000000000=r1:=⟨_,rfl⟩;have ed:((rr:Int)*4294967296+x)/1000000000=(d:Nat):=O_
      have er:((rr:Int)*4294967296+x)%1000000000=(r1:Nat):=O_
      rw[ed,er];have hst:=Hzo.out.stored j (bZ d);rw[HJ.out]at hst;have hjl:=Hjl.out;refine⟨⟨k+1,zs.set j d,r1,by omega,by go_num,rfl,by omega,by rw[List.length_set];exact Hzl.out,?_,by rw[List.map_set,HJ.out];exact hst.1,?_,?_,fun b hb=>(Below.heap_setCell _ _ _ _ hb).trans (Hzb.out b hb),HzB.out.setCell (p:=⟨g,ms.length-1-k,none⟩) (by have h1:=hg1;rw[World.size_alloc]at h1;exact h1) _⟩,by simp[intOf];omega⟩
      ·exact dr Hzw.out j d O_
      ·have ht:=congrArg (List.take (ms.length-(k+1))) Hzt.out
       rw[List.take_take,List.take_take,Nat.min_eq_left O_]at ht;have hj:=HJ.out;rw[List.take_set_of_le O_];exact ht
      ·have hj:=HJ.out
       have hzl:=Hzl.out
       have hmx:ms.getD j 0=x:=by
        have h1:=congrArg (fun l:List Nat=>l.getD j 0) Hzt.out
        simp only[H_,List.getElem?_take]at h1
        rw[if_pos O_,if_pos O_]at h1;rw[H_,<- h1,Q_ hjz,Hx'.out];rfl
       have e1:=cg ms (ms.length-k) O_ O_;have e2:=cg (zs.set j d) (ms.length-k) O_ (by rw[List.length_set];omega);rw[show ms.length-k-1=j by omega]at e1 e2;rw[show ms.length-(k+1)=j by omega,e1,e2,hmx,List.drop_set_of_lt O_];have h3:(zs.set j d).getD j 0=d:=by rw[H_,List.getElem?_set_self hjz];rfl
       rw[h3];exact Jo Hzv.out hd hr1
     ·obtain rfl:k=ms.length:=O_
      have hmc:ms.length<=cap:=by
       rcases hzo.2 with⟨h1,_⟩| ⟨g',c',_,h1,_,_,h2,_⟩
       ·cases h1
       ·cases h1;exact h2
      have hw2:bi wr (some ⟨g,0,none⟩) ms.length cap zs:=gQ hzo hzw hmc (by unfold maxLen at hg4;omega);have Hzo:=Lib.hid hzo;have htr:=gi (some ⟨g,0,none⟩) ms.length cap zs wr hw2;have Htr:=Lib.hid htr;have g1:¬((0:Int)<=(ms.length:Int)-1-ms.length):=O_
      have hgq:w'.heap.size≠g:=by have:=(A_.1 hg2).1;omega
      have hq:=(hzb w'.heap.size hgq).trans Hcv.out;have hcr2:=jx Hcr.out hzb hne1;have c0:wr.cell? ⟨w'.heap.size,0,none⟩=some cv:=by rw[Lib.cell_of_heap hq];rfl
      have f0:wr.frozen? ⟨w'.heap.size,0,none⟩=false:=Lib.frozen_of_heap hq 0;have Hq:=Lib.hid hq;have Hcr2:=Lib.hid hcr2;clear hq hcr2;clear hzo hzl hzw hzt hzv hzb hzB hw2 htr
      have hcl:chs.length<=2000:=by
       have h1:=congrArg List.length Hch.out;have h2:=nS Hx.out.wd;rw[L_]at h1;omega
      obtain⟨i0,hi,hz0,hz1',hz2'⟩:=info_parts Tryz.infoU32
      have hbs:w.heap.size+1<=wr.heap.size:=by
       have h1:=hg1;have h2:=(A_.1 Hq.out).1;rw[World.size_alloc]at h1 hb';have:=hb'.size
       simp at this
       omega
      gi_wp2_with (first|(refine⟨trivial,?_⟩;gi_at_call 194;refine(callsIn_wide.2 Htr.out).mono ?_;rintro e w3 ⟨rfl,rfl⟩)|(gi_at_builtin;refine wpListIn_append_own _ rfl _ _ 34 rfl (w'.heap.size+1) 135 i0 (.int .u32 0) 1 4 underlying34 hi hz0 hz1' hz2' rfl D_ _ _ _ rfl (Hcr2.out.alloc _) ⟨wr.heap.size,0,none⟩ 1 1 [bZ rr] rfl rfl ?c1 ?c2 ?c3 ?c4 ?c5 ?_))
      case c1=>
       intro j u hj
       match j,hj with
       |0,hj=>simp at hj;subst hj;simp[Addr.add]
      case c2=>intro u hu;simp at hu;subst hu;rfl
      case c3=>unfold maxLen;omega
      case c4=>omega
      case c5=>have:=(A_.1 Hq.out).1;simp;omega
      intro v2 w2 hown2 hgrow _;have hBlt:=(A_.1 Hq.out).1
      have hq2:w2.heap[w'.heap.size]? =some (.cells #[cv] 34 (0,0)):=by
       rw[hgrow.block w'.heap.size (by simp;omega) (fun e=>hne2 e.symm),Lib.alloc_old wr _ w'.heap.size hBlt];exact Hq.out
      have e0:w2.cell? ⟨w'.heap.size,0,none⟩=some cv:=by rw[Lib.cell_of_heap hq2];rfl
      have g0:w2.frozen? ⟨w'.heap.size,0,none⟩=false:=Lib.frozen_of_heap hq2 0
      obtain⟨ao,n2,c2,rfl⟩:∃ao n2 c2,v2= .slice ao n2 c2:=by
       rcases hown2.2 with⟨hv,_⟩| ⟨g2,cap2,cur2,hv,_⟩
       ·exact⟨_,_,_,hv⟩
       ·exact⟨_,_,_,hv⟩
      have Hown2:=Lib.hid hown2;have Hgrow:=Lib.hid hgrow;clear hown2 hgrow
      gi_wp2
      have hvz:val zs*1000000000+rr=val ms:=by
       have:=Hzv.out;rw[Nat.sub_self,List.drop_zero,List.drop_zero]at this;exact this
      have hm0:val ms≠0:=fun e=>by
       have:=Hmd.out;rw[e,aK]at this;rw[this]at hz;exact hz rfl
      have hzl:=Hzl.out;have htz:=bR Hzw.out
      have hog:(w2.setCell ⟨w'.heap.size,0,none⟩ (.slice ao n2 c2)).ownsRow (w.heap.size+1) 135 1 (.slice (some ⟨g,0,none⟩) (trim zs).length cap) (trim zs).length ((trim zs).map bZ):=by
       have h1:w2.ownsRow (w.heap.size+1) 135 1 (.slice (some ⟨g,0,none⟩) ms.length cap) ms.length (zs.map bZ):=(Hzo.out.alloc _).kept Hgrow.out (.inr (fun e=>hne1 e.symm));have h2:=Kg h1 (k:=(trim zs).length) O_;rw[<- List.map_take,(kb Hzw.out).1]at h2;exact jx h2 (g:=w'.heap.size) (fun b hb=>Below.heap_setCell _ _ _ _ hb) (fun e=>hgq (Option.some.inj e).symm)
      have hos:∀k,(Value.slice ao n2 c2).ownBlock=some k->w'.heap.size+1<=k:=fun k hk=>(Hown2.out.lt k hk).1
      go_roundw
      case rel=>
       refine⟨trim zs,chs++[rr], .slice ao n2 c2,rfl,hog,by rw[dm];rfl,by omega,?_,?_,?_,?_⟩
       ·rw[dm,<- Hch.out,tH hm0,show val ms%1000000000=rr by omega,show val ms/1000000000=val zs by omega]
        simp
       ·rw[heap_setCell_same _ _ _ _ _ _ hq2];rfl
       ·rw[L_,List.map_append]
        exact jx Hown2.out (g:=w'.heap.size) (fun b hb=>Below.heap_setCell _ _ _ _ hb) (fun e=>by have:=hos _ e;omega)
       ·refine((Hw'.out.trans HzB.out).alloc O_ _ |>.grown Hgrow.out (by simp;omega) (fun k hk=>?_)).setCell (p:=⟨w'.heap.size,0,none⟩) ?_ _
        ·have:=(Hcr2.out.lt k hk).1
         have:=hb'.size
         simp at this
         omega
        ·have:=hb'.size
         simp at this
         exact this
      case measure=>
       show wH (.slice (some ⟨g,0,none⟩) (trim zs).length cap) _<wH (.slice (some ⟨g,0,none⟩) ms.length cap) _
       rw[sK hog,sK Hm.out,dm];omega
theorem J4 (v:Value) (na:Bool) (xs:List Nat) (w:World) (h:Jt w v na xs) (hl:xs.length<=1000) (htab:m0 w):
 Calls Tryz.prog 177 #[v] w fun e w'=>e= .returned (.string (Bs (fmt (bI na xs))))/\Below w.heap.size w w':=callsIn_wide.1 (Fy v na xs w h hl htab)
theorem ze {na:Bool} {xs:List Nat} (hw:Wd xs) (hl:xs.length<=1000) {z:Int} (hz:bI na xs=z):aa Tryz.prog 177 [dI na xs] (.one (dL (fmt z))):=by
 refine⟨aG func177 rfl rfl,fun S w vs hS hv=>?_⟩
 match vs,hv with
 | [v],⟨h,_⟩=>
  refine(J4 v na xs w (Mw h hw) hl hS.1).mono ?_;rintro e w' ⟨rfl,hb⟩;exact⟨_,rfl,by rw[hz];exact AV.M.val rfl,hb⟩
theorem xQ {z:Int} (h:(digs z.natAbs).length<=1000):aa Tryz.prog 177 [dZ z] (.one (dL (fmt z))):=ze (ae _) h (aV z)
end
end Go.Proofs.YtnchbpoopnjghaaGreatDoor
