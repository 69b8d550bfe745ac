/- Parts of a proof: contracts of the functions that the laws reach. -/
import Derived.Test.YtikbnnljjeefgaaGreatDoorXZ1
import Derived.Maps.OwnIn
import Derived.RangeFuncCalls
import Derived.Test.YtikbnnljjeefgaaGreatDoorXShelf
import Derived.Test.YtikbnnljjeefgaaGreatDoorXAh
import Derived.Deep.AppendLies
import Derived.Test.YtikbnnljjeefgaaGreatDoorXAm
import Derived.Test.YtikbnnljjeefgaaGreatDoorXLaw
import Derived.Test.YtikbnnljjeefgaaGreatDoorXAmI
import Derived.Test.YtikbnnljjeefgaaGreatDoorTie
import Derived.Test.YtikbnnljjeefgaaGreatDoorCards
import Derived.LaidMore
import Derived.Lay
import Derived.Stop.Joined
import Derived.SevenTiedAt
import Derived.Lib.AppendStr
import Derived.MapKept
import Derived.Defers
set_option maxHeartbeats 100000000
namespace Go.Proofs.YtikbnnljjeefgaaGreatDoor
open Go.RowKit Go.Shelf
attribute [local go_sem] Oper.semAt_some
set_option maxRecDepth 100000 in
theorem BF (A:Option Addr) (n c:Nat) (xs:List Nat) (w:World) (hx:az w A n c xs) (h0:0<n) (hs:n≤4294967296):
 Calls Tryz.prog 47 #[.slice A n c] w fun e w'=>∃v',e= .returned v'∧w'.ownsRow w.heap.size 82 1 v' n (xs.map bC)∧Below w.heap.size w w':=by
 obtain⟨i0,hi,hz0,hz1,hz2⟩:=info_parts Tryz.infoU32;rcases hx.cells with h1| ⟨b,off,e,hc⟩
 ·have:=hx.len
  have h2:xs=[]:=by simpa using h1
  rw[h2]at this
  simp at this
  omega
 ·cases e
  ·refine(Tryz.slices_Clone i0 (.int .u32 0) 1 4 hi hz0 hz1 hz2 rfl (by decide) (fun w=>by first|exact Tryz.sizeOf39 w|exact run_sizeOf _ w) b off n c (xs.map bC) w (by simp[hx.len]) (by unfold maxLen;omega) (by omega) (fun j u hj=>?_) (fun u hu=>?_)).mono ?_
   ·rw[List.getElem?_map]at hj
    cases hxj:xs[j]? with
    |none=>rw[hxj]at hj;cases hj
    |some x=>
     rw[hxj]at hj
     simp only[Option.map_some,Option.some.injEq]at hj
     subst hj;have hjl:=(List.getElem?_eq_some_iff.1 hxj).1;have:=hc j (bC x) (by rw[List.getElem?_map,hxj];rfl);exact this
   ·obtain⟨x,_,rfl⟩:=List.mem_map.1 hu
    rfl
   ·rintro e w' ⟨v',rfl,ho,_,hb⟩
    exact⟨v',rfl,ho,hb⟩
theorem ju {w w':World} {B g k:Nat} {e:TypeId} {v:Value} {n:Nat} {xs:List Value} (h:w.ownsRow B e k v n xs) (hb:∀b,b≠g→w'.heap[b]? =w.heap[b]?) (hne:v.ownBlock≠some g):w'.ownsRow B e k v n xs:=by
 refine⟨h.1,h.2.imp id ?_⟩;rintro⟨g',cap,cur,rfl,h1,h2,h3⟩;exact⟨g',cap,cur,rfl,h1,by rw[hb g' (fun e=>hne (by rw[← e];rfl))];exact h2,h3⟩
theorem Ci {d r1 rr x V U:Nat} (h:V*1000000000+rr=U) (hd:(rr*4294967296+x)/1000000000=d) (hr:(rr*4294967296+x)%1000000000=r1):(d+4294967296*V)*1000000000+r1=x+4294967296*U:=by
 have:=Nat.div_add_mod (rr*4294967296+x) 1000000000;rw[hd,hr]at this;subst h;rw[Nat.add_mul,Nat.mul_add,Nat.mul_comm d,Nat.mul_assoc];generalize V*1000000000=W;omega
def yd (len:Nat) (p:Nat × Nat):List UInt8:=if(p.1:Int)<(len:Int)-1 then rD (p.2%1000000000)else dd (p.2%1000000000)
def nc (len:Nat) (l:List (Nat × Nat)):List UInt8:=l.flatMap (yd len)
theorem sO (len:Nat) (l:List (Nat × Nat)) (p:Nat × Nat):nc len (l++[p])=nc len l++yd len p:=by unfold nc;simp
theorem oT (n:Nat):n%1000000000<1000000000:=Nat.mod_lt _ (by decide)
theorem CX {c:Nat} (h:c<1000000000):(rD c).length=9:=by
 have:=(uf h).2;unfold rD;simp;omega
theorem EX (len:Nat) (p:Nat × Nat):(yd len p).length≤9:=by
 unfold yd;split
 ·exact Nat.le_of_eq (CX (oT _))
 ·exact(uf (oT _)).2
theorem wG (len:Nat) (l:List (Nat × Nat)):(nc len l).length≤9*l.length:=by
 induction l with
 |nil=>simp[nc]
 |cons p l ih=>
  have e:nc len (p::l)=yd len p++nc len l:=rfl;have:=EX len p;rw[e,List.length_append,List.length_cons];omega
theorem sF {xs:List Nat} (h9:∀x∈xs,x<1000000000) (hne:xs≠[]):nc xs.length (upto (dH xs) xs.length)=Hn xs.reverse:=by
 obtain⟨m,hm⟩:∃m,xs.length=m+1:=⟨xs.length-1,by have:=List.length_pos_iff.2 hne;omega⟩
 have hr:xs.reverse=xs.getD m 0::(List.range m).map fun j=>xs.getD (m-1-j) 0:=by
  apply List.ext_getElem
  ·simp[hm]
  ·intro i h1 h2
   rw[List.getElem_reverse];have hi:i<m+1:=by simpa[hm]using h1
   match i,hi with
   |0,_=>simp[List.getD_eq_getElem?_getD,hm]
   |i+1,hi=>
    simp only[List.getElem_cons_succ,List.getElem_map,List.getElem_range,List.getD_eq_getElem?_getD]
    rw[List.getElem?_eq_getElem (by omega)]
    simp only[Option.getD_some]
    congr 1
    omega
 rw[hr];unfold upto nc;rw[hm,List.range_succ_eq_map,List.map_cons,List.flatMap_cons,List.map_map]
 have e0:yd (m+1) (dH xs 0)=dd (xs.getD m 0):=by
  unfold yd dH;dsimp only;rw[if_neg (by omega),hm,Nat.mod_eq_of_lt (ui (by decide) h9 _)];rfl
 rw[e0];show _=dd _++((List.range m).map _).flatMap rD
 congr 1
 rw[List.flatMap_map,List.flatMap_map]
 have hh:∀j∈List.range m,yd (m+1) (dH xs (j+1))=rD (xs.getD (m-1-j) 0):=by
  intro j hj;have hj:=List.mem_range.1 hj;unfold yd dH;dsimp only;rw[if_pos (by omega),Nat.mod_eq_of_lt (ui (by decide) h9 _)]
  congr 2
  omega
 clear e0 hr
 revert hh
 generalize List.range m=R;intro hh
 induction R with
 |nil=>rfl
 |cons j R ih=>
  rw[List.flatMap_cons,List.flatMap_cons,ih (fun j hj=>hh j (by simp[hj]))]
  congr 1
  exact hh j (by simp)
theorem fJ {T e:TypeId} {B b:Nat} {bs:List Value} {W W':World} (h:Lib.IsBuilderF T e B b bs W) (hk:∀(k:Nat) c t f,W.heap[k]? =some (Obj.cells c t f)→W'.heap[k]? =some (Obj.cells c t f)):Lib.IsBuilderF T e B b bs W':=by
 have key:∀p,Lib.BuilderAtF T e B b p bs W→Lib.BuilderAtF T e B b p bs W':=by
  rintro p ⟨hB,v,hb,ho,hne⟩;refine⟨hB,v,hk _ _ _ _ hb,⟨ho.1,ho.2.imp id ?_⟩,hne⟩;rintro⟨g,cap,cur,fz,h1,h2,h3,h4⟩;exact⟨g,cap,cur,fz,h1,h2,hk _ _ _ _ h3,h4⟩
 exact h.imp (key _) (key _)
theorem dV {W W':World} (h:Below W.heap.size W W'):∀(k:Nat) c t f,W.heap[k]? =some (Obj.cells c t f)→W'.heap[k]? =some (Obj.cells c t f):=fun k _ _ _ hk=>(h.block k (Array.getElem?_eq_some_iff.1 hk).1).trans hk
theorem zt {T e:TypeId} {N B b:Nat} {f:List (Nat × Nat)→List Value}:OwnFrom N (fun pre W=>Lib.IsBuilderF T e B b (f pre) W):=by
 intro s W W' row hs hg hr;refine fJ hs fun k c t fz hk=>?_
 rw[hg.block k (Array.getElem?_eq_some_iff.1 hk).1 (fun e=>?_)]
 ·exact hk
 ·obtain⟨_,o,ho,hc⟩:=hr k e.symm
  rw[hk]at ho;cases ho;cases hc
theorem rR {β:Type} (N g:Nat) (cs:Array Value) (t:TypeId):OwnFrom N (fun(_:β) W=>W.heap[g]? =some (Obj.cells cs t (0,0))):=by
 intro s W W' row hs hg hr;show W'.heap[g]? =_;rw[hg.block g (Array.getElem?_eq_some_iff.1 hs).1 (fun e=>?_)]
 ·exact hs
 ·obtain⟨_,o,ho,hc⟩:=hr g e.symm
  rw[hs]at ho;cases ho;cases hc
theorem iX {W W':World} (h:Below W.heap.size W W'):KeepsOthers W W':=⟨h.size,fun k _ hk _=>(h.block k (Array.getElem?_eq_some_iff.1 hk).1).trans hk⟩
theorem iD {T e:TypeId} {B b:Nat} {bs:List Value} {W W':World} (hb:Lib.IsBuilderF T e B b bs W) (hs:W.heap.size≤W'.heap.size) (h:Lib.OthersKept e (some b) W W'):KeepsOthers W W':=by
 refine⟨hs,fun k o hk ho=>h k o hk (fun e0=>?_) (fun c fz e0=>by subst e0;cases ho)⟩;cases e0
 have key:∀p,Lib.BuilderAtF T e B b p bs W→False:=by
  rintro p ⟨_,v,hb,_⟩;rw[hk]at hb;cases hb;cases ho
 exact hb.elim (key _) (key _)
theorem kz {e t:TypeId} {N b Bs:Nat} {v:Value} {W W':World} (hb:Below N W W') (hc:W.heap[Bs]? =some (Obj.cells #[v] t (0,0))) (ht:t≠e) (hne:Bs≠b) (h:Lib.OthersKept e (some b) W W'):KB N Bs W W':=
 ⟨hb,(h Bs _ hc (fun e0=>hne (Option.some.inj e0)) (fun c fz e0=>ht (by cases e0;rfl))).trans hc.symm⟩
theorem gV (l m:List UInt8):Lib.byteCells l++Lib.strCells ⟨m.toArray⟩=Lib.byteCells (l++m):=by
 rw[Lib.strCells_toArray]
 simp[Lib.byteCells]
theorem wg (l:List UInt8):(ByteArray.mk l.toArray).size=l.length:=au l
theorem Iy (q:Nat):Lib.repeatL [48] q=List.replicate q 48:=by
 induction q with
 |zero=>rfl
 |succ q ih=>rw[Lib.repeatL,ih];rfl
theorem zh {cc m:Nat} (hS9:1≤(dd cc).length∧(dd cc).length≤9) (hm:m=(dd cc).length) (W:World):Calls Tryz.prog 93 #[.string ⟨#[48]⟩, .int .i64 ((9:Int)-(m:Int))] W fun e w'=>e= .returned (.string ⟨(List.replicate (9-(dd cc).length) (48:UInt8)).toArray⟩)∧Below W.heap.size W w':=by
 have h:=Tryz.strings_Repeat ⟨#[48]⟩ (9-(dd cc).length) W (by omega) (by show 1*_≤_;omega);rw[show((9-(dd cc).length:Nat):Int)=(9:Int)-(m:Int) by omega]at h;refine h.mono ?_;rintro e w' ⟨rfl,hb⟩;exact⟨by rw[show((⟨#[48]⟩:ByteArray).data.toList)=[48] from rfl,Iy],hb⟩
theorem AB {xs:List Nat} (h:val xs≠0):[]++kP (val xs)=fmt (ak false xs):=by
 have e:ak false xs=(val xs:Int):=rfl;rw[e];unfold fmt;rw[if_neg (by omega),if_neg (by omega),Int.natAbs_natCast]
theorem DS {xs:List Nat} (h:val xs≠0):[45]++kP (val xs)=fmt (ak true xs):=by
 have e:ak true xs= -(val xs:Int):=rfl;rw[e];unfold fmt;rw[if_neg (by omega),if_pos (by omega),Int.natAbs_neg,Int.natAbs_natCast]
def tN:Value→World→Nat
 | .slice (some a) n _,w=>val ((List.range n).map fun i=>match w.cell? ⟨a.block,a.off+i,none⟩with|some (.int _ k)=>k.toNat|_=>0)
 |_,_=>0
theorem qp {w:World} {B g cap:Nat} {e:TypeId} {ms:List Nat} (h:w.ownsRow B e 1 (.slice (some ⟨g,0,none⟩) ms.length cap) ms.length (ms.map bC)):tN (.slice (some ⟨g,0,none⟩) ms.length cap) w=val ms:=by
 show val _=_
 congr 1
 apply List.ext_getElem
 ·simp
 ·intro i h1 h2
  have hc:=h.cells (g:=g) rfl i (bC ms[i]) (by simp[h2]);have hadd:(⟨g,0,none⟩:Addr).add i=⟨g,i,none⟩:=by unfold Addr.add;split <;>simp_all
  rw[hadd]at hc
  simp[hc,bC]
theorem CW {w:World} {B g n k cap:Nat} {e:TypeId} {xs:List Value} (h:w.ownsRow B e 1 (.slice (some ⟨g,0,none⟩) n cap) n xs) (hk:k≤n):w.ownsRow B e 1 (.slice (some ⟨g,0,none⟩) k cap) k (xs.take k):=by
 have hl:=h.1;refine⟨by simp;omega, .inr ?_⟩;rcases h.2 with⟨h1,_⟩| ⟨g',cap',cur,h1,h2,h3,h4,h5,h6,h7⟩
 ·cases h1
 ·cases h1
  refine⟨g,cap,cur,rfl,h2,h3,by omega,h5,h6,?_⟩;rw[← h7,List.take_take]
  congr 1
  omega
set_option maxRecDepth 100000 in
theorem Bt (v:Value) (na:Bool) (xs:List Nat) (w:World) (h:bG w v na xs) (hl:xs.length≤1000) (htab:oH w):
 CallsIn Fence.wide 4 Tryz.prog 92 #[v] w fun e w'=>e= .returned (.string (Bs (fmt (ak na xs))))∧Below w.heap.size w w':=by
 obtain⟨A,n,c,rfl,hx⟩:=h;have hro:Fence.wide.round=none:=rfl;have hcap:=hx.cap;have hlim:=hx.lim;have htrim:=bw A n c xs;have Hx:=Lib.hid hx;have Htrim:=Lib.hid htrim;have Htab:=Lib.hid htab;clear hx htab htrim;refine callsIn_of_wp_marks Tryz.func92 rfl trivial ?_ hro
 simp only[Tryz.ntmps92,List.size_toArray,List.length_cons,List.length_nil,Nat.reduceAdd,Nat.reduceSub,Array.replicate_succ,Array.replicate_zero,List.push_toArray,List.append_toArray,List.nil_append,List.cons_append]
 by_cases ht:trim xs=[]
 ·have hv0:val xs=0:=by rw[← aK,ht];rfl
  have hz:fmt (ak na xs)=[48]:=by
   have:ak na xs=0:=by unfold ak;rw[hv0];cases na<;>rfl
   rw[this];rfl
  rw[hz];rw[ht]at Htrim;have hw0:az w A 0 c []:=⟨rfl,Nat.zero_le _,hlim,Wd.nil, .nil _ _,Hx.out.isnil⟩;have Hcl:=Lib.hid (jf A 0 c [] (w.alloc (.cells #[.bool na, .slice A n c] 24)) (hw0.alloc _) (by decide));clear hw0 hz hv0
  gi_wp2_with (first|(refine⟨trivial,?_⟩;gi_at_call 137;refine(callsIn_wide.2 (Htrim.out _ (Hx.out.alloc _))).mono ?_;rintro e w' ⟨rfl,rfl⟩)|(refine⟨trivial,?_⟩;gi_at_call 47;refine(callsIn_wide.2 Hcl.out).mono ?_;rintro e w' ⟨A',n',c',zs,rfl,hz',rfl,hb'⟩;obtain rfl:=hz'.len))
  refine⟨_,results_tmp rfl _ _ _,rfl,?_⟩;exact((Below.refl _ w).alloc (Nat.le_refl _) _).trans (hb'.mono (by simp))
 ·have hpos:0<(trim xs).length:=List.length_pos_iff.2 ht
  have hw0:az w A (trim xs).length c (trim xs):=Hx.out.trim;have htl:(trim xs).length≤1000:=by have:=bD Hx.out.wd;omega
  have Hcl:=Lib.hid (BF A (trim xs).length c (trim xs) (w.alloc (.cells #[.bool na, .slice A n c] 24)) (hw0.alloc _) hpos (by omega));clear hw0;have Hpos:=Lib.hid hpos;have hi1:((trim xs).length:Int)≠0:=by omega
  gi_wp2_with (first|(refine⟨trivial,?_⟩;gi_at_call 137;refine(callsIn_wide.2 (Htrim.out _ (Hx.out.alloc _))).mono ?_;rintro e w' ⟨rfl,rfl⟩)|(refine⟨trivial,?_⟩;gi_at_call 47;refine(callsIn_wide.2 Hcl.out).mono ?_;rintro e w' ⟨v',rfl,ho',hb'⟩;obtain⟨g,cap,cur,rfl,hg1,hg2,hg3,hg4,hg5,hg6⟩:=ho'.2.resolve_left (by rintro⟨_,h0⟩;omega)))
  simp only[show(((trim xs).length:Int) == 0)=false from beq_eq_false_iff_ne.2 hi1]
  gi_loopw [3] (fun m wr=>∃(ms chs:List Nat) (cv:Value),m= .slice (some ⟨g,0,none⟩) ms.length cap∧wr.ownsRow (w.heap.size+1) 82 1 m ms.length (ms.map bC)∧ms=digs (val ms)∧ms.length≤1000∧chs++ch (val ms)=ch (val xs) ∧
   wr.heap[w'.heap.size]? =some (.cells #[cv] 22 (0,0))∧wr.ownsRow (w'.heap.size+1) 82 1 cv chs.length (chs.map bC)∧Below (w.heap.size+1) w' wr)
   (fun m wr=>tN m wr)
  case atStart=>
   rw[World.size_alloc]at ho' hb' hg1;have hg:g<w'.heap.size:=(Array.getElem?_eq_some_iff.1 hg2).1
   refine⟨trim xs,[], .slice none 0 0,rfl,ho'.alloc _,by rw[aK];rfl,htl,by rw[aK];rfl,by rw[heap_alloc_new],World.ownsRow_nil _ _ _ _,(Below.refl _ _).alloc (by have:=hb'.size;simp at this;omega) _⟩
  case round=>
   obtain⟨ms,chs,cv,rfl,hm,hmd,hml,hch,hcv,hcr,hbw⟩:=hrel;have hne1:cv.ownBlock≠some g:=fun e=>by have:=(hcr.lt g e).1;have:=(Array.getElem?_eq_some_iff.1 hg2).1;omega
   have hne2:cv.ownBlock≠some w'.heap.size:=fun e=>by have:=(hcr.lt _ e).1;omega
   have Hm:=Lib.hid hm;have Hmd:=Lib.hid hmd;have Hch:=Lib.hid hch;have Hcv:=Lib.hid hcv;have Hcr:=Lib.hid hcr;have Hw':=Lib.hid hbw;clear hm hmd hch hcv hcr hbw
   by_cases hz:ms.length=0
   ·have hz1:¬((ms.length:Int) > 0):=by omega
    have hmn:ms=[]:=List.eq_nil_of_length_eq_zero hz
    have hchs:chs=ch (val xs):=by
     have:=Hch.out;rw[hmn,show val []=0 from rfl,kM,List.append_nil]at this;exact this
    have hv0:val xs≠0:=fun e=>ht (by show digs (val xs)=[];rw[e,aD])
    have hne:chs≠[]:=by rw[hchs];exact FW hv0
    have h9:∀x∈chs,x<1000000000:=by rw[hchs];exact Im _
    have hcl:chs.length≤2000:=by
     have h2:=mR Hx.out.wd;rw[hchs];omega
    have hwd9:Wd chs:=fun x hx=>Nat.lt_trans (h9 x hx) (by decide)
    obtain⟨k,cap2,cur2,rfl,hk1,hk2,hk3,hk4,hk5,hk6⟩:=Hcr.out.2.resolve_left (by rintro⟨_,h0⟩;exact hne (List.eq_nil_of_length_eq_zero h0));have hW:az wr (some ⟨k,0,none⟩) chs.length cap2 chs:=fq Hcr.out hwd9 hk3 (by unfold maxLen at hk4;omega)
    have hneg:wr.cell? ⟨w.heap.size,0,none⟩=some (.bool na):=by
     have h1:(w.alloc (.cells #[.bool na, .slice A n c] 24)).cell? ⟨w.heap.size,0,none⟩=some (.bool na):=by rw[Lib.cell_of_heap (heap_alloc_new _ _)];rfl
     rw[World.size_alloc]at hb';exact(Hw'.out.cell (p:=⟨w.heap.size,0,none⟩) (Nat.lt_succ_self _)).trans ((hb'.cell (p:=⟨w.heap.size,0,none⟩) (Nat.lt_succ_self _)).trans h1)
    have hchunk:wr.cell? ⟨w'.heap.size,0,none⟩=some (.slice (some ⟨k,0,none⟩) chs.length cap2):=by rw[Lib.cell_of_heap Hcv.out];rfl
    have htxt:Hn chs.reverse=kP (val xs):=by rw[hchs];exact Gr _
    have hBx:Below w.heap.size w wr:=by
     rw[World.size_alloc]at hb';exact((Below.refl _ w).alloc (Nat.le_refl _) _).trans ((hb'.trans Hw'.out).mono (Nat.le_succ _))
    have hB0:Lib.IsBuilderF 52 5 wr.heap.size wr.heap.size (Lib.byteCells []) (wr.alloc (.cells #[.pointer none, .slice none 0 0] 52)):= .inl ⟨Nat.le_refl _,_,heap_alloc_new _ _,World.ownsRowF_nil _ _ _ _,by simp[Value.ownBlock]⟩;have Hchs:=Lib.hid hchs;have Hne:=Lib.hid hne;have H9:=Lib.hid h9;have HW:=Lib.hid hW;have Htxt:=Lib.hid htxt;have HBx:=Lib.hid hBx;have HB0:=Lib.hid hB0;have Hv0:=Lib.hid hv0;have Htab':Hid (oH wr):=Lib.hid (Htab.out.mono hBx rfl);clear hchs hne h9 hW htxt hBx hB0 hv0 hwd9 hk2 hk5 hk6 hmn
    have hbs:w.heap.size+1≤wr.heap.size:=by
     have h1:=hg1;have h2:=(Array.getElem?_eq_some_iff.1 Hcv.out).1;rw[World.size_alloc]at h1 hb';have:=hb'.size
     simp at this
     omega
    have hws:w.heap.size<wr.heap.size:=by omega
    have hBlt:=(Array.getElem?_eq_some_iff.1 Hcv.out).1;have hneg1:(wr.alloc (.cells #[.pointer none, .slice none 0 0] 52)).cell? ⟨w.heap.size,0,none⟩=some (.bool na):=by rw[World.cell?_of_block (w:=wr) (a:=⟨w.heap.size,0,none⟩) (Lib.alloc_old wr _ _ hws)];exact hneg
    have hchunk1:(wr.alloc (.cells #[.pointer none, .slice none 0 0] 52)).cell? ⟨w'.heap.size,0,none⟩=some (.slice (some ⟨k,0,none⟩) chs.length cap2):=by rw[World.cell?_of_block (w:=wr) (a:=⟨w'.heap.size,0,none⟩) (Lib.alloc_old wr _ _ hBlt)];exact hchunk
    have Hchunk:=Lib.hid hchunk;clear hneg hchunk;cases na
    ·gi_wp2_with (refine⟨trivial,?_⟩;gi_at_call 141;refine(kh _ _ trivial hro _ _ _ _).mono ?_;rintro e w5 ⟨rfl,rfl⟩)
     have hbV:=HB0.out;have hBV:Below wr.heap.size wr (wr.alloc (.cells #[.pointer none, .slice none 0 0] 52)):=(Below.refl _ _).alloc (Nat.le_refl _) _;have hlt0:wr.heap.size<(wr.alloc (.cells #[.pointer none, .slice none 0 0] 52)).heap.size:=by simp
     obtain⟨V,hV⟩:∃V,V=(wr.alloc (.cells #[.pointer none, .slice none 0 0] 52)):=⟨_,rfl⟩;rw[← hV]at hbV hBV hlt0 ⊢;have hVS:V.heap.size=(wr.heap.size+1):=by first|rfl|(rw[hV,World.size_alloc])
     clear hV;have hVs:=hBV.size;have HbV:=Lib.hid hbV;clear hbV hneg1 hchunk1 hne1 hne2 hk4 hg5 hg6 hg4 hg3 ho' Htrim Hcl Hm Hmd Hch Hcr;have hVa:Below wr.heap.size wr (V.alloc (.cells #[.slice (some ⟨k,0,none⟩) chs.length cap2] 22)):=hBV.alloc hVs _;have hbs1:(V.alloc (.cells #[.slice (some ⟨k,0,none⟩) chs.length cap2] 22)).heap[(wr.heap.size+1)]? =some (.cells #[.slice (some ⟨k,0,none⟩) chs.length cap2] 22 (0,0)):=(by rw[← hVS];exact heap_alloc_new _ _);have hltZ:wr.heap.size<(wr.heap.size+1):=by omega
     clear hlt0
     refine wpIn_rangeFunc_ownG hro (by decide) (gf:=167) (lb:= #[.pointer (some ⟨(wr.heap.size+1),0,none⟩)]) rfl trivial (enters_of Tryz.func167 (by kernel_rfl) rfl)
      (ot Fence.wide 3 trivial hro (by decide) (wr.heap.size+1) (some ⟨k,0,none⟩) chs.length cap2 chs 1000000000 (by decide) H9.out wr _ HW.out hVa (by rw[World.size_alloc];have:=hVS;omega) (by rw[Lib.cell_of_heap hbs1];rfl)) (fun h k=>KB.trans h k) (KB.put (by simp;omega) (by rw[World.size_alloc];have:=hVS;omega)) (Below.refl _ _) (fun _=>rfl)
      (fun pre W=>Lib.IsBuilderF 52 5 wr.heap.size wr.heap.size (Lib.byteCells ([]++nc chs.length pre)) W∧Below wr.heap.size wr W∧W.heap[(wr.heap.size+1)]? =some (.cells #[.slice (some ⟨k,0,none⟩) chs.length cap2] 22 (0,0)))
      (fun _ _ _=>False)
      (OwnFrom.and zt (OwnFrom.and (ownFrom_below (Nat.le_refl _) (by simp;omega)) (rR _ _ _ _)))
      (fun _ _ _ _ _ hs _ _=>hs)
      ⟨fJ HbV.out (dV ((Below.refl _ _).alloc (Nat.le_refl _) _)),hVa,hbs1⟩ ?afalse ?assign ?body ?done ?stop
     all_goals clear hVS
     case assign=>
      intro l x W K hK
      gi_wp2
      exact hK
     case body=>
      rintro l pre x W ⟨hb,hB,hbs⟩ hlt;obtain⟨cc,hcc⟩:∃cc,cc=x.2%1000000000:=⟨_,rfl⟩;obtain⟨ix,hix⟩:∃ix,ix=x.1:=⟨_,rfl⟩;have hc9:cc<1000000000:=by rw[hcc];exact oT _
      have hS9:=uf hc9;have hL:=wG chs.length pre;have hsn:=sO chs.length pre x;have hpx:yd chs.length x=if(ix:Int)<(chs.length:Int)-1 then rD cc else dd cc:=by rw[hcc,hix];rfl
      rw[← hcc,← hix];have hfu:=iq cc (by omega) W (Htab'.out.mono hB rfl).here;rw[mr]at hfu;have hcW:W.cell? ⟨w'.heap.size,0,none⟩=some (.slice (some ⟨k,0,none⟩) chs.length cap2):=(hB.cell (p:=⟨w'.heap.size,0,none⟩) hBlt).trans Hchunk.out;have hwr:IntKind.u64.wrap (cc:Int)=cc:=by rw[IntKind.wrap_u64];omega
      have hWs:=hB.size;have hl1:(Lib.byteCells ([]++nc chs.length pre)).length≤20000:=by rw[Lib.byteCells_length];simp;omega
      have Hcc:=Lib.hid hcc;have Hix:=Lib.hid hix;have Hsn:=Lib.hid hsn;have Hpx:=Lib.hid hpx;have Hfu:=Lib.hid hfu;have Hb:=Lib.hid hb;have HB:=Lib.hid hB;have Hbs:=Lib.hid hbs;clear hcc hix hsn hpx hfu hb hB hbs
      by_cases hp:(ix:Int)<(chs.length:Int)-1
      ·have hpt:yd chs.length x=List.replicate (9-(dd cc).length) 48++dd cc:=by rw[Hpx.out,if_pos hp];rfl
       have hrep:=fun W=>zh (cc:=cc) hS9 rfl W
       have hsz:(ByteArray.mk (dd cc).toArray).size=(dd cc).length:=au _;have Hpt:=Lib.hid hpt;clear hpt
       gi_wp2
       refine⟨trivial,?_⟩
       gi_at_call 142
       refine(CallsIn.inRound l (callsIn_wide.2 Hfu.out)).mono ?_;rintro e w6 ⟨rfl,hb6⟩;have hc6:=(hb6.cell (p:=⟨w'.heap.size,0,none⟩) (by dsimp only;omega)).trans hcW;have Hb6:=Lib.hid (fJ Hb.out (dV hb6));have hs6:=hb6.size
       gi_wp2
       refine⟨trivial,?_⟩
       gi_at_call 93
       refine(CallsIn.inRound l (callsIn_wide.2 (hrep _))).mono ?_;rintro e w7 ⟨rfl,hb7⟩;have Hb7:=Lib.hid (fJ Hb6.out (dV hb7));have hs7:=hb7.size
       gi_wp2
       refine⟨trivial,?_⟩
       gi_at_call 57
       refine(CallsIn.inRound l (callsIn_wide.2 (el wr.heap.size wr.heap.size _ ⟨(List.replicate (9-(dd cc).length) (48:UInt8)).toArray⟩ w7 Hb7.out (by rw[show(ByteArray.mk (List.replicate (9-(dd cc).length) (48:UInt8)).toArray).size=9-(dd cc).length by rw[wg _];simp];omega) (by omega)))).mono ?_;rintro e w8 ⟨rfl,hb8,hw8,ho8⟩;rw[gV]at hb8;have Hb8:=Lib.hid (show Lib.IsBuilderF 52 5 wr.heap.size wr.heap.size _ w8 from .inr hb8);have hs8:=hw8.size;have Hw8:=Lib.hid hw8;have Ho8:=Lib.hid ho8;clear hb8 hw8 ho8
       gi_wp2
       refine⟨trivial,?_⟩
       gi_at_call 57
       refine(CallsIn.inRound l (callsIn_wide.2 (el wr.heap.size wr.heap.size _ ⟨(dd cc).toArray⟩ w8 Hb8.out (by rw[hsz,Lib.byteCells_length];simp;omega) (by omega)))).mono ?_;rintro e w9 ⟨rfl,hb9,hw9,ho9⟩;rw[gV]at hb9;have Hb9:=Lib.hid (show Lib.IsBuilderF 52 5 wr.heap.size wr.heap.size _ w9 from .inr hb9);have hs9:=hw9.size;have Hw9:=Lib.hid hw9;have Ho9:=Lib.hid ho9;clear hb9 hw9 ho9
       gi_wp2
       have h1:KB wr.heap.size (wr.heap.size+1) W w7:=⟨(hb6.mono hWs).trans (hb7.mono (by omega)),(hb7.block _ (by have:=(Array.getElem?_eq_some_iff.1 Hbs.out).1;omega)).trans (hb6.block _ (Array.getElem?_eq_some_iff.1 Hbs.out).1)⟩;have h2:=kz Hw8.out (h1.2.trans Hbs.out) (by decide) (by omega) Ho8.out;have h3:=kz Hw9.out ((h1.trans h2).2.trans Hbs.out) (by decide) (by omega) Ho9.out;refine⟨?_,(h1.trans h2).trans h3,?_,?_,((h1.trans h2).trans h3).2.trans Hbs.out⟩
       ·exact((iX hb6).trans ((iX hb7).trans ((iD Hb7.out hs8 Ho8.out).trans (iD Hb8.out hs9 Ho9.out)))).from _
       ·have h4:=Hb9.out
        rw[List.append_assoc,List.append_assoc,← Hpt.out,← Hsn.out]at h4;exact h4
       ·exact((HB.out.trans (hb6.mono hWs)).trans (hb7.mono (by omega))).trans (Hw8.out.trans Hw9.out)
      ·have hpt:yd chs.length x=dd cc:=by rw[Hpx.out,if_neg hp]
       have hsz:(ByteArray.mk (dd cc).toArray).size=(dd cc).length:=au _;have Hpt:=Lib.hid hpt;clear hpt
       gi_wp2
       refine⟨trivial,?_⟩
       gi_at_call 142
       refine(CallsIn.inRound l (callsIn_wide.2 Hfu.out)).mono ?_;rintro e w6 ⟨rfl,hb6⟩;have hc6:=(hb6.cell (p:=⟨w'.heap.size,0,none⟩) (by dsimp only;omega)).trans hcW;have Hb6:=Lib.hid (fJ Hb.out (dV hb6));have hs6:=hb6.size
       gi_wp2
       refine⟨trivial,?_⟩
       gi_at_call 57
       refine(CallsIn.inRound l (callsIn_wide.2 (el wr.heap.size wr.heap.size _ ⟨(dd cc).toArray⟩ w6 Hb6.out (by rw[hsz,Lib.byteCells_length];simp;omega) (by omega)))).mono ?_;rintro e w9 ⟨rfl,hb9,hw9,ho9⟩;rw[gV]at hb9;have Hb9:=Lib.hid (show Lib.IsBuilderF 52 5 wr.heap.size wr.heap.size _ w9 from .inr hb9);have hs9:=hw9.size;have Hw9:=Lib.hid hw9;have Ho9:=Lib.hid ho9;clear hb9 hw9 ho9
       gi_wp2
       have h1:KB wr.heap.size (wr.heap.size+1) W w6:=⟨hb6.mono hWs,hb6.block _ (Array.getElem?_eq_some_iff.1 Hbs.out).1⟩;have h3:=kz Hw9.out (h1.2.trans Hbs.out) (by decide) (by omega) Ho9.out;refine⟨?_,h1.trans h3,?_,?_,(h1.trans h3).2.trans Hbs.out⟩
       ·exact((iX hb6).trans (iD Hb6.out hs9 Ho9.out)).from _
       ·have h4:=Hb9.out
        rw[List.append_assoc,← Hpt.out,← Hsn.out]at h4;exact h4
       ·exact(HB.out.trans (hb6.mono hWs)).trans Hw9.out
     case done=>
      rintro D ys W hD rfl ⟨hb,hB,_⟩ hK;rw[sF H9.out Hne.out,Htxt.out,AB Hv0.out]at hb;have hWs:=hB.size;have hDs:w.heap.size≤D:=by rw[World.size_alloc]at hD;omega
      gi_wp2_with (refine⟨trivial,?_⟩;gi_at_call 33;refine(callsIn_wide.2 (Tryz.Builder_String_any_k wr.heap.size wr.heap.size _ W hb hWs)).mono ?_;rintro e w6 ⟨rfl,hb6,hw6,ho6⟩)
      have hK6:=(iD hb hw6.size ho6).same D _ hK rfl;refine⟨by simp, .inl ⟨_,_,rfl,run_takeDeferred hK6,?_⟩⟩;refine⟨_,results_tmp rfl _ _ _,rfl,?_⟩;exact(HBx.out.trans ((hB.trans hw6).mono (by omega))).trans (belowK_b (w:=w) (Nat.le_refl _) w6 D _ _ hDs hK6 rfl rfl)
     case stop=>
      rintro D c pre W _ _ h _;exact h.elim
    ·gi_wp2_with (first|(refine⟨trivial,?_⟩;gi_at_call 140;refine(callsIn_wide.2 (vE wr.heap.size wr.heap.size (Lib.byteCells []) 45 _ HB0.out (by simp[Lib.byteCells]) (by simp))).mono ?_;rintro e w4 ⟨rfl,hb4,hw4,ho4⟩;have hcV:w4.cell? ⟨w'.heap.size,0,none⟩=some (.slice (some ⟨k,0,none⟩) chs.length cap2):=(hw4.cell (p:=⟨w'.heap.size,0,none⟩) hBlt).trans hchunk1)|(refine⟨trivial,?_⟩;gi_at_call 141;refine(kh _ _ trivial hro _ _ _ _).mono ?_;rintro e w5 ⟨rfl,rfl⟩))
     have hbV:Lib.IsBuilderF 52 5 wr.heap.size wr.heap.size (Lib.byteCells [45]) w4:= .inr hb4;have hBV:Below wr.heap.size wr w4:=((Below.refl _ _).alloc (Nat.le_refl _) _).trans hw4;have hlt0:=hb4.lt;clear ho4 hw4 hb4 hcV
     obtain⟨V,hV⟩:∃V,V=w4:=⟨_,rfl⟩;rw[← hV]at hbV hBV hlt0 ⊢;have hVS:V.heap.size=V.heap.size:=by first|rfl|(rw[hV,World.size_alloc])
     clear hV;have hVs:=hBV.size;have HbV:=Lib.hid hbV;clear hbV hneg1 hchunk1 hne1 hne2 hk4 hg5 hg6 hg4 hg3 ho' Htrim Hcl Hm Hmd Hch Hcr;have hVa:Below wr.heap.size wr (V.alloc (.cells #[.slice (some ⟨k,0,none⟩) chs.length cap2] 22)):=hBV.alloc hVs _;have hbs1:(V.alloc (.cells #[.slice (some ⟨k,0,none⟩) chs.length cap2] 22)).heap[V.heap.size]? =some (.cells #[.slice (some ⟨k,0,none⟩) chs.length cap2] 22 (0,0)):=(by rw[← hVS];exact heap_alloc_new _ _);have hltZ:wr.heap.size<V.heap.size:=by omega
     clear hlt0
     refine wpIn_rangeFunc_ownG hro (by decide) (gf:=167) (lb:= #[.pointer (some ⟨V.heap.size,0,none⟩)]) rfl trivial (enters_of Tryz.func167 (by kernel_rfl) rfl)
      (ot Fence.wide 3 trivial hro (by decide) V.heap.size (some ⟨k,0,none⟩) chs.length cap2 chs 1000000000 (by decide) H9.out wr _ HW.out hVa (by rw[World.size_alloc];have:=hVS;omega) (by rw[Lib.cell_of_heap hbs1];rfl)) (fun h k=>KB.trans h k) (KB.put (by simp;omega) (by rw[World.size_alloc];have:=hVS;omega)) (Below.refl _ _) (fun _=>rfl)
      (fun pre W=>Lib.IsBuilderF 52 5 wr.heap.size wr.heap.size (Lib.byteCells ([45]++nc chs.length pre)) W∧Below wr.heap.size wr W∧W.heap[V.heap.size]? =some (.cells #[.slice (some ⟨k,0,none⟩) chs.length cap2] 22 (0,0)))
      (fun _ _ _=>False)
      (OwnFrom.and zt (OwnFrom.and (ownFrom_below (Nat.le_refl _) (by simp;omega)) (rR _ _ _ _)))
      (fun _ _ _ _ _ hs _ _=>hs)
      ⟨fJ HbV.out (dV ((Below.refl _ _).alloc (Nat.le_refl _) _)),hVa,hbs1⟩ ?atrue ?assign ?body ?done ?stop
     all_goals clear hVS
     case assign=>
      intro l x W K hK
      gi_wp2
      exact hK
     case body=>
      rintro l pre x W ⟨hb,hB,hbs⟩ hlt;obtain⟨cc,hcc⟩:∃cc,cc=x.2%1000000000:=⟨_,rfl⟩;obtain⟨ix,hix⟩:∃ix,ix=x.1:=⟨_,rfl⟩;have hc9:cc<1000000000:=by rw[hcc];exact oT _
      have hS9:=uf hc9;have hL:=wG chs.length pre;have hsn:=sO chs.length pre x;have hpx:yd chs.length x=if(ix:Int)<(chs.length:Int)-1 then rD cc else dd cc:=by rw[hcc,hix];rfl
      rw[← hcc,← hix];have hfu:=iq cc (by omega) W (Htab'.out.mono hB rfl).here;rw[mr]at hfu;have hcW:W.cell? ⟨w'.heap.size,0,none⟩=some (.slice (some ⟨k,0,none⟩) chs.length cap2):=(hB.cell (p:=⟨w'.heap.size,0,none⟩) hBlt).trans Hchunk.out;have hwr:IntKind.u64.wrap (cc:Int)=cc:=by rw[IntKind.wrap_u64];omega
      have hWs:=hB.size;have hl1:(Lib.byteCells ([45]++nc chs.length pre)).length≤20000:=by rw[Lib.byteCells_length];simp;omega
      have Hcc:=Lib.hid hcc;have Hix:=Lib.hid hix;have Hsn:=Lib.hid hsn;have Hpx:=Lib.hid hpx;have Hfu:=Lib.hid hfu;have Hb:=Lib.hid hb;have HB:=Lib.hid hB;have Hbs:=Lib.hid hbs;clear hcc hix hsn hpx hfu hb hB hbs
      by_cases hp:(ix:Int)<(chs.length:Int)-1
      ·have hpt:yd chs.length x=List.replicate (9-(dd cc).length) 48++dd cc:=by rw[Hpx.out,if_pos hp];rfl
       have hrep:=fun W=>zh (cc:=cc) hS9 rfl W
       have hsz:(ByteArray.mk (dd cc).toArray).size=(dd cc).length:=au _;have Hpt:=Lib.hid hpt;clear hpt
       gi_wp2
       refine⟨trivial,?_⟩
       gi_at_call 142
       refine(CallsIn.inRound l (callsIn_wide.2 Hfu.out)).mono ?_;rintro e w6 ⟨rfl,hb6⟩;have hc6:=(hb6.cell (p:=⟨w'.heap.size,0,none⟩) (by dsimp only;omega)).trans hcW;have Hb6:=Lib.hid (fJ Hb.out (dV hb6));have hs6:=hb6.size
       gi_wp2
       refine⟨trivial,?_⟩
       gi_at_call 93
       refine(CallsIn.inRound l (callsIn_wide.2 (hrep _))).mono ?_;rintro e w7 ⟨rfl,hb7⟩;have Hb7:=Lib.hid (fJ Hb6.out (dV hb7));have hs7:=hb7.size
       gi_wp2
       refine⟨trivial,?_⟩
       gi_at_call 57
       refine(CallsIn.inRound l (callsIn_wide.2 (el wr.heap.size wr.heap.size _ ⟨(List.replicate (9-(dd cc).length) (48:UInt8)).toArray⟩ w7 Hb7.out (by rw[show(ByteArray.mk (List.replicate (9-(dd cc).length) (48:UInt8)).toArray).size=9-(dd cc).length by rw[wg _];simp];omega) (by omega)))).mono ?_;rintro e w8 ⟨rfl,hb8,hw8,ho8⟩;rw[gV]at hb8;have Hb8:=Lib.hid (show Lib.IsBuilderF 52 5 wr.heap.size wr.heap.size _ w8 from .inr hb8);have hs8:=hw8.size;have Hw8:=Lib.hid hw8;have Ho8:=Lib.hid ho8;clear hb8 hw8 ho8
       gi_wp2
       refine⟨trivial,?_⟩
       gi_at_call 57
       refine(CallsIn.inRound l (callsIn_wide.2 (el wr.heap.size wr.heap.size _ ⟨(dd cc).toArray⟩ w8 Hb8.out (by rw[hsz,Lib.byteCells_length];simp;omega) (by omega)))).mono ?_;rintro e w9 ⟨rfl,hb9,hw9,ho9⟩;rw[gV]at hb9;have Hb9:=Lib.hid (show Lib.IsBuilderF 52 5 wr.heap.size wr.heap.size _ w9 from .inr hb9);have hs9:=hw9.size;have Hw9:=Lib.hid hw9;have Ho9:=Lib.hid ho9;clear hb9 hw9 ho9
       gi_wp2
       have h1:KB wr.heap.size V.heap.size W w7:=⟨(hb6.mono hWs).trans (hb7.mono (by omega)),(hb7.block _ (by have:=(Array.getElem?_eq_some_iff.1 Hbs.out).1;omega)).trans (hb6.block _ (Array.getElem?_eq_some_iff.1 Hbs.out).1)⟩;have h2:=kz Hw8.out (h1.2.trans Hbs.out) (by decide) (by omega) Ho8.out;have h3:=kz Hw9.out ((h1.trans h2).2.trans Hbs.out) (by decide) (by omega) Ho9.out;refine⟨?_,(h1.trans h2).trans h3,?_,?_,((h1.trans h2).trans h3).2.trans Hbs.out⟩
       ·exact((iX hb6).trans ((iX hb7).trans ((iD Hb7.out hs8 Ho8.out).trans (iD Hb8.out hs9 Ho9.out)))).from _
       ·have h4:=Hb9.out
        rw[List.append_assoc,List.append_assoc,← Hpt.out,← Hsn.out]at h4;exact h4
       ·exact((HB.out.trans (hb6.mono hWs)).trans (hb7.mono (by omega))).trans (Hw8.out.trans Hw9.out)
      ·have hpt:yd chs.length x=dd cc:=by rw[Hpx.out,if_neg hp]
       have hsz:(ByteArray.mk (dd cc).toArray).size=(dd cc).length:=au _;have Hpt:=Lib.hid hpt;clear hpt
       gi_wp2
       refine⟨trivial,?_⟩
       gi_at_call 142
       refine(CallsIn.inRound l (callsIn_wide.2 Hfu.out)).mono ?_;rintro e w6 ⟨rfl,hb6⟩;have hc6:=(hb6.cell (p:=⟨w'.heap.size,0,none⟩) (by dsimp only;omega)).trans hcW;have Hb6:=Lib.hid (fJ Hb.out (dV hb6));have hs6:=hb6.size
       gi_wp2
       refine⟨trivial,?_⟩
       gi_at_call 57
       refine(CallsIn.inRound l (callsIn_wide.2 (el wr.heap.size wr.heap.size _ ⟨(dd cc).toArray⟩ w6 Hb6.out (by rw[hsz,Lib.byteCells_length];simp;omega) (by omega)))).mono ?_;rintro e w9 ⟨rfl,hb9,hw9,ho9⟩;rw[gV]at hb9;have Hb9:=Lib.hid (show Lib.IsBuilderF 52 5 wr.heap.size wr.heap.size _ w9 from .inr hb9);have hs9:=hw9.size;have Hw9:=Lib.hid hw9;have Ho9:=Lib.hid ho9;clear hb9 hw9 ho9
       gi_wp2
       have h1:KB wr.heap.size V.heap.size W w6:=⟨hb6.mono hWs,hb6.block _ (Array.getElem?_eq_some_iff.1 Hbs.out).1⟩;have h3:=kz Hw9.out (h1.2.trans Hbs.out) (by decide) (by omega) Ho9.out;refine⟨?_,h1.trans h3,?_,?_,(h1.trans h3).2.trans Hbs.out⟩
       ·exact((iX hb6).trans (iD Hb6.out hs9 Ho9.out)).from _
       ·have h4:=Hb9.out
        rw[List.append_assoc,← Hpt.out,← Hsn.out]at h4;exact h4
       ·exact(HB.out.trans (hb6.mono hWs)).trans Hw9.out
     case done=>
      rintro D ys W hD rfl ⟨hb,hB,_⟩ hK;rw[sF H9.out Hne.out,Htxt.out,DS Hv0.out]at hb;have hWs:=hB.size;have hDs:w.heap.size≤D:=by rw[World.size_alloc]at hD;omega
      gi_wp2_with (refine⟨trivial,?_⟩;gi_at_call 33;refine(callsIn_wide.2 (Tryz.Builder_String_any_k wr.heap.size wr.heap.size _ W hb hWs)).mono ?_;rintro e w6 ⟨rfl,hb6,hw6,ho6⟩)
      have hK6:=(iD hb hw6.size ho6).same D _ hK rfl;refine⟨by simp, .inl ⟨_,_,rfl,run_takeDeferred hK6,?_⟩⟩;refine⟨_,results_tmp rfl _ _ _,rfl,?_⟩;exact(HBx.out.trans ((hB.trans hw6).mono (by omega))).trans (belowK_b (w:=w) (Nat.le_refl _) w6 D _ _ hDs hK6 rfl rfl)
     case stop=>
      rintro D c pre W _ _ h _;exact h.elim
   ·have hz1:(ms.length:Int) > 0:=by omega
    have hz2:(0:Int)<ms.length:=by omega
    gi_wp2
    gi_loopw [5,6] (fun r i w2=>∃(k:Nat) (zs:List Nat) (rr:Nat),k≤ms.length∧i= .int .i64 ((ms.length:Int)-1-k)∧r= .int .u64 (rr:Int)∧rr<1000000000∧zs.length=ms.length∧Wd zs ∧
     w2.ownsRow (w.heap.size+1) 82 1 (.slice (some ⟨g,0,none⟩) ms.length cap) ms.length (zs.map bC)∧zs.take (ms.length-k)=ms.take (ms.length-k)∧val (zs.drop (ms.length-k))*1000000000+rr=val (ms.drop (ms.length-k)) ∧
     (∀b,b≠g→w2.heap[b]? =wr.heap[b]?)∧Below (w.heap.size+1) wr w2)
     (fun r i w2=>(intOf i+1).toNat)
    case atStart=>exact⟨0,ms,0,Nat.zero_le _,by go_num,rfl,by decide,rfl,by rw[Hmd.out];exact aq _,Hm.out,rfl,by rw[Nat.sub_zero,List.drop_length];rfl,fun _ _=>rfl,Below.refl _ _⟩
    case round=>
     obtain⟨k,zs,rr,hk,rfl,rfl,hrr,hzl,hzw,hzo,hzt,hzv,hzb,hzB⟩:=hrel;have Hzl:=Lib.hid hzl;have Hzw:=Lib.hid hzw;have Hzt:=Lib.hid hzt;have Hzv:=Lib.hid hzv;have Hzb:=Lib.hid hzb;have HzB:=Lib.hid hzB
     by_cases hlt:k<ms.length
     ·obtain⟨j,hj⟩:∃j,j=ms.length-1-k:=⟨_,rfl⟩
      have hjl:j<ms.length:=by omega
      have hjz:j<zs.length:=by omega
      have hcell:=hzo.cellAt j (by omega);have hfr:=hzo.frozenAt j;rw[List.getElem?_map,List.getElem?_eq_getElem hjz]at hcell;have hxw:zs[j]<4294967296:=hzw _ (List.getElem_mem hjz)
      obtain⟨x,hx⟩:∃x,zs[j]=x:=⟨_,rfl⟩;rw[hx]at hcell hxw;have hor:=gR rr x (by omega) hxw;have Hx':=Lib.hid hx;have Hzo:=Lib.hid hzo;have g1:(0:Int)≤(ms.length:Int)-1-k:=by omega
      have g2:(ms.length:Int)-1-k<ms.length:=by omega
      have g3:((ms.length:Int)-1-k).toNat=j:=by omega
      rw[hj]at hcell hfr g3;have HJ:=Lib.hid hj;have Hjl:=Lib.hid hjl;clear hzo hzl hzw hzt hzv hzb hzB hx hj hjl
      gi_wp2
      obtain⟨d,hd⟩:∃d:Nat,(rr*4294967296+x)/1000000000=d:=⟨_,rfl⟩;obtain⟨r1,hr1⟩:∃r1:Nat,(rr*4294967296+x)%1000000000=r1:=⟨_,rfl⟩;have ed:((rr:Int)*4294967296+x)/1000000000=(d:Nat):=by omega
      have er:((rr:Int)*4294967296+x)%1000000000=(r1:Nat):=by omega
      rw[ed,er];have hst:=Hzo.out.stored j (bC d);rw[HJ.out]at hst;have hjl:=Hjl.out;refine⟨⟨k+1,zs.set j d,r1,by omega,by go_num,rfl,by omega,by rw[List.length_set];exact Hzl.out,?_,by rw[List.map_set,HJ.out];exact hst.1,?_,?_,fun b hb=>(Below.heap_setCell _ _ _ _ hb).trans (Hzb.out b hb),HzB.out.setCell (p:=⟨g,ms.length-1-k,none⟩) (by have h1:=hg1;rw[World.size_alloc]at h1;exact h1) _⟩,by simp[intOf];omega⟩
      ·exact bl Hzw.out j d (by omega)
      ·have ht:=congrArg (List.take (ms.length-(k+1))) Hzt.out
       rw[List.take_take,List.take_take,Nat.min_eq_left (by omega)]at ht;have hj:=HJ.out;rw[List.take_set_of_le (by omega)];exact ht
      ·have hj:=HJ.out
       have hzl:=Hzl.out
       have hmx:ms.getD j 0=x:=by
        have h1:=congrArg (fun l:List Nat=>l.getD j 0) Hzt.out
        simp only[List.getD_eq_getElem?_getD,List.getElem?_take]at h1
        rw[if_pos (by omega),if_pos (by omega)]at h1;rw[List.getD_eq_getElem?_getD,← h1,List.getElem?_eq_getElem hjz,Hx'.out];rfl
       have e1:=cH ms (ms.length-k) (by omega) (by omega);have e2:=cH (zs.set j d) (ms.length-k) (by omega) (by rw[List.length_set];omega);rw[show ms.length-k-1=j by omega]at e1 e2;rw[show ms.length-(k+1)=j by omega,e1,e2,hmx,List.drop_set_of_lt (by omega)];have h3:(zs.set j d).getD j 0=d:=by rw[List.getD_eq_getElem?_getD,List.getElem?_set_self hjz];rfl
       rw[h3];exact Ci Hzv.out hd hr1
     ·obtain rfl:k=ms.length:=by omega
      have hmc:ms.length≤cap:=by
       rcases hzo.2 with⟨h1,_⟩| ⟨g',c',_,h1,_,_,h2,_⟩
       ·cases h1
       ·cases h1;exact h2
      have hw2:az wr (some ⟨g,0,none⟩) ms.length cap zs:=fq hzo hzw hmc (by unfold maxLen at hg4;omega);have Hzo:=Lib.hid hzo;have htr:=bw (some ⟨g,0,none⟩) ms.length cap zs wr hw2;have Htr:=Lib.hid htr;have g1:¬((0:Int)≤(ms.length:Int)-1-ms.length):=by omega
      have hgq:w'.heap.size≠g:=by have:=(Array.getElem?_eq_some_iff.1 hg2).1;omega
      have hq:=(hzb w'.heap.size hgq).trans Hcv.out;have hcr2:=ju Hcr.out hzb hne1;have c0:wr.cell? ⟨w'.heap.size,0,none⟩=some cv:=by rw[Lib.cell_of_heap hq];rfl
      have f0:wr.frozen? ⟨w'.heap.size,0,none⟩=false:=Lib.frozen_of_heap hq 0;have Hq:=Lib.hid hq;have Hcr2:=Lib.hid hcr2;clear hq hcr2;clear hzo hzl hzw hzt hzv hzb hzB hw2 htr
      have hcl:chs.length≤2000:=by
       have h1:=congrArg List.length Hch.out;have h2:=mR Hx.out.wd;rw[List.length_append]at h1;omega
      obtain⟨i0,hi,hz0,hz1',hz2'⟩:=info_parts Tryz.infoU32
      have hbs:w.heap.size+1≤wr.heap.size:=by
       have h1:=hg1;have h2:=(Array.getElem?_eq_some_iff.1 Hq.out).1;rw[World.size_alloc]at h1 hb';have:=hb'.size
       simp at this
       omega
      gi_wp2_with (first|(refine⟨trivial,?_⟩;gi_at_call 137;refine(callsIn_wide.2 Htr.out).mono ?_;rintro e w3 ⟨rfl,rfl⟩)|(gi_at_builtin;refine wpListIn_append_own _ rfl _ _ 22 rfl (w'.heap.size+1) 82 i0 (.int .u32 0) 1 4 Tryz.underlying22 hi hz0 hz1' hz2' rfl (by decide) _ _ _ rfl (Hcr2.out.alloc _) ⟨wr.heap.size,0,none⟩ 1 1 [bC rr] rfl rfl ?c1 ?c2 ?c3 ?c4 ?c5 ?_))
      case c1=>
       intro j u hj
       match j,hj with
       |0,hj=>simp at hj;subst hj;simp[Addr.add]
      case c2=>intro u hu;simp at hu;subst hu;rfl
      case c3=>unfold maxLen;omega
      case c4=>omega
      case c5=>have:=(Array.getElem?_eq_some_iff.1 Hq.out).1;simp;omega
      intro v2 w2 hown2 hgrow _;have hBlt:=(Array.getElem?_eq_some_iff.1 Hq.out).1
      have hq2:w2.heap[w'.heap.size]? =some (.cells #[cv] 22 (0,0)):=by
       rw[hgrow.block w'.heap.size (by simp;omega) (fun e=>hne2 e.symm),Lib.alloc_old wr _ w'.heap.size hBlt];exact Hq.out
      have e0:w2.cell? ⟨w'.heap.size,0,none⟩=some cv:=by rw[Lib.cell_of_heap hq2];rfl
      have g0:w2.frozen? ⟨w'.heap.size,0,none⟩=false:=Lib.frozen_of_heap hq2 0
      obtain⟨ao,n2,c2,rfl⟩:∃ao n2 c2,v2= .slice ao n2 c2:=by
       rcases hown2.2 with⟨hv,_⟩| ⟨g2,cap2,cur2,hv,_⟩
       ·exact⟨_,_,_,hv⟩
       ·exact⟨_,_,_,hv⟩
      have Hown2:=Lib.hid hown2;have Hgrow:=Lib.hid hgrow;clear hown2 hgrow
      gi_wp2
      have hvz:val zs*1000000000+rr=val ms:=by
       have:=Hzv.out;rw[Nat.sub_self,List.drop_zero,List.drop_zero]at this;exact this
      have hm0:val ms≠0:=fun e=>by
       have:=Hmd.out;rw[e,aD]at this;rw[this]at hz;exact hz rfl
      have hzl:=Hzl.out;have htz:=bD Hzw.out
      have hog:(w2.setCell ⟨w'.heap.size,0,none⟩ (.slice ao n2 c2)).ownsRow (w.heap.size+1) 82 1 (.slice (some ⟨g,0,none⟩) (trim zs).length cap) (trim zs).length ((trim zs).map bC):=by
       have h1:w2.ownsRow (w.heap.size+1) 82 1 (.slice (some ⟨g,0,none⟩) ms.length cap) ms.length (zs.map bC):=(Hzo.out.alloc _).kept Hgrow.out (.inr (fun e=>hne1 e.symm));have h2:=CW h1 (k:=(trim zs).length) (by omega);rw[← List.map_take,(ka Hzw.out).1]at h2;exact ju h2 (g:=w'.heap.size) (fun b hb=>Below.heap_setCell _ _ _ _ hb) (fun e=>hgq (Option.some.inj e).symm)
      have hos:∀k,(Value.slice ao n2 c2).ownBlock=some k→w'.heap.size+1≤k:=fun k hk=>(Hown2.out.lt k hk).1
      go_roundw
      case rel=>
       refine⟨trim zs,chs++[rr], .slice ao n2 c2,rfl,hog,by rw[aK];rfl,by omega,?_,?_,?_,?_⟩
       ·rw[aK,← Hch.out,qx hm0,show val ms%1000000000=rr by omega,show val ms/1000000000=val zs by omega]
        simp
       ·rw[heap_setCell_same _ _ _ _ _ _ hq2];rfl
       ·rw[List.length_append,List.map_append]
        exact ju Hown2.out (g:=w'.heap.size) (fun b hb=>Below.heap_setCell _ _ _ _ hb) (fun e=>by have:=hos _ e;omega)
       ·refine((Hw'.out.trans HzB.out).alloc (by omega) _ |>.grown Hgrow.out (by simp;omega) (fun k hk=>?_)).setCell (p:=⟨w'.heap.size,0,none⟩) ?_ _
        ·have:=(Hcr2.out.lt k hk).1
         have:=hb'.size
         simp at this
         omega
        ·have:=hb'.size
         simp at this
         exact this
      case measure=>
       show tN (.slice (some ⟨g,0,none⟩) (trim zs).length cap) _<tN (.slice (some ⟨g,0,none⟩) ms.length cap) _
       rw[qp hog,qp Hm.out,aK];omega
theorem CI (v:Value) (na:Bool) (xs:List Nat) (w:World) (h:bG w v na xs) (hl:xs.length≤1000) (htab:oH w):
 Calls Tryz.prog 92 #[v] w fun e w'=>e= .returned (.string (Bs (fmt (ak na xs))))∧Below w.heap.size w w':=callsIn_wide.1 (Bt v na xs w h hl htab)
theorem vk {na:Bool} {xs:List Nat} (hw:Wd xs) (hl:xs.length≤1000) {z:Int} (hz:ak na xs=z):ab Tryz.prog 92 [dI na xs] (.one (dL (fmt z))):=by
 refine⟨aB Tryz.func92 rfl rfl,fun S w vs hS hv=>?_⟩
 match vs,hv with
 | [v],⟨h,_⟩=>
  refine(CI v na xs w (mZ h hw) hl hS.1).mono ?_;rintro e w' ⟨rfl,hb⟩;exact⟨_,rfl,by rw[hz];exact AV.M.val rfl,hb⟩
theorem uJ {z:Int} (h:(digs z.natAbs).length≤1000):ab Tryz.prog 92 [dZ z] (.one (dL (fmt z))):=vk (aq _) h (aN z)
end Go.Proofs.YtikbnnljjeefgaaGreatDoor
namespace Go.Proofs.YtikbnnljjeefgaaGreatDoor
open Go.RowKit
theorem lT (s:List UInt8):ab Tryz.prog 215 [dL s,dL [45]] (.tup [dL (dx s),dB (bU s)]):=
 ⟨aB Tryz.func215 rfl rfl,fun S w vs hS hv=>by
  match vs,hv with
  | [v,u],⟨h1,h2,_⟩=>
   obtain rfl:=bM h1;obtain rfl:=bM h2;refine(Tryz.strings_CutPrefix (Bs s) (Bs [45]) w).mono ?_;rintro e w' ⟨rfl,rfl⟩
   have e1:(⟨(Lib.trimPrefix (Bs s).data.toList (Bs [45]).data.toList).toArray⟩:ByteArray)=Bs (dx s):=by
    unfold Bs
    congr 2
    cases s with
    |nil=>rfl
    |cons c r=>
     by_cases h:c=45
     ·simp[Lib.trimPrefix,Lib.hasPrefix,dx,h,List.isPrefixOf]
     ·have h':¬45=c:=fun e=>h e.symm
      simp[Lib.trimPrefix,Lib.hasPrefix,dx,h,h',List.isPrefixOf]
   have e2:Lib.hasPrefix (Bs s).data.toList (Bs [45]).data.toList=bU s:=by
    cases s with
    |nil=>rfl
    |cons c r=>
     by_cases h:c=45
     ·simp[Bs,Lib.hasPrefix,bU,h,List.isPrefixOf]
     ·have h1':(45 == c)=false:=beq_eq_false_iff_ne.2 fun e=>h e.symm
      have h2':(c == 45)=false:=beq_eq_false_iff_ne.2 h
      simp[Bs,Lib.hasPrefix,bU,h1',h2',List.isPrefixOf]
   rw[e1,e2];refine⟨_,rfl,⟨[.string (Bs (dx s)), .bool (bU s)],rfl,rfl,fun i x u h1 h2=>?_⟩,Below.refl _ _⟩
   match i with
   |0=>simp at h1 h2;subst h1 h2;exact AV.M.val rfl
   |1=>simp at h1 h2;subst h1 h2;exact AV.M.val rfl
   |i+2=>simp at h1⟩
def pV:List Nat→TV
 | []=> .nil
 |a::r=> .own 1000001 (a::r).length 1 82
def pX:List Nat→Option (List AV)
 | []=>none
 |a::r=>some ((a::r).map fun x:Nat=>AV.val (bC x))
theorem l6 (a b:List UInt8):num (a++b)=num a*10^b.length+num b:=by
 have:∀n (b:List UInt8),b.length=n→num (a++b)=num a*10^b.length+num b:=by
  intro n
  induction n with
  |zero=>intro b hb;rw[List.eq_nil_of_length_eq_zero hb];simp[num]
  |succ n ih=>
   intro b hb
   obtain⟨b',c,rfl⟩:∃l' c,b=l'++[c]:=by
    rcases List.eq_nil_or_concat b with h| ⟨l',c,h⟩
    ·subst h;simp at hb
    ·exact⟨l',c,by simpa using h⟩
   rw[← List.append_assoc,gx,ih b' (by simpa using hb),gx,List.length_append,List.length_singleton,Nat.pow_succ];generalize num a=x,10^b'.length=y;rw[← Nat.mul_assoc,Nat.mul_comm (x*y) 10];omega
 exact this _ b rfl
theorem CO {m:List Nat} (h:0<m.length):pV m= .own 1000001 m.length 1 82:=by
 cases m with
 |nil=>exact absurd h (by decide)
 |cons a r=>rfl
theorem D3 {m:List Nat} (h:0<m.length):pX m=some (m.map fun x:Nat=>AV.val (bC x)):=by
 cases m with
 |nil=>exact absurd h (by decide)
 |cons a r=>rfl
theorem xb {F C c w i v t:Nat} (hF:F≤1000000000) (hc:c<4294967296) (hw:w<4294967296) (h:v+4294967296^i*c=F*t+C):(c+w*F)/4294967296<4294967296∧v+4294967296^i*((c+w*F)%4294967296)+4294967296^(i+1)*((c+w*F)/4294967296)=F*(t+4294967296^i*w)+C:=by
 have hb:w*F≤4294967295*1000000000:=Nat.mul_le_mul (by omega) hF;refine⟨by omega,?_⟩;rw[Nat.pow_succ,Nat.mul_assoc,Nat.add_assoc,← Nat.mul_add,Nat.mod_add_div,Nat.mul_add,← Nat.add_assoc,h,Nat.mul_add];rw[← Nat.mul_assoc (4294967296^i),Nat.mul_comm (4294967296^i*w) F];omega
theorem kl (s:List UInt8):ab Tryz.prog 230 [dL s] (.tup [dZ (pz s).1,dN .i64 (pz s).2]):=by
 have z0:dZ 0= .agg [.val (.bool false), .sl 0 []]:=by unfold dZ;rw[e0]
 have hsz:=au s
 by_cases hl:s.length≤65536
 ·have hdl:=ll s
  refine kU aa ac Tryz.func230 ?_;refine kW ?_;refine dC (T:=TT) rfl ?_ ?_
  ·exact decide_eq_false (by omega)
  refine bT ?_;refine kW ?_;refine kC (lT s) ?_;refine kN ?_
  by_cases hgood:dx s≠[]∧((∀c r,dx s=c::r→c≠48)∨((dx s).length=1∧bU s=false))
  ·refine sG ⟨[(2, .box 0 0),(3, .d (dN .i64 0)),(4, .d (dL (dx s))),(5, .d (dB (bU s)))],[(0,some [.val (.bool false), .sl 0 []])]⟩ (fun s' hw=>?_) (fun R hR hret=>?_)
   ·refine aJ ?_
    refine gH hw rfl ?_;refine kN ?_;refine aJ ?_;refine dh (T:=TT) ?_;refine bh (List UInt8 × List Nat) (fun p=>∃dn,dx s=dn++p.1∧(∀c∈dn,cX c)∧val p.2=num dn∧Wd p.2∧p.2.length≤dn.length) (fun p=>⟨[(2, .box 0 0),(3, .d (dN .i64 0)),(5, .d (dB (bU s))),(4, .d (dL p.1)),(6,pV p.2)],[(0,some [.val (.bool false), .sl 0 []]),(1000001,pX p.2)]⟩) (fun p=>p.1.length) (dx s,[]) ⟨[],rfl,by simp,rfl,Wd.nil,Nat.le_refl _⟩ (weak ⟨rfl,rfl,rfl,rfl,rfl,trivial⟩ ⟨rfl,trivial⟩ rfl) ?_;rintro⟨rest,m⟩ ⟨dn,hdn,hdd,hval,hWd,hml⟩;dsimp only at hdn hval hWd hml ⊢;have hdnl:=congrArg List.length hdn;rw[List.length_append]at hdnl;have hsr:=au rest;refine kR ?_;refine fS rfl (fun h=>?_) (fun h=>?_)
    ·have h:=of_decide_eq_true h
     have hr0:0<rest.length:=by omega
     refine bT ?_;obtain⟨nn,hnn⟩:∃nn,(rest.length-1)%9+1=nn:=⟨_,rfl⟩;have hn9:nn≤9:=by omega
     have hnr:nn≤rest.length:=by have:=Nat.mod_le (rest.length-1) 9;omega
     have hmod:((rest.length-1:Nat):Int).tmod 9=((rest.length-1)%9:Nat):=by rw[show(9:Int)=((9:Nat):Int) from rfl,Int.ofNat_tmod]
     refine dh (T:=TT) ?_;refine aJ ?_;refine ax rfl ?_
     iterate 2 refine kO ?_
     refine fj (v':= .int .i64 ((rest.length-1:Nat))) rfl rfl rfl rfl ?_ ?_
     ·exact congrArg (Value.int .i64) (by rw[hsr,IntWalk.i64_in _ (by omega)];omega)
     refine aO rfl rfl rfl rfl ?_ rfl rfl (vx (by decide)) ?_
     ·rfl
     refine kJ (nn) ?_;refine kN ?_;refine kR ?_;refine BY ⟨[(2, .box 0 0),(3, .d (dN .i64 0)),(5, .d (dB (bU s))),(4, .d (dL rest)),(7, .d (dN .i64 nn)),(8, .d (dN .u64 (num (rest.take nn)))),(9, .d (dN .u64 (10^nn:Nat))),(6,pV m)],[(0,some [.val (.bool false), .sl 0 []]),(1000001,pX m)]⟩ (∀c∈rest.take nn,cX c) (fun hdt s' hw=>?_) (fun R hR hret=>?_)
     ·have hCl:=pe
      have hdd':∀c∈dn++rest.take nn,cX c:=fun c hc=>(List.mem_append.1 hc).elim (hdd c) (hdt c)
      have hdn':dx s=(dn++rest.take nn)++rest.drop nn:=by rw[List.append_assoc,List.take_append_drop];exact hdn
      have hlen':(dn++rest.take nn).length=dn.length+nn:=by rw[List.length_append,List.length_take,Nat.min_eq_left hnr]
      have hdr:(rest.drop nn).length<rest.length:=by rw[List.length_drop];omega
      obtain⟨C,hC⟩:∃C,num (rest.take nn)=C:=⟨_,rfl⟩;obtain⟨F,hF⟩:∃F,10^nn=F:=⟨_,rfl⟩;have hF9:F≤1000000000:=by rw[← hF];exact Nat.pow_le_pow_right (by decide) hn9
      have hC9:C<F:=by
       rw[← hC,← hF];have:=pe _ (rest.take nn) rfl (fun c hc=>hdd' c (List.mem_append.2 (.inr hc)))
       rwa[List.length_take,Nat.min_eq_left hnr]at this
      have hnum':num (dn++rest.take nn)=F*num dn+C:=by
       rw[l6,List.length_take,Nat.min_eq_left hnr,hF,hC,Nat.mul_comm]
      rw[hC,hF]at hw;cases m with
      |nil=>
       have hdn0:num dn=0:=hval.symm;refine aJ ?_;refine aJ ?_;refine gH hw rfl ?_;refine kN ?_;refine dh (T:=TT) ?_;refine bh Unit (fun _=>True) (fun _=>⟨[(2, .box 0 0),(3, .d (dN .i64 0)),(5, .d (dB (bU s))),(4, .d (dL rest)),(7, .d (dN .i64 nn)),(8, .d (dN .u64 C)),(6, .nil),(70, .d (dN .i64 0)),(71, .d (dN .i64 0))],[(0,some [.val (.bool false), .sl 0 []])]⟩) (fun _=>0) () trivial (weak ⟨rfl,rfl,rfl,rfl,rfl,rfl,rfl,rfl,rfl,trivial⟩ ⟨rfl,trivial⟩ rfl) ?_;rintro _ _;refine kR ?_;refine eB (T:=TT) rfl ?_;refine eN ?_;have hcv:(F*0:Nat)+C=C:=by omega
       refine aJ ?_;refine aJ ?_;refine ax rfl ?_;refine kO ?_
       by_cases hC0:C=0
       ·refine kE ?_
        refine kN ?_;refine eB (T:=TT) rfl ?_;refine bT ?_;refine ax rfl ?_
        iterate 2 refine kO ?_
        refine iL aa (i:=nn) hnr rfl rfl rfl rfl rfl rfl rfl rfl ?_;refine kN ?_;refine⟨(rest.drop nn,[]),⟨dn++rest.take nn,hdn',hdd',?_,Wd.nil,Nat.zero_le _⟩,hdr,weak ⟨rfl,rfl,rfl,rfl,rfl,trivial⟩ ⟨rfl,trivial⟩ rfl⟩;rw[hnum',hdn0,hC0];rfl
       ·have hCp:0<C:=by omega
        refine kT ?_;refine kN ?_;refine ib (T:=TT) rfl ?_;refine ax rfl ?_
        iterate 2 refine kO ?_
        refine fj (v':= .int .u32 (C)) rfl rfl rfl rfl ?_ ?_
        ·exact congrArg (Value.int .u32) (by rw[IntWalk.u32_in _ (by omega)])
        refine kO ?_;refine FR (by decide) (by decide) rfl rfl rfl rfl rfl rfl rfl rfl rfl rfl rfl (.nil rfl rfl) rfl rfl ?_;refine kN ?_;refine ax rfl ?_
        iterate 2 refine kO ?_
        refine iL aa (i:=nn) hnr rfl rfl rfl rfl rfl rfl rfl rfl ?_;refine kN ?_;refine⟨(rest.drop nn,[C]),⟨dn++rest.take nn,hdn',hdd',?_, .cons (by omega) .nil,by rw[hlen'];show 1≤_;omega⟩,hdr,?_⟩
        ·rw[hnum',hdn0]
         simp[val]
        ·refine bt.trans (b:=⟨[(2, .box 0 0),(3, .d (dN .i64 0)),(5, .d (dB (bU s))),(4, .d (dL (rest.drop nn))),(6, .own 1027004 1 1 82)],[(0,some [.val (.bool false), .sl 0 []]),(1027004,some [.val (bC C)])]⟩) (weak ⟨rfl,rfl,rfl,rfl,rfl,trivial⟩ ⟨rfl,rfl,trivial⟩ rfl) ((bg (q:=6) (j:=1027004) (j':=1000001) (m:=1) (k:=1) (e:=82) (cs:=[.val (bC C)]) rfl rfl rfl rfl).trans (weak ⟨rfl,rfl,rfl,rfl,rfl,trivial⟩ ⟨rfl,rfl,trivial⟩ rfl))
      |cons x r=>
       obtain⟨m,hm⟩:∃m,x::r=m:=⟨_,rfl⟩;have hm0:0<m.length:=by rw[← hm];simp
       rw[hm,CO hm0,D3 hm0]at hw;rw[hm]at hval hWd hml;clear hm;refine aJ ?_;refine aJ ?_;refine gH hw rfl ?_;refine kN ?_;refine dh (T:=TT) ?_
       refine bh (List Nat × Nat) (fun p=>p.1.length≤m.length∧Wd p.1∧p.2<4294967296∧val p.1+4294967296^p.1.length*p.2=F*val (m.take p.1.length)+C) (fun p=>⟨[(2, .box 0 0),(3, .d (dN .i64 0)),(5, .d (dB (bU s))),(4, .d (dL rest)),(7, .d (dN .i64 nn)),(8, .d (dN .u64 p.2)),(9, .d (dN .u64 F)),(6, .own 1000001 m.length 1 82),(70, .d (dN .i64 m.length)),(71, .d (dN .i64 p.1.length))],[(0,some [.val (.bool false), .sl 0 []]),(1000001,some ((p.1++m.drop p.1.length).map fun x:Nat=>AV.val (bC x)))]⟩) (fun p=>m.length-p.1.length) ([],C) ⟨by simp, .nil,by show C<_;omega,by simp[val]⟩ (weak ⟨rfl,rfl,rfl,rfl,rfl,rfl,rfl,rfl,rfl,rfl,trivial⟩ ⟨rfl,rfl,trivial⟩ rfl) ?_;rintro⟨xs,c⟩ ⟨hxl,hxw,hc,heq⟩;dsimp only at hxl hxw hc heq ⊢;refine kR ?_;refine aJ ?_;refine fS rfl (fun h=>?_) (fun h=>?_)
       ·have h:=of_decide_eq_true h
        have hi:xs.length<m.length:=by omega
        refine bT ?_;refine aJ ?_;refine dh (T:=TT) ?_;refine kR ?_;refine aJ ?_;refine ax rfl ?_
        iterate 3 refine kO ?_
        refine D4 (i:=xs.length) hi rfl rfl rfl rfl rfl rfl rfl rfl rfl ?_
        have hget:((xs++m.drop xs.length).map fun x:Nat=>AV.val (bC x))[xs.length*1]? =some (.val (bC m[xs.length])):=by
         rw[Nat.mul_one,List.getElem?_map,List.getElem?_append_right (Nat.le_refl _),Nat.sub_self,List.getElem?_drop,Nat.add_zero,List.getElem?_eq_getElem hi];rfl
        have hwi:m[xs.length]<4294967296:=hWd _ (List.getElem_mem hi)
        obtain⟨hc',heq'⟩:=xb hF9 hc hwi heq;have hwF:m[xs.length]*F≤4294967295*1000000000:=Nat.mul_le_mul (by omega) hF9;refine E7 hget rfl rfl rfl rfl rfl rfl rfl rfl rfl ?_;obtain⟨W,hW⟩:∃W,m[xs.length]=W:=⟨_,rfl⟩;obtain⟨p,hp⟩:∃p,W*F=p:=⟨_,rfl⟩;have hpr:(W:Int)*(F:Nat)=(p:Nat):=by rw[← hp,Int.natCast_mul]
        have htk:val (m.take (xs.length+1))=val (m.take xs.length)+4294967296^xs.length*W:=by rw[ah,List.getD_eq_getElem?_getD,List.getElem?_eq_getElem hi,hW];rfl
        rw[hW,hp]at hwF hc' heq';rw[hW];rw[hW]at hwi;obtain⟨t,ht⟩:∃t,c+p=t:=⟨_,rfl⟩;rw[ht]at hc' heq';refine fj (v':= .int .u64 (W)) rfl rfl rfl rfl ?_ ?_
        ·exact congrArg (Value.int .u64) (by rw[IntWalk.u64_in _ (by omega)])
        refine kO ?_;refine fj (v':= .int .u64 (p)) rfl rfl rfl rfl ?_ ?_
        ·exact congrArg (Value.int .u64) (by rw[hpr,IntWalk.u64_in _ (by omega)])
        refine fj (v':= .int .u64 (t)) rfl rfl rfl rfl ?_ ?_
        ·exact congrArg (Value.int .u64) (by rw[IntWalk.u64_in _ (by omega)];omega)
        refine kN ?_;refine aJ ?_;refine ax rfl ?_
        iterate 3 refine kO ?_
        refine fj (v':= .int .u32 ((t%4294967296:Nat))) rfl rfl rfl rfl ?_ ?_
        ·exact congrArg (Value.int .u32) (by rw[IntKind.wrap_u32];omega)
        refine D4 (i:=xs.length) hi rfl rfl rfl rfl rfl rfl rfl rfl rfl ?_
        have hsp:dY ((xs++m.drop xs.length).map fun x:Nat=>AV.val (bC x)) (xs.length*1) [.val (bC (t%4294967296))]=((xs++[t%4294967296])++m.drop (xs++[t%4294967296]).length).map fun x:Nat=>AV.val (bC x):=by
         unfold dY;rw[Nat.mul_one,← List.map_take,← List.map_drop,List.take_left,List.length_singleton,← List.drop_drop,List.drop_left,List.drop_drop,List.length_append,List.length_singleton,List.map_append,List.map_append];rfl
        refine DJ (by rw[List.length_map,List.length_append,List.length_drop];omega) hsp rfl rfl rfl rfl rfl rfl rfl rfl rfl rfl ?_;refine kN ?_;refine ax rfl ?_;refine kO ?_;refine fj (v':= .int .u64 ((t/4294967296:Nat))) rfl rfl rfl rfl ?_ ?_
        ·exact congrArg (Value.int .u64) (by rw[show(2:Int)^min (Int.toNat 32) IntKind.u64.bits=4294967296 by decide,Int.fdiv_eq_ediv_of_nonneg _ (by decide)];omega)
        refine kN ?_;refine ax rfl ?_;refine fj (v':= .int .i64 ((xs++[t%4294967296]).length)) rfl rfl rfl rfl ?_ ?_
        ·exact congrArg (Value.int .i64) (by rw[IntWalk.i64_in _ (by omega)];simp)
        refine kN ?_;refine⟨(xs++[t%4294967296],t/4294967296),⟨by rw[List.length_append];exact hi,hxw.append (.cons (by omega) .nil),hc',?_⟩,?_,weak ⟨rfl,rfl,rfl,rfl,rfl,rfl,rfl,rfl,rfl,rfl,trivial⟩ ⟨rfl,rfl,trivial⟩ rfl⟩
        ·show val (xs++[t%4294967296])+_=_
         rw[List.length_append,List.length_singleton,htk,cJ,← heq']
         simp[val]
        ·dsimp only;rw[List.length_append,List.length_singleton];omega
       ·have h:=of_decide_eq_false h
        have hi:xs.length=m.length:=by omega
        rw[hi,List.drop_length,List.append_nil];rw[hi,List.take_length,hval]at heq;have hx0:0<xs.length:=by omega
        refine eN ?_;refine aJ ?_;refine aJ ?_;refine ax rfl ?_;refine kO ?_
        by_cases hc0:c=0
        ·refine kE ?_
         refine kN ?_;refine eB (T:=TT) rfl ?_;refine bT ?_;refine ax rfl ?_
         iterate 2 refine kO ?_
         refine iL aa (i:=nn) hnr rfl rfl rfl rfl rfl rfl rfl rfl ?_;refine kN ?_;refine⟨(rest.drop nn,xs),⟨dn++rest.take nn,hdn',hdd',?_,hxw,by rw[hlen',hi];omega⟩,hdr,?_⟩
         ·rw[hnum',← heq,hc0];rfl
         ·dsimp only
          rw[CO hx0,D3 hx0,hi];exact weak ⟨rfl,rfl,rfl,rfl,rfl,trivial⟩ ⟨rfl,rfl,trivial⟩ rfl
        ·have hcp:0<c:=by omega
         refine kT ?_;refine kN ?_;refine ib (T:=TT) rfl ?_;refine ax rfl ?_
         iterate 2 refine kO ?_
         refine fj (v':= .int .u32 (c)) rfl rfl rfl rfl ?_ ?_
         ·exact congrArg (Value.int .u32) (by rw[IntWalk.u32_in _ (by omega)])
         refine kO ?_;refine FR (by decide) (by show(m.length+1)*4≤_;omega) rfl rfl rfl rfl rfl rfl rfl rfl rfl rfl rfl (.own rfl rfl) rfl rfl ?_;refine kN ?_;refine ax rfl ?_
         iterate 2 refine kO ?_
         refine iL aa (i:=nn) hnr rfl rfl rfl rfl rfl rfl rfl rfl ?_;refine kN ?_;have hl1:(xs++[c]).length=m.length+1:=by rw[List.length_append,hi];rfl
         have hb:((xs.map fun x:Nat=>AV.val (bC x)).take (m.length*1)++[.val (bC c)])=(xs++[c]).map fun x:Nat=>AV.val (bC x):=by
          rw[Nat.mul_one,← hi,List.take_of_length_le (by simp),List.map_append];rfl
         refine⟨(rest.drop nn,xs++[c]),⟨dn++rest.take nn,hdn',hdd',?_,hxw.append (.cons hc .nil),by rw[hlen'];dsimp only;omega⟩,hdr,?_⟩
         ·rw[hnum',← heq]
          show val (xs++[c])=_;rw[cJ,hi]
          simp[val]
         ·dsimp only
          rw[CO (by omega),D3 (by omega),hl1,← hb];refine bt.trans (b:=⟨[(2, .box 0 0),(3, .d (dN .i64 0)),(5, .d (dB (bU s))),(4, .d (dL (rest.drop nn))),(6, .own 1027004 (m.length+1) 1 82)],[(0,some [.val (.bool false), .sl 0 []]),(1027004,some ((xs.map fun x:Nat=>AV.val (bC x)).take (m.length*1)++[.val (bC c)]))]⟩) (weak ⟨rfl,rfl,rfl,rfl,rfl,trivial⟩ ⟨rfl,rfl,trivial⟩ rfl) ((bg (q:=6) (j:=1027004) (j':=1000001) (m:=m.length+1) (k:=1) (e:=82) (cs:=(xs.map fun x:Nat=>AV.val (bC x)).take (m.length*1)++[.val (bC c)]) rfl rfl rfl rfl).trans (weak ⟨rfl,rfl,rfl,rfl,rfl,trivial⟩ ⟨rfl,rfl,trivial⟩ rfl))
     ·refine kR ?_
      refine dh (T:=TT) ?_;refine bh Nat (fun i=>i≤nn∧ ∀c∈rest.take i,cX c) (fun i=>⟨[(2, .box 0 0),(3, .d (dN .i64 0)),(5, .d (dB (bU s))),(4, .d (dL rest)),(7, .d (dN .i64 nn)),(8, .d (dN .u64 (num (rest.take i)))),(9, .d (dN .u64 (10^i:Nat))),(46, .d (dN .i64 nn)),(47, .d (dN .i64 i)),(6,pV m)],[(0,some [.val (.bool false), .sl 0 []]),(1000001,pX m)]⟩) (fun i=>nn-i) 0 ⟨by omega,by simp⟩ (weak ⟨rfl,rfl,rfl,rfl,rfl,rfl,rfl,rfl,rfl,rfl,trivial⟩ (by cases m<;>first|exact⟨rfl,rfl,trivial⟩|exact⟨rfl,trivial⟩) (by cases m<;>rfl)) ?_;rintro i ⟨hi,hd⟩;refine kR ?_;refine aJ ?_;refine fS rfl (fun h=>?_) (fun h=>?_)
      ·have h:=of_decide_eq_true h
       have hi:i<nn:=by omega
       have hir:i<rest.length:=by omega
       refine bT ?_;refine aJ ?_;refine dh (T:=TT) ?_;refine kR ?_;refine aJ ?_;refine ax rfl ?_
       iterate 2 refine kO ?_
       refine ap aa (i:=i) (c:=rest[i]) (List.getElem?_eq_getElem hir) rfl rfl rfl rfl rfl rfl rfl rfl ?_;refine kN ?_;have hmem:rest[i]∈dx s:=by rw[hdn,List.mem_append];exact .inr (List.getElem_mem hir)
       refine aJ ?_;refine aJ ?_;refine ax rfl ?_;refine kO ?_
       by_cases h48:rest[i].toNat<48
       ·have hbad:¬FM s:=fun hp=>by have:=(hp.2.2.1 _ hmem).1;omega
        rw[jy hbad,z0]at hret;refine kX ?_;refine Eq.mpr (congrFun hret _) ?_;exact bL (T:=TT) rfl rfl
       ·refine kE ?_
        iterate 2 refine kO ?_
        by_cases h57:rest[i].toNat > 57
        ·have hbad:¬FM s:=fun hp=>by have:=(hp.2.2.1 _ hmem).2;omega
         rw[jy hbad,z0]at hret;refine kX ?_;refine Eq.mpr (congrFun hret _) ?_;exact bL (T:=TT) rfl rfl
        ·refine kE ?_
         have hD:cX rest[i]:=⟨by omega,by omega⟩;have hdv:=yZ hD;have hs1:num (rest.take (i+1))=10*num (rest.take i)+dv rest[i]:=by rw[List.take_succ_eq_append_getElem hir,gx]
         have hb1:=pe _ _ rfl hd;have hb2:10^(rest.take i).length≤10^8:=Nat.pow_le_pow_right (by decide) (by rw[List.length_take];omega);have hb3:10^i≤10^8:=Nat.pow_le_pow_right (by decide) (by omega);refine kN ?_;refine eB (T:=TT) rfl ?_;refine bT ?_;refine aJ ?_;refine ax rfl ?_;refine kO ?_;refine fj (v':= .int .u64 ((10*num (rest.take i):Nat))) rfl rfl rfl rfl ?_ ?_
         ·exact congrArg (Value.int .u64) (by rw[IntWalk.u64_in _ (by omega)];omega)
         refine kO ?_;refine fj (v':= .int .u8 ((dv rest[i]:Nat))) rfl rfl rfl rfl ?_ ?_
         ·exact congrArg (Value.int .u8) (by rw[IntWalk.u8_in _ (by omega)];unfold dv;omega)
         refine fj (v':= .int .u64 ((dv rest[i]:Nat))) rfl rfl rfl rfl ?_ ?_
         ·exact congrArg (Value.int .u64) (by rw[IntWalk.u64_in _ (by omega)])
         refine fj (v':= .int .u64 ((num (rest.take (i+1)):Nat))) rfl rfl rfl rfl ?_ ?_
         ·exact congrArg (Value.int .u64) (by rw[hs1,IntWalk.u64_in _ (by omega)];omega)
         refine kN ?_;refine ax rfl ?_;refine kO ?_;refine fj (v':= .int .u64 ((10^(i+1):Nat))) rfl rfl rfl rfl ?_ ?_
         ·exact congrArg (Value.int .u64) (by rw[Nat.pow_succ];generalize 10^i=pw at hb3 ⊢;rw[IntWalk.u64_in _ (by omega)];omega)
         refine kN ?_;refine ax rfl ?_;refine kJ ((i+1:Nat)) ?_;refine kN ?_;refine⟨i+1,⟨hi,fun c hc=>?_⟩,by omega,weak ⟨rfl,rfl,rfl,rfl,rfl,rfl,rfl,rfl,rfl,rfl,trivial⟩ (by cases m<;>first|exact⟨rfl,rfl,trivial⟩|exact⟨rfl,trivial⟩) (by cases m<;>rfl)⟩;rw[List.take_succ_eq_append_getElem hir,List.mem_append]at hc;rcases hc with hc|hc
         ·exact hd c hc
         ·rw[List.mem_singleton]at hc;rw[hc];exact hD
      ·have h:=of_decide_eq_false h
       have hin:i=nn:=by omega
       subst hin;refine eN ?_;exact hR hd _ (weak ⟨rfl,rfl,rfl,rfl,rfl,rfl,rfl,rfl,trivial⟩ (by cases m<;>first|exact⟨rfl,rfl,trivial⟩|exact⟨rfl,trivial⟩) (by cases m<;>rfl))
    ·have h:=of_decide_eq_false h
     have hr0:rest.length=0:=by omega
     obtain rfl:=List.eq_nil_of_length_eq_zero hr0;rw[List.append_nil]at hdn;have hok:FM s:=⟨hl,hgood.1,by rw[hdn];exact hdd,hgood.2⟩;have hz:ak (bU s) m=kg (bU s) (num (dx s)):=by unfold ak kg;rw[hval,hdn]
     rw[DX hok];refine eN ?_;cases m with
     |nil=>
      refine kW ?_;refine kC (gw (neg:=bU s) (xs:=[]) Wd.nil hz) ?_;exact kF
     |cons x r=>
      refine aJ ?_;refine gH (fx (q:=6) rfl rfl) rfl ?_;refine kW ?_;refine kC (gw (neg:=bU s) (xs:=x::r) hWd hz) ?_;exact kF
   ·clear hret
    cases hp:dx s with
    |nil=>exact absurd hp hgood.1
    |cons c r=>
     refine aJ ?_;refine ax rfl ?_;refine kO ?_;have hsz':=au (c::r);have hfin:TV.d (dL (c::r))=TV.d (dL (dx s)):=by rw[hp]
     refine aO rfl rfl rfl rfl rfl rfl rfl ((jb (a:=c::r) (b:=[])).trans (congrArg (fun b=>some (Value.bool b)) (decide_eq_false (by simp)))) ?_
     iterate 2 refine kO ?_
     refine ap aa (i:=0) (c:=c) rfl rfl rfl rfl rfl rfl rfl rfl rfl ?_
     by_cases h48:c=48
     ·subst h48
      have hg2:((48:UInt8)::r).length=1∧bU s=false:=by
       rcases hgood.2 with h|h
       ·exact absurd rfl (h _ _ hp)
       ·rw[hp]at h;exact h
      iterate 4 refine kO ?_
      refine kE ?_;have hneg:TV.d (dB false)=TV.d (dB (bU s)):=by rw[hg2.2]
      generalize bU s=ng at *;obtain rfl:=hg2.2;refine kW ?_;refine bT ?_;exact hR _ (weak ⟨rfl,rfl,hfin,rfl,trivial⟩ ⟨rfl,trivial⟩ rfl)
     ·have hn:c.toNat≠48:=fun e=>h48 (UInt8.toNat_inj.1 e)
      refine kB false ?_ ?_
      ·exact beq_eq_false_iff_ne.2 (by omega)
      refine kW ?_;refine bT ?_;exact hR _ (weak ⟨rfl,rfl,hfin,rfl,trivial⟩ ⟨rfl,trivial⟩ rfl)
  ·rw[jy (fun h=>hgood ⟨h.2.1,h.2.2.2⟩),z0]
   cases hp:dx s with
   |nil=>
    refine aJ ?_;refine aJ ?_;refine ax rfl ?_;refine kO ?_;refine aO rfl rfl rfl rfl rfl rfl rfl (jb (a:=[]) (b:=[])) ?_;exact kF
   |cons c r=>
    have hc:c=48∧(1<(c::r).length∨bU s=true):=by
     refine Classical.byContradiction fun hno=>hgood ⟨by rw[hp];simp,?_⟩
     rw[hp]
     by_cases h48:c=48
     ·refine .inr ⟨?_,?_⟩
      ·apply Classical.byContradiction
       intro h1;exact hno ⟨h48, .inl (by simp at h1 ⊢;exact List.length_pos_iff.2 h1)⟩
      ·cases hq:bU s
       ·rfl
       ·exact absurd ⟨h48, .inr hq⟩ hno
     ·exact .inl fun x q e=>by cases e;exact h48
    obtain⟨rfl,hc⟩:=hc;have hsz':=au ((48:UInt8)::r);refine aJ ?_;refine aJ ?_;refine ax rfl ?_;refine kO ?_;refine aO rfl rfl rfl rfl rfl rfl rfl ((jb (a:=48::r) (b:=[])).trans (congrArg (fun b=>some (Value.bool b)) (decide_eq_false (by simp)))) ?_
    iterate 2 refine kO ?_
    refine ap aa (i:=0) (c:=48) rfl rfl rfl rfl rfl rfl rfl rfl rfl ?_
    iterate 4 refine kO ?_
    by_cases h1:1<((48:UInt8)::r).length
    ·refine kT ?_
     exact kF
    ·refine kE ?_
     have hq:bU s=true:=hc.resolve_left h1;rw[hq];exact kF
 ·rw[jy (fun h=>hl h.1),z0]
  refine kU aa ac Tryz.func230 ?_;refine kW ?_;refine eX (T:=TT) rfl ?_ ?_
  ·exact decide_eq_true (by omega)
  exact kF
end Go.Proofs.YtikbnnljjeefgaaGreatDoor
namespace Go.Proofs.YtikbnnljjeefgaaGreatDoor
open Go.RowKit
attribute [local go_sem ↓] Go.wp_at_zero Go.wp_at_succ
end Go.Proofs.YtikbnnljjeefgaaGreatDoor
namespace Go.Proofs.YtikbnnljjeefgaaGreatDoor
open Go.RowKit
def Hg (l:List UInt8):List AV:=l.map fun c=>AV.val (.int .u8 c.toNat)
def IP (l:List UInt8):DV:= .leaf (.sl l.length (Hg l))
theorem G1 {l:List UInt8} {i:Nat} {c:UInt8} (h:l[i]? =some c):∀(j:Nat) (a:AV),[AV.val (.int .u8 c.toNat)][j]? =some a→(Hg l)[i*1+j]? =some a:=by
 intro j a hj
 match j,hj with
 |0,hj=>unfold Hg;rw[Nat.mul_one,Nat.add_zero,List.getElem?_map,h];exact hj
section
variable {P:Program} {T:TypeId→Option Ty} {n:Nat} {ops:Array Oper} {id:Nat} {draw:Bool} {K:AS→Prop} {s:AS} {k:Nat} {o:Oper} {os:List Oper} {fps:List FP}
theorem IN (hT:∀t d,T t=some d→b7 P t d) {t t' et:TypeId} {ty ty' te:Ty} {x:Operand} {l:List UInt8} (hl:l.length≤9223372036854775807) (h1:gd ops s o=some true) (h2:o.op= .convert t t' x) (h5:T t=some ty) (h6:ty.isStr=true) (h9:T t'=some ty') (h10:ty'.elem=some (et,1)) (h7:T et=some te) (h8:te.ik=some .u8) (h11:s.ev x= .d (.leaf (.val (vL l))))
 (h3:bn n o.dst=true) (h4:jr draw ops (a6 ops o ⟨.d (IP l),none⟩ []) k fps=true) (h:aH P T n ops id draw K (k+1) os (s.eff o.dst ⟨.d (IP l),none⟩) (a6 ops o ⟨.d (IP l),none⟩ []::fps)):aH P T n ops id draw K k (o::os) s fps:=by
 refine .run h1 (.gen fun s2 ht _=>?_) h3 h4 h;have hx:=(bd ht (x:=x) (by simp[h2,Op.operands])).trans h11;have hu:=kd (hT _ _ h5) h6;obtain⟨d,hd,_,hel,_⟩:=(hT _ _ h9).und;obtain⟨rfl,_⟩:=hel et 1 h10;obtain⟨d2,hd2,_,_,_,_,_,hik,_⟩:=(hT _ _ h7).und;obtain rfl:=hik _ h8;refine av fun n S0 w0 g a w hM=>?_
 have hsz:=au l;have hge:=grownCap_ge w l.length 0 et;have hle:=grownCap_le_maxLen w l.length 0 et (by unfold maxLen;omega);obtain⟨C,hC⟩:∃C,grownCap w l.length 0 et=C:=⟨_,rfl⟩;rw[hC]at hge hle;have hrun:=run_bytes_of_string w t t' et (Bs l) hu hd hd2;rw[hsz,hC]at hrun;have hb:Below w.heap.size w (w.drew.alloc (.cells (bytesRow (Bs l) C) et ((bytesRow (Bs l) C).size,(bytesRow (Bs l) C).size+1))):=((Below.refl _ w).drew).alloc (Nat.le_refl _) _;refine⟨.slice (some ⟨w.heap.size,0,none⟩) l.length C,_,?_,hb,?_⟩
 ·unfold execOp
  rw[h2]
  simp only[bJ hM hx,vL,Sem.run_bind,hrun,Result.andThen_ok,Sem.run_pure]
 ·refine AV.M.sl (fun i=> .int .u8 ((l.getD i 0).toNat:Int)) hge (by unfold maxLen at hle;omega) ?_ (by show w.heap.size<(w.heap.push _).size;simp) (fun i c hi=>?_) (fun i c hi=>?_)
  ·intro hO
   exact absurd (hM.own_lt hO) (Nat.lt_irrefl _)
  ·have hil:i<l.length:=by have:=(List.getElem?_eq_some_iff.1 hi).1;simpa[Hg]using this
   have h3:(w.drew.alloc (.cells (bytesRow (Bs l) C) et ((bytesRow (Bs l) C).size,(bytesRow (Bs l) C).size+1))).heap[w.heap.size]? =some (.cells (bytesRow (Bs l) C) et ((bytesRow (Bs l) C).size,(bytesRow (Bs l) C).size+1)):=heap_alloc_new w.drew _;rw[Nat.zero_add]
   simp only[World.cell?,h3]
   have:=bytesRow_at (Bs l) C i (by show i<(Bs l).data.size;simpa[Bs]using hil);show(match(bytesRow (Bs l) C)[i]? with|v=>v)=_;refine Eq.trans this ?_
   simp[Bs,hil]
  ·have hil:i<l.length:=by have:=(List.getElem?_eq_some_iff.1 hi).1;simpa[Hg]using this
   have:c= .val (.int .u8 ((l.getD i 0).toNat:Int)):=by
    unfold Hg at hi;rw[List.getElem?_map,List.getElem?_eq_getElem hil]at hi
    simp at hi
    rw[← hi]
    simp[hil]
   rw[this];exact .val rfl
end
theorem mi (l:List UInt8) (c:UInt8):ab Tryz.prog 201 [dL l,dL [c]] (.one (dN .i64 (Lib.indexByte l c))):=by
 refine⟨aB Tryz.func201 rfl rfl,fun S w vs hS hv=>?_⟩
 match vs,hv with
 | [v,u],⟨h1,h2,_⟩=>
  obtain rfl:=bM h1;obtain rfl:=bM h2;refine(Tryz.stringslite_Index_one (Bs l) c w).mono ?_;rintro e w' ⟨rfl,rfl⟩;exact⟨_,rfl,AV.M.val rfl,Below.refl _ _⟩
theorem uv {l:List UInt8} {c:UInt8} (h:c ∉ l):Lib.indexByte l c= -1:=by
 induction l with
 |nil=>rfl
 |cons b l ih=>
  have h1:(b == c)=false:=beq_eq_false_iff_ne.2 (fun e=>h (by simp[e]));unfold Lib.indexByte;rw[h1,ih (fun e=>h (by simp[e]))];rfl
theorem uO {a b:List UInt8} {c:UInt8} (h:c ∉ a):Lib.indexByte (a++c::b) c=a.length:=by
 induction a with
 |nil=>simp[Lib.indexByte]
 |cons x a ih=>
  have h1:(x == c)=false:=beq_eq_false_iff_ne.2 (fun e=>h (by simp[e]));rw[List.cons_append];unfold Lib.indexByte;rw[h1,ih (fun e=>h (by simp[e]))];have:(((a.length:Nat):Int) == -1)=false:=beq_eq_false_iff_ne.2 (by omega)
  simp only[Bool.false_eq_true,if_false,this]
  simp
theorem Es {a b:List UInt8} {c:UInt8} (h:c ∉ a) (hl:a.length+b.length≤1000000000):ab Tryz.prog 227 [dL (a++c::b),dL [c]] (.tup [dL a,dL b,dB true]):=by
 have c1:=mi (a++c::b) c;rw[uO h]at c1;have e1:(a++c::b).take a.length=a:=by simp
 have e2:(a++c::b).drop (a.length+1)=b:=by rw[← List.drop_drop];simp
 refine kU aa ac Tryz.func227 ?_;refine kW ?_;refine kQ (c1) ?_;refine wP aa (l:=a++c::b) (i:=a.length) (by simp) rfl rfl rfl rfl rfl rfl rfl rfl ?_
 iterate 4 refine kO ?_
 refine fj (v':= .int .i64 (((a.length+1:Nat):Int))) rfl rfl rfl rfl ?_ ?_
 ·exact congrArg (Value.int .i64) (by show IntKind.i64.wrap ((a.length:Int)+1)=_;rw[IntWalk.i64_in _ (by omega)];omega)
 refine iL aa (l:=a++c::b) (i:=a.length+1) (by simp) rfl rfl rfl rfl rfl rfl rfl rfl ?_;refine kW ?_;rw[e1,e2];exact bL (T:=TT) rfl rfl
theorem yN {a:List UInt8} {c:UInt8} (h:c ∉ a):ab Tryz.prog 227 [dL a,dL [c]] (.tup [dL a,dL [],dB false]):=by
 have c1:=mi a c;rw[uv h]at c1;refine kU aa ac Tryz.func227 ?_;refine kW ?_;refine kC (c1) ?_;exact kF
theorem sX {a b:List UInt8} {c:UInt8} (h:c ∉ a) (hl:a.length+b.length≤1000000000):ab Tryz.prog 223 [dL (a++c::b),dL [c]] (.tup [dL a,dL b,dB true]):=by
 refine kU aa ac Tryz.func223 ?_;refine kW ?_;refine kC (Es h hl) ?_;exact kF
theorem gW {a:List UInt8} {c:UInt8} (h:c ∉ a):ab Tryz.prog 223 [dL a,dL [c]] (.tup [dL a,dL [],dB false]):=by
 refine kU aa ac Tryz.func223 ?_;refine kW ?_;refine kC (yN h) ?_;exact kF
theorem m0 (l:List UInt8):ab Tryz.prog 229 [dL l,dL [48]] (.one (dL (l.dropWhile (· == 48)))):=by
 refine⟨aB Tryz.func229 rfl rfl,fun S w vs hS hv=>?_⟩
 match vs,hv with
 | [v,u],⟨h1,h2,_⟩=>
  obtain rfl:=bM h1;obtain rfl:=bM h2;refine(Tryz.strings_TrimLeft_one (Bs l) 48 (by decide) w).mono ?_;rintro e w' ⟨rfl,rfl⟩;exact⟨_,rfl,AV.M.val rfl,Below.refl _ _⟩
end Go.Proofs.YtikbnnljjeefgaaGreatDoor
namespace Go.Proofs.YtikbnnljjeefgaaGreatDoor
open Go.RowKit
def gJ (na:Bool) (xs:List Nat) (nb:Bool) (ys:List Nat):Bool:=dj na xs && dj nb ys && decide (0<ak nb ys) && decide (Nat.gcd (val xs) (val ys)=1)
theorem nV {na:Bool} {xs:List Nat} (hw:Wd xs) (h:dj na xs=true):xs=digs (ak na xs).natAbs∧na=decide (ak na xs<0):=by
 unfold dj at h;rw[Bool.and_eq_true]at h;have h1:=of_decide_eq_true h.1;have hp:=(ka hw).1;rw[h1,List.take_length]at hp;rw[bu];refine⟨hp,?_⟩;cases na
 ·exact(decide_eq_false (by unfold ak;simp)).symm
 ·have h2:=h.2
  simp at h2
  have:val xs≠0:=fun e=>by
   rw[hp]at h2;unfold trim at h2;rw[e,aD]at h2
   simp at h2
  exact(decide_eq_true (by unfold ak;simp;omega)).symm
theorem sH {na nb:Bool} {xs ys:List Nat} (hw:Wd xs) (hw':Wd ys) (h:gJ na xs nb ys=true):∃q:Rat,Cp na xs nb ys=aQ q∧xs=digs q.num.natAbs∧ys=digs (q.den:Int).natAbs:=by
 unfold gJ at h
 simp only[Bool.and_eq_true,decide_eq_true_eq]at h
 obtain⟨⟨⟨h1,h2⟩,h3⟩,h4⟩:=h;obtain⟨e1,e2⟩:=nV hw h1;obtain⟨e3,e4⟩:=nV hw' h2;have hd:((ak nb ys).toNat:Int)=ak nb ys:=by omega
 refine⟨⟨ak na xs,(ak nb ys).toNat,by omega,?_⟩,?_,e1,?_⟩
 ·rw[bu,show(ak nb ys).toNat=(ak nb ys).natAbs by omega,bu];exact h4
 ·show aI na xs++aI nb ys=aZ (ak na xs)++aZ ((ak nb ys).toNat:Int)
  rw[hd];unfold aZ;rw[← e1,← e2,← e3,← e4]
 ·show ys=digs ((ak nb ys).toNat:Int).natAbs
  rw[hd];exact e3
theorem lN (q:Rat):gJ (decide (q.num<0)) (digs q.num.natAbs) (decide ((q.den:Int)<0)) (digs (q.den:Int).natAbs)=true:=by
 unfold gJ;rw[qr,qr,aN,af,af,decide_eq_true (eU q),decide_eq_true (by rw[Int.natAbs_natCast];exact q.reduced)];rfl
theorem uR {na nb:Bool} {xs ys:List Nat} (hw:Wd xs) (hw':Wd ys) (h1:nt xs) (h2:nt ys) {b:Bool} (hb:gJ na xs nb ys=b):ab Tryz.prog 86 [Gy na xs nb ys] (.one (dB b)):=by
 subst hb;unfold gJ;cases c1:dj na xs
 ·refine kU aa ac Tryz.func86 ?_
  refine kW ?_;refine kC (ft (na:=na) hw c1) ?_;exact kF
 cases c2:dj nb ys
 ·refine kU aa ac Tryz.func86 ?_
  refine kW ?_;refine kQ (ft (na:=na) hw c1) ?_;refine kC (ft (na:=nb) hw' c2) ?_;exact kF
 by_cases c3:0<ak nb ys
 ·have hc:decide (Nat.gcd (val xs) (val ys)=1)=decide (((Nat.gcd (val xs) (val ys):Nat):Int)=1):=by by_cases h:Nat.gcd (val xs) (val ys)=1<;>simp[h]<;>omega
  rw[decide_eq_true c3,hc];refine kU aa ac Tryz.func86 ?_;refine kW ?_;refine kQ (ft (na:=na) hw c1) ?_;refine kQ (ft (na:=nb) hw' c2) ?_;refine kQ (nh (na:=nb) hw' (Int.sign_eq_one_of_pos c3)) ?_;refine kQ (uW (na:=na) (nb:=nb) hw hw' h1 h2) ?_;refine kC (bK rfl) ?_;exact kF
 ·rw[decide_eq_false c3]
  obtain⟨z,hz,hz0⟩:∃z,(ak nb ys).sign=z∧ ¬z > 0:=⟨_,rfl,fun h=>c3 (Int.sign_pos_iff.1 h)⟩;refine kU aa ac Tryz.func86 ?_;refine kW ?_;refine kQ (ft (na:=na) hw c1) ?_;refine kQ (ft (na:=nb) hw' c2) ?_;refine kC (nh (na:=nb) hw' hz) ?_;refine kB false ?_ ?_
  ·exact decide_eq_false hz0
  exact kF
theorem vS {k:Nat} (q:Rat) (h:iS k q) (hk:k≤2147483648):ab Tryz.prog 86 [dQ q] (.one (dB true)):=uR (aq _) (aq _) (Nat.le_trans h.1.digs hk) (Nat.le_trans h.2.digs hk) (lN q)
theorem mL {na nb:Bool} {xs ys:List Nat} (hw:Wd xs) (hw':Wd ys) (h1:nt xs) (h2:nt ys) {b:Bool} (hb:gJ na xs nb ys=b):ab Tryz.prog 62 [Gy na xs nb ys] (.one (dB b)):=by
 subst hb;unfold gJ;cases c1:dj na xs
 ·refine kU aa ac Tryz.func62 ?_
  refine kW ?_;refine kC (eH (na:=na) hw c1) ?_;exact kF
 cases c2:dj nb ys
 ·refine kU aa ac Tryz.func62 ?_
  refine kW ?_;refine kQ (eH (na:=na) hw c1) ?_;refine kC (eH (na:=nb) hw' c2) ?_;exact kF
 by_cases c3:0<ak nb ys
 ·have hc:decide (Nat.gcd (val xs) (val ys)=1)=decide (((Nat.gcd (val xs) (val ys):Nat):Int)=1):=by by_cases h:Nat.gcd (val xs) (val ys)=1<;>simp[h]<;>omega
  rw[decide_eq_true c3,hc];refine kU aa ac Tryz.func62 ?_;refine kW ?_;refine kQ (eH (na:=na) hw c1) ?_;refine kQ (eH (na:=nb) hw' c2) ?_;refine kQ (lQ (na:=nb) hw' (Int.sign_eq_one_of_pos c3)) ?_;refine kQ (sc (na:=na) (nb:=nb) hw hw' h1 h2) ?_;refine kC (dq rfl) ?_;exact kF
 ·rw[decide_eq_false c3]
  obtain⟨z,hz,hz0⟩:∃z,(ak nb ys).sign=z∧ ¬z > 0:=⟨_,rfl,fun h=>c3 (Int.sign_pos_iff.1 h)⟩;refine kU aa ac Tryz.func62 ?_;refine kW ?_;refine kQ (eH (na:=na) hw c1) ?_;refine kQ (eH (na:=nb) hw' c2) ?_;refine kC (lQ (na:=nb) hw' hz) ?_;refine kB false ?_ ?_
  ·exact decide_eq_false hz0
  exact kF
theorem tY {k:Nat} (q:Rat) (h:iS k q) (hk:k≤2147483648):ab Tryz.prog 62 [dQ q] (.one (dB true)):=mL (aq _) (aq _) (Nat.le_trans h.1.digs hk) (Nat.le_trans h.2.digs hk) (lN q)
theorem y5 {xs:List Nat} {i x:Nat} (h:xs[i]? =some x):∀(j:Nat) (a:AV),[AV.val (bC x)][j]? =some a→(xs.map fun x:Nat=>AV.val (bC x))[i*1+j]? =some a:=by
 intro j a hj
 match j,hj with
 |0,hj=>rw[Nat.mul_one,Nat.add_zero,List.getElem?_map,h];exact hj
theorem pi {na nb:Bool} {xs ys:List Nat} (h:xs≠ys):sameB na nb xs ys=false:=by unfold sameB;rw[decide_eq_false h,Bool.and_false]
theorem mE {na:Bool} {xs ys:List Nat} (h:xs=ys):sameB na na xs ys=true:=by unfold sameB;rw[decide_eq_true h];cases na<;>rfl
theorem ly {na nb:Bool} {xs ys:List Nat} (hl:xs.length≤2147483648) {b:Bool} (hb:sameB na nb xs ys=b):ab Tryz.prog 79 [dI na xs,dI nb ys] (.one (dB b)):=by
 subst hb
 by_cases hn:na=nb
 ·subst hn
  by_cases hxy:xs.length=ys.length
  ·cases na
   ·refine kU aa ac Tryz.func79 ?_
    refine kR ?_;refine kI ?_
    iterate 12 refine kO ?_
    refine kB false ?_ ?_
    ·exact(by simp[hxy])
    refine kW ?_;refine bh Nat (fun j=>j≤xs.length∧ ∀i,i<j→xs[i]? =ys[i]?) (fun j=>⟨[(2, .box 0 0),(3, .box 1 0),(5, .d (dN .i64 j))],[(0,some (aI false xs)),(1,some (aI false ys))]⟩) (fun j=>xs.length-j) 0 ⟨Nat.zero_le _,fun i h=>absurd h (Nat.not_lt_zero _)⟩ (weak ⟨rfl,rfl,rfl,trivial⟩ ⟨rfl,rfl,trivial⟩ rfl) ?_;rintro j ⟨hj,hall⟩;refine kW ?_;refine fS rfl (fun h=>?_) (fun h=>?_)
    ·have hlt:j<xs.length:=by have:=of_decide_eq_true h;omega
     have hlt':j<ys.length:=by omega
     refine kW ?_;refine bf (cs':=[AV.val (bC xs[j])]) hlt (y5 (by simp[hlt])) (Nat.lt_succ_self 0) rfl rfl rfl rfl rfl rfl rfl rfl ?_;refine kW ?_;refine bf (cs':=[AV.val (bC ys[j])]) hlt' (y5 (by simp[hlt'])) (Nat.lt_succ_self 0) rfl rfl rfl rfl rfl rfl rfl rfl ?_;refine kW ?_;refine fS rfl (fun h2=>?_) (fun h2=>?_)
     ·refine kW ?_
      have hne:xs[j]≠ys[j]:=fun e=>by rw[e]at h2;simp at h2
      rw[pi (fun e=>hne (by subst e;rfl))];exact bL (T:=TT) rfl rfl
     ·have heq:xs[j]=ys[j]:=by simp at h2;omega
      refine kW ?_;refine⟨j+1,⟨hlt,fun i hi=>?_⟩,by omega,weak ⟨rfl,rfl,?_,trivial⟩ ⟨rfl,rfl,trivial⟩ rfl⟩
      ·rcases Nat.lt_succ_iff_lt_or_eq.1 hi with h3|rfl
       ·exact hall i h3
       ·rw[List.getElem?_eq_getElem hlt,List.getElem?_eq_getElem hlt',heq]
      ·exact bc (by omega) (by omega)
    ·have hge:j=xs.length:=by have:=of_decide_eq_false h;omega
     refine eN ?_;refine kW ?_
     have he:xs=ys:=by
      apply List.ext_getElem? fun i=>?_
      by_cases hi:i<xs.length
      ·exact hall i (by omega)
      ·rw[List.getElem?_eq_none (by omega),List.getElem?_eq_none (by omega)]
     rw[mE he];exact bL (T:=TT) rfl rfl
   ·refine kU aa ac Tryz.func79 ?_
    refine kR ?_;refine kI ?_
    iterate 12 refine kO ?_
    refine kB false ?_ ?_
    ·exact(by simp[hxy])
    refine kW ?_;refine bh Nat (fun j=>j≤xs.length∧ ∀i,i<j→xs[i]? =ys[i]?) (fun j=>⟨[(2, .box 0 0),(3, .box 1 0),(5, .d (dN .i64 j))],[(0,some (aI true xs)),(1,some (aI true ys))]⟩) (fun j=>xs.length-j) 0 ⟨Nat.zero_le _,fun i h=>absurd h (Nat.not_lt_zero _)⟩ (weak ⟨rfl,rfl,rfl,trivial⟩ ⟨rfl,rfl,trivial⟩ rfl) ?_;rintro j ⟨hj,hall⟩;refine kW ?_;refine fS rfl (fun h=>?_) (fun h=>?_)
    ·have hlt:j<xs.length:=by have:=of_decide_eq_true h;omega
     have hlt':j<ys.length:=by omega
     refine kW ?_;refine bf (cs':=[AV.val (bC xs[j])]) hlt (y5 (by simp[hlt])) (Nat.lt_succ_self 0) rfl rfl rfl rfl rfl rfl rfl rfl ?_;refine kW ?_;refine bf (cs':=[AV.val (bC ys[j])]) hlt' (y5 (by simp[hlt'])) (Nat.lt_succ_self 0) rfl rfl rfl rfl rfl rfl rfl rfl ?_;refine kW ?_;refine fS rfl (fun h2=>?_) (fun h2=>?_)
     ·refine kW ?_
      have hne:xs[j]≠ys[j]:=fun e=>by rw[e]at h2;simp at h2
      rw[pi (fun e=>hne (by subst e;rfl))];exact bL (T:=TT) rfl rfl
     ·have heq:xs[j]=ys[j]:=by simp at h2;omega
      refine kW ?_;refine⟨j+1,⟨hlt,fun i hi=>?_⟩,by omega,weak ⟨rfl,rfl,?_,trivial⟩ ⟨rfl,rfl,trivial⟩ rfl⟩
      ·rcases Nat.lt_succ_iff_lt_or_eq.1 hi with h3|rfl
       ·exact hall i h3
       ·rw[List.getElem?_eq_getElem hlt,List.getElem?_eq_getElem hlt',heq]
      ·exact bc (by omega) (by omega)
    ·have hge:j=xs.length:=by have:=of_decide_eq_false h;omega
     refine eN ?_;refine kW ?_
     have he:xs=ys:=by
      apply List.ext_getElem? fun i=>?_
      by_cases hi:i<xs.length
      ·exact hall i (by omega)
      ·rw[List.getElem?_eq_none (by omega),List.getElem?_eq_none (by omega)]
     rw[mE he];exact bL (T:=TT) rfl rfl
  ·rw[pi (fun e=>hxy (by rw[e]))]
   cases na
   ·refine kU aa ac Tryz.func79 ?_
    refine kR ?_;refine kI ?_
    iterate 12 refine kO ?_
    refine kB true ?_ ?_
    ·exact(by simp;omega)
    exact kF
   ·refine kU aa ac Tryz.func79 ?_
    refine kR ?_;refine kI ?_
    iterate 12 refine kO ?_
    refine kB true ?_ ?_
    ·exact(by simp;omega)
    exact kF
 ·have e:sameB na nb xs ys=false:=by unfold sameB;cases na<;>cases nb<;>first|rfl|exact absurd rfl hn
  rw[e];cases na<;>cases nb
  ·exact absurd rfl hn
  ·refine kU aa ac Tryz.func79 ?_
   exact kF
  ·refine kU aa ac Tryz.func79 ?_
   exact kF
  ·exact absurd rfl hn
theorem zH {z:Int} {k:Nat} (h:Sz k z):(fmt z).length≤10*k+2:=by
 have h1:(kP z.natAbs).length≤10*k:=tR _ _ (Nat.lt_of_lt_of_le h (by rw[Nat.pow_mul];exact Nat.pow_le_pow_left (by decide) _));unfold fmt
 split
 ·simp
 ·rw[List.length_append]
  have:(if z<0 then [45]else []:List UInt8).length≤1:=by split <;>simp
  omega
end Go.Proofs.YtikbnnljjeefgaaGreatDoor
namespace Go.Proofs.YtikbnnljjeefgaaGreatDoor
open Go.RowKit
theorem Gq:dZ 0= .agg [.val (.bool false), .sl 0 []]:=by unfold dZ;rw[e0]
def rv (l:List UInt8):Bool:=l.all re && !decide (l=[])
theorem gD {l:List UInt8}:rv l=true↔(∀c∈l,cX c)∧l≠[]:=by
 unfold rv
 simp[List.all_eq_true,iY]
theorem fw {l:List UInt8} (hl:l.length≤1000000000) {b:Bool} (hb:rv l=b):ab Tryz.prog 228 [dL l] (.one (dB b)):=by
 subst hb;have hsz:=au l;refine kU aa ac Tryz.func228 ?_;refine kW ?_;refine IN aa (l:=l) (by omega) rfl rfl rfl rfl rfl rfl rfl rfl rfl rfl rfl ?_;refine kW ?_;refine bh Nat (fun j=>j≤l.length∧ ∀i c,i<j→l[i]? =some c→cX c) (fun j=>⟨[(0, .d (dL l)),(6, .d (IP l)),(7, .d (dN .i64 l.length)),(8, .d (dN .i64 j))],[]⟩) (fun j=>l.length-j) 0 ⟨Nat.zero_le _,fun i c h=>absurd h (Nat.not_lt_zero _)⟩ (weak ⟨rfl,rfl,rfl,rfl,trivial⟩ trivial rfl) ?_;rintro j ⟨hj,hall⟩;refine kW ?_;refine fS rfl (fun h=>?_) (fun h=>?_)
 ·have hlt:j<l.length:=by have:=of_decide_eq_true h;omega
  obtain⟨c,hc⟩:∃c,l[j]=c:=⟨_,rfl⟩;have hcj:l[j]? =some c:=by rw[List.getElem?_eq_getElem hlt,hc]
  refine kW ?_;refine bf (cs':=[AV.val (.int .u8 c.toNat)]) hlt (G1 hcj) (Nat.lt_succ_self 0) rfl rfl rfl rfl rfl rfl rfl rfl ?_;refine kN ?_;refine kI ?_;refine kO ?_
  by_cases h1:c.toNat<48
  ·refine kT ?_
   refine kW ?_
   rw[show rv l=false by
    cases hd:rv l
    ·rfl
    ·have:=(gD.1 hd).1 c (List.mem_of_getElem? hcj)
     unfold cX at this
     omega]
   exact bL (T:=TT) rfl rfl
  ·refine kE ?_
   iterate 2 refine kO ?_
   by_cases h2:57<c.toNat
   ·refine kT ?_
    refine kW ?_
    rw[show rv l=false by
     cases hd:rv l
     ·rfl
     ·have:=(gD.1 hd).1 c (List.mem_of_getElem? hcj)
      unfold cX at this
      omega]
    exact bL (T:=TT) rfl rfl
   ·refine kE ?_
    refine kW ?_;refine⟨j+1,⟨hlt,fun i c' hi hp=>?_⟩,by omega,weak ⟨rfl,rfl,rfl,?_,trivial⟩ trivial rfl⟩
    ·rcases Nat.lt_succ_iff_lt_or_eq.1 hi with h3|rfl
     ·exact hall i c' h3 hp
     ·have:c'=c:=by rw[hcj]at hp;exact(Option.some.inj hp).symm
      rw[this];unfold cX;omega
    ·exact bc (by omega) (by omega)
 ·have hge:j=l.length:=by have:=of_decide_eq_false h;omega
  refine eN ?_;refine kI ?_;refine kO ?_;refine aO rfl rfl rfl rfl rfl rfl rfl (mj (a:=l) (b:=[])) ?_;refine kW ?_
  have ha:l.all re=true:=List.all_eq_true.2 fun c hc=>iY.2 (by
   obtain⟨i,hi⟩:=List.getElem?_of_mem hc;exact hall i c (by rw[hge];exact(List.getElem?_eq_some_iff.1 hi).1) hi)
  rw[show rv l=!decide (l=[]) by unfold rv;rw[ha];rfl];exact bL (T:=TT) rfl rfl
theorem Fo {l:List UInt8} (h:∀c∈l,cX c):bU l=false∧dx l=l:=by
 have:=ym (b:=false) (l:=l) (fun c r e=>h c (by rw[e];simp))
 simp at this
 exact⟨this.2,this.1⟩
open Classical in
theorem qn {l:List UInt8} (h:∀c∈l,cX c) (hl:l.length≤65536):pz l=if ic false l then((num l:Int),0)else(0,2):=by
 obtain⟨h1,h2⟩:=Fo h
 by_cases ho:ic false l
 ·rw[if_pos ho,DX ⟨hl,by rw[h1,h2];exact ho⟩,h1,h2];rfl
 ·rw[if_neg ho,jy (fun e=>ho (by have:=e.2;rwa[h1,h2]at this))]
theorem bW {l:List UInt8} (hl:l.length≤65536) (h:ic false l):ab Tryz.prog 226 [dL l] (.tup [dZ (num l),dB true]):=by
 have c1:=kl l;rw[qn (eC h) hl,if_pos h]at c1;refine kU aa ac Tryz.func226 ?_;refine kW ?_;refine DP (fw (b:=true) (Nat.le_trans hl (by decide)) (gD.2 ⟨eC h,h.1⟩)) rfl rfl rfl rfl rfl rfl rfl ?_;refine kW ?_;refine kC (c1) ?_;exact kF
theorem fE {l:List UInt8} (hl:l.length≤65536) (h:¬ic false l):ab Tryz.prog 226 [dL l] (.tup [dZ 0,dB false]):=by
 by_cases hd:rv l=true
 ·have c1:=kl l
  rw[qn (gD.1 hd).1 hl,if_neg h]at c1;refine kU aa ac Tryz.func226 ?_;refine kW ?_;refine DP (fw (b:=true) (Nat.le_trans hl (by decide)) hd) rfl rfl rfl rfl rfl rfl rfl ?_;refine kW ?_;refine kC (c1) ?_;exact kF
 ·rw[Gq]
  refine kU aa ac Tryz.func226 ?_;refine kW ?_;refine DP (fw (b:=false) (Nat.le_trans hl (by decide)) (by simpa using hd)) rfl rfl rfl rfl rfl rfl rfl ?_;exact kF
theorem vT (k:Nat):(max 1 (10:Int).natAbs)^k<4294967296^(k+1):=by
 show 10^k<_
 have h1:(10:Nat)^k≤4294967296^k:=Nat.pow_le_pow_left (by decide) _;have h2:0<(4294967296:Nat)^k:=Nat.pow_pos (by decide)
 rw[Nat.pow_succ];omega
theorem py (k:Nat):Sz (k+1) ((10:Int)^k):=by
 unfold Sz;rw[Int.natAbs_pow];exact vT k
theorem Ih:ew 10:= .small (by decide)
theorem Sz.of_pow {k j e:Nat} {y:Int} (h:Sz k y) (hj:k+e≤j):Sz j (y*10^e):=by
 refine Sz.mono (j:=k+e) ?_ hj;unfold Sz at *;rw[Int.natAbs_mul,Int.natAbs_pow,Nat.pow_add];have h1:(10:Int).natAbs^e≤4294967296^e:=Nat.pow_le_pow_left (by decide) _;exact Nat.lt_of_le_of_lt (Nat.mul_le_mul_left _ h1) (Nat.mul_lt_mul_of_pos_right h (Nat.pow_pos (by decide)))
theorem F3 (e:Nat) (he:e≤4096):∃t:Int,(∀y:Int,∀m,e≤m→y*t*10^(m-e)=y*10^m)∧(∀(k j:Nat) (y:Int),Sz k y→k+e≤j→Sz j (y*t))∧ew t∧(10:Int)^e=t∧ab Tryz.prog 237 [dZ 10,dN .i64 e] (.tup [dZ t,dN .i64 0]):=by
 refine⟨10^e,fun y m hm=>?_,fun k j y h hj=>h.of_pow hj,(py e).fit (by omega),rfl,Ae he (by omega) (vT e) Ih rfl⟩;rw[Int.mul_assoc,← Int.pow_add,show e+(m-e)=m by omega]
theorem pW {n:Nat} (hn:n≤65536) {z:Int} (hz:(10:Int)^n=z):ab Tryz.prog 231 [dN .i64 n] (.one (dZ z)):=by
 refine kU aa ac Tryz.func231 ?_;refine kW ?_;refine kQ (ku) ?_;refine bh (Nat × Int) (fun p=>p.1≤n∧p.2*10^p.1=z∧Sz (n-p.1+1) p.2) (fun p=>⟨[(0, .d (dN .i64 p.1)),(2, .box 0 0),(3, .box 1001 0)],[(0,some [.val (.bool false), .sl 0 []]),(1001,some (aZ p.2))]⟩) (fun p=>p.1) (n,1) ⟨Nat.le_refl _,by rw[Int.one_mul];exact hz,(Sz.small (z:=1) (by decide)).mono (by omega)⟩ (weak ⟨rfl,rfl,rfl,trivial⟩ ⟨rfl,rfl,trivial⟩ rfl) ?_;rintro⟨m,y⟩ ⟨hm,hy,hs⟩;dsimp only at hm hy hs ⊢;refine kW ?_;refine fS rfl (fun h=>?_) (fun h=>?_)
 ·have h4:4096<m:=by have:=of_decide_eq_true h;omega
  obtain⟨t,t1,t2,t3,_,t4⟩:=F3 4096 (Nat.le_refl _);refine kW ?_;refine DP (fO 10 (by decide) (by decide)) rfl rfl rfl rfl rfl rfl rfl ?_;refine kW ?_;refine kQ (t4) ?_;refine DP (eV (hs.fit (by omega)) t3) rfl rfl rfl rfl rfl rfl rfl ?_;refine kW ?_;refine⟨(m-4096,y*t),⟨by omega,?_,?_⟩,by dsimp only;omega,weak ⟨?_,rfl,rfl,trivial⟩ ⟨rfl,rfl,trivial⟩ rfl⟩
  ·exact(t1 y m (by omega)).trans hy
  ·exact t2 _ _ y hs (by dsimp only;omega)
  ·exact bc (by omega) (by omega)
 ·have h4:m≤4096:=by have:=of_decide_eq_false h;omega
  obtain⟨t,_,_,t3,ht,t4⟩:=F3 m h4;refine eN ?_;refine kW ?_;refine DP (fO 10 (by decide) (by decide)) rfl rfl rfl rfl rfl rfl rfl ?_;refine kW ?_;refine kQ (t4) ?_;refine DP (eV (hs.fit (by omega)) t3) rfl rfl rfl rfl rfl rfl rfl ?_;refine kW ?_;rw[← hy,ht];exact bL (T:=TT) rfl rfl
end Go.Proofs.YtikbnnljjeefgaaGreatDoor
namespace Go.Proofs.YtikbnnljjeefgaaGreatDoor
open Go.RowKit
theorem eJ {l:List UInt8} (h:∀c∈l,cX c):Sz l.length (num l:Int):=by
 unfold Sz;rw[Int.natAbs_natCast];exact Nat.lt_of_lt_of_le (pe _ l rfl h) (Nat.pow_le_pow_left (by decide) _)
theorem uC {a b:List UInt8} (hl:a.length+b.length≤65536) (ha:ic false a) (hb:b≠[]) (hd:∀x∈b,cX x) {q:Rat} (hq:Rat.divInt ((num a*10^b.length+num b:Nat):Int) ((10^b.length:Nat):Int)=q):ab Tryz.prog 225 [dL a,dL b] (.tup [dQ q,dB true]):=by
 obtain⟨p,hp⟩:∃p,(10:Int)^b.length=p:=⟨_,rfl⟩;have hpc:((10^b.length:Nat):Int)=p:=by rw[← hp,Int.natCast_pow];rfl
 have hp0:p≠0:=by rw[← hpc];have:=Nat.pow_pos (a:=10) (n:=b.length) (by decide);omega
 have sp:Sz (b.length+1) p:=by rw[← hp];exact py _
 have sa:=eJ (eC ha);have sb:=eJ hd;have hn:((num a*10^b.length+num b:Nat):Int)=(num a:Int)*p+num b:=by rw[Int.natCast_add,Int.natCast_mul,hpc]
 rw[hn,hpc]at hq;have sn:Sz (a.length+b.length+2) ((num a:Int)*p+num b):=(sa.mul sp).add (sb.mono (by omega));have c2:=kl (Dr b);have htl:(Dr b).length≤b.length:=(List.dropWhile_sublist _).length_le;have htd:∀c∈Dr b,cX c:=fun c hc=>hd c ((List.dropWhile_sublist _).subset hc)
 rw[qn htd (by omega),yX]at c2
 by_cases ht:Dr b=[]
 ·have hb0:num b=0:=by rw[← yX,ht];rfl
  rw[hb0]at hq sn;refine kU aa ac Tryz.func225 ?_;refine kW ?_;refine DP (bW (by omega) ha) rfl rfl rfl rfl rfl rfl rfl ?_;refine kW ?_;refine DP (fw (b:=true) (by omega) (gD.2 ⟨hd,hb⟩)) rfl rfl rfl rfl rfl rfl rfl ?_;refine kW ?_;refine kC (m0 b) ?_;refine kN ?_;refine kR ?_;refine kI ?_;refine kO ?_;refine aO rfl rfl rfl rfl rfl rfl rfl (gk (a:=Dr b) (b:=[]) ht) ?_;refine kW ?_;refine DP (pW (n:=b.length) (by omega) hp) rfl rfl rfl rfl rfl rfl rfl ?_;refine kW ?_;refine DP (eV (sa.fit (by omega)) (sp.fit (by omega))) rfl rfl rfl rfl rfl rfl rfl ?_;refine kW ?_
  refine DP (wi (na:=decide ((num a:Int)*p<0)) (xs:=digs ((num a:Int)*p).natAbs) (nb:=false) (ys:=[]) (aq _) Wd.nil ((sa.mul sp).fit (by omega)) (by unfold nt;simp) (z:=(num a:Int)*p+(0:Nat)) (by rw[aN];rfl)) rfl rfl rfl rfl rfl rfl rfl ?_;refine kW ?_;refine DP (iH sn (sp.mono (by omega)) (by omega) hp0 hq) rfl rfl rfl rfl rfl rfl rfl ?_;exact kF
 ·rw[if_pos (GS hd ht)]at c2
  refine kU aa ac Tryz.func225 ?_;refine kW ?_;refine DP (bW (by omega) ha) rfl rfl rfl rfl rfl rfl rfl ?_;refine kW ?_;refine DP (fw (b:=true) (by omega) (gD.2 ⟨hd,hb⟩)) rfl rfl rfl rfl rfl rfl rfl ?_;refine kW ?_;refine kC (m0 b) ?_;refine kN ?_;refine kR ?_;refine kI ?_;refine kO ?_;refine aO rfl rfl rfl rfl rfl rfl rfl (ee (a:=Dr b) (b:=[]) ht) ?_;refine kW ?_;refine kQ (c2) ?_;refine DP (pW (n:=b.length) (by omega) hp) rfl rfl rfl rfl rfl rfl rfl ?_;refine kW ?_;refine DP (eV (sa.fit (by omega)) (sp.fit (by omega))) rfl rfl rfl rfl rfl rfl rfl ?_;refine kW ?_;refine DP (Br ((sa.mul sp).fit (by omega)) (sb.fit (by omega))) rfl rfl rfl rfl rfl rfl rfl ?_;refine kW ?_
  refine DP (iH sn (sp.mono (by omega)) (by omega) hp0 hq) rfl rfl rfl rfl rfl rfl rfl ?_;exact kF
theorem rG {a b:List UInt8} (hl:a.length+b.length≤65536) (h:¬(ic false a∧b≠[]∧ ∀x∈b,cX x)):ab Tryz.prog 225 [dL a,dL b] (.tup [B7,dB false]):=by
 by_cases ha:ic false a
 ·refine kU aa ac Tryz.func225 ?_
  refine kW ?_;refine DP (bW (by omega) ha) rfl rfl rfl rfl rfl rfl rfl ?_;refine kW ?_;refine DP (fw (l:=b) (b:=false) (by omega) (Bool.eq_false_iff.2 fun hb=>h ⟨ha,(gD.1 hb).2,(gD.1 hb).1⟩)) rfl rfl rfl rfl rfl rfl rfl ?_;exact kF
 ·refine kU aa ac Tryz.func225 ?_
  refine kW ?_;refine DP (fE (by omega) ha) rfl rfl rfl rfl rfl rfl rfl ?_;exact kF
theorem rh {a b:List UInt8} (hl:a.length+b.length≤65536) (h:ic false a∧ic false b∧num b≠0∧num b≠1∧Nat.gcd (num a) (num b)=1) {q:Rat} (hq:Rat.divInt (num a:Int) (num b:Int)=q):ab Tryz.prog 224 [dL a,dL b] (.tup [dQ q,dB true]):=by
 obtain⟨h1,h2,h3,h4,h5⟩:=h;have sa:=eJ (eC h1);have sb:=eJ (eC h2)
 have e:q.num=num a∧q.den=num b:=by
  refine Cs (Nat.pos_of_ne_zero h3) (by rw[Int.natAbs_natCast];exact h5) ?_;have h0:(q.den:Int)≠0:=by have:=eU q;omega
  have:=(Rat.divInt_eq_divInt_iff h0 (show(num b:Int)≠0 by omega)).1 ((kp q).trans hq.symm);exact this.symm
 rw[ze e.1 (d:=num b) (by rw[e.2])];refine kU aa ac Tryz.func224 ?_;refine kW ?_;refine DP (bW (by omega) h1) rfl rfl rfl rfl rfl rfl rfl ?_;refine kW ?_;refine DP (bW (by omega) h2) rfl rfl rfl rfl rfl rfl rfl ?_;refine kW ?_;refine DP (eS (decide_eq_false (show ¬(num b:Int)=0 by omega))) rfl rfl rfl rfl rfl rfl rfl ?_;refine kW ?_;refine DP (bK (decide_eq_false (show ¬(num b:Int)=1 by omega))) rfl rfl rfl rfl rfl rfl rfl ?_;refine kW ?_;refine DP (kZ (sa.fit (by omega)) (sb.fit (by omega)) (g:=1) (by rw[Int.natAbs_natCast,Int.natAbs_natCast];exact h5)) rfl rfl rfl rfl rfl rfl rfl ?_;refine kW ?_;refine kC (bK (b:=true) rfl) ?_;exact kF
theorem pG {a b:List UInt8} (hl:a.length+b.length≤65536) (h:¬(ic false a∧ic false b∧num b≠0∧num b≠1∧Nat.gcd (num a) (num b)=1)):ab Tryz.prog 224 [dL a,dL b] (.tup [B7,dB false]):=by
 by_cases h1:ic false a
 ·by_cases h2:ic false b
  ·have sa:=eJ (eC h1)
   have sb:=eJ (eC h2)
   by_cases h3:num b=0
   ·refine kU aa ac Tryz.func224 ?_
    refine kW ?_;refine DP (bW (by omega) h1) rfl rfl rfl rfl rfl rfl rfl ?_;refine kW ?_;refine DP (bW (by omega) h2) rfl rfl rfl rfl rfl rfl rfl ?_;refine kW ?_;refine DP (eS (decide_eq_true (show(num b:Int)=0 by omega))) rfl rfl rfl rfl rfl rfl rfl ?_;exact kF
   ·by_cases h4:num b=1
    ·refine kU aa ac Tryz.func224 ?_
     refine kW ?_;refine DP (bW (by omega) h1) rfl rfl rfl rfl rfl rfl rfl ?_;refine kW ?_;refine DP (bW (by omega) h2) rfl rfl rfl rfl rfl rfl rfl ?_;refine kW ?_;refine DP (eS (decide_eq_false (show ¬(num b:Int)=0 by omega))) rfl rfl rfl rfl rfl rfl rfl ?_;refine kW ?_;refine DP (bK (decide_eq_true (show(num b:Int)=1 by omega))) rfl rfl rfl rfl rfl rfl rfl ?_;exact kF
    ·obtain⟨g,hg⟩:∃g,Nat.gcd (num a) (num b)=g:=⟨_,rfl⟩
     have hg1:g≠1:=fun e=>h ⟨h1,h2,h3,h4,hg.trans e⟩
     refine kU aa ac Tryz.func224 ?_;refine kW ?_;refine DP (bW (by omega) h1) rfl rfl rfl rfl rfl rfl rfl ?_;refine kW ?_;refine DP (bW (by omega) h2) rfl rfl rfl rfl rfl rfl rfl ?_;refine kW ?_;refine DP (eS (decide_eq_false (show ¬(num b:Int)=0 by omega))) rfl rfl rfl rfl rfl rfl rfl ?_;refine kW ?_;refine DP (bK (decide_eq_false (show ¬(num b:Int)=1 by omega))) rfl rfl rfl rfl rfl rfl rfl ?_;refine kW ?_;refine DP (kZ (sa.fit (by omega)) (sb.fit (by omega)) (g:=g) (by rw[Int.natAbs_natCast,Int.natAbs_natCast];exact hg)) rfl rfl rfl rfl rfl rfl rfl ?_;refine kW ?_;refine DP (bK (decide_eq_false (show ¬(g:Int)=1 by omega))) rfl rfl rfl rfl rfl rfl rfl ?_;exact kF
  ·refine kU aa ac Tryz.func224 ?_
   refine kW ?_;refine DP (bW (by omega) h1) rfl rfl rfl rfl rfl rfl rfl ?_;refine kW ?_;refine DP (fE (by omega) h2) rfl rfl rfl rfl rfl rfl rfl ?_;exact kF
 ·by_cases h2:ic false b
  ·refine kU aa ac Tryz.func224 ?_
   refine kW ?_;refine DP (fE (by omega) h1) rfl rfl rfl rfl rfl rfl rfl ?_;refine kW ?_;refine DP (bW (by omega) h2) rfl rfl rfl rfl rfl rfl rfl ?_;exact kF
  ·refine kU aa ac Tryz.func224 ?_
   refine kW ?_;refine DP (fE (by omega) h1) rfl rfl rfl rfl rfl rfl rfl ?_;refine kW ?_;refine DP (fE (by omega) h2) rfl rfl rfl rfl rfl rfl rfl ?_;exact kF
theorem wt {c:UInt8} {t:List UInt8} (h:c∈t):∃a b,t=a++c::b∧c ∉ a:=by
 induction t with
 |nil=>cases h
 |cons x t ih=>
  by_cases hx:x=c
  ·subst hx;exact⟨[],t,rfl,by simp⟩
  ·have h':c∈t:=by
    rcases List.mem_cons.1 h with e|e
    ·exact absurd e.symm hx
    ·exact e
   obtain⟨a,b,rfl,hn⟩:=ih h'
   exact⟨x::a,b,rfl,fun e=>by
    rcases List.mem_cons.1 e with e|e
    ·exact hx e.symm
    ·exact hn e⟩
theorem lz {t:List UInt8} (hl:t.length≤65536):(∃q,eZ t=some q∧iS 200000 q∧ab Tryz.prog 216 [dL t] (.tup [dQ q,dB true]))∨(eZ t=none∧ ∃x,(x=B7∨x= .agg (aZ 0++aZ 1))∧ab Tryz.prog 216 [dL t] (.tup [x,dB false])):=by
 by_cases h47:47∈t
 ·obtain⟨a,b,rfl,ha⟩:=wt h47
  have hab:a.length+b.length≤65536:=by simp at hl;omega
  rw[Au ha]
  by_cases h:ic false a∧ic false b∧num b≠0∧num b≠1∧Nat.gcd (num a) (num b)=1
  ·rw[if_pos h]
   refine .inl ⟨_,rfl, .divInt ((eJ (eC h.1)).mono (by omega)) ((eJ (eC h.2.1)).mono (by omega)) (by have:=h.2.2.1;omega),?_⟩;refine kU aa ac Tryz.func216 ?_;refine kW ?_;refine DP (sX ha (by omega)) rfl rfl rfl rfl rfl rfl rfl ?_;refine kW ?_;refine kC (rh hab h rfl) ?_;exact kF
  ·rw[if_neg h]
   refine .inr ⟨rfl,B7, .inl rfl,?_⟩;refine kU aa ac Tryz.func216 ?_;refine kW ?_;refine DP (sX ha (by omega)) rfl rfl rfl rfl rfl rfl rfl ?_;refine kW ?_;refine kC (pG hab h) ?_;exact kF
 by_cases h46:46∈t
 ·obtain⟨a,b,rfl,ha⟩:=wt h46
  have hab:a.length+b.length≤65536:=by simp at hl;omega
  rw[zA h47 ha]
  by_cases h:ic false a∧b≠[]∧ ∀x∈b,cX x
  ·rw[if_pos h]
   have hp0:((10^b.length:Nat):Int)≠0:=by have:=Nat.pow_pos (a:=10) (n:=b.length) (by decide);omega
   have s1:Sz 200000 ((10^b.length:Nat):Int):=by rw[Int.natCast_pow];exact(py b.length).mono (by omega)
   have s2:Sz 200000 ((num a*10^b.length+num b:Nat):Int):=by
    rw[Int.natCast_add,Int.natCast_mul,Int.natCast_pow];exact(((eJ (eC h.1)).of_pow (j:=131072) (by omega)).add ((eJ h.2.2).mono (by omega))).mono (by omega)
   refine .inl ⟨_,rfl, .divInt s2 s1 hp0,?_⟩;refine kU aa ac Tryz.func216 ?_;refine kW ?_;refine kQ (gW h47) ?_;refine DP (sX ha (by omega)) rfl rfl rfl rfl rfl rfl rfl ?_;refine kW ?_;refine kC (uC hab h.1 h.2.1 h.2.2 rfl) ?_;exact kF
  ·rw[if_neg h]
   refine .inr ⟨rfl,B7, .inl rfl,?_⟩;refine kU aa ac Tryz.func216 ?_;refine kW ?_;refine kQ (gW h47) ?_;refine DP (sX ha (by omega)) rfl rfl rfl rfl rfl rfl rfl ?_;refine kW ?_;refine kC (rG hab h) ?_;exact kF
 rw[u7 h47 h46]
 by_cases h:ic false t
 ·rw[if_pos h]
  refine .inl ⟨_,rfl,⟨(eJ (eC h)).mono (by omega),(Sz.small (z:=1) (by decide)).mono (by omega)⟩,?_⟩;refine kU aa ac Tryz.func216 ?_;refine kW ?_;refine kQ (gW h47) ?_;refine kQ (gW h46) ?_;refine kQ (bW hl h) ?_;refine kC (ku) ?_;exact kF
 ·rw[if_neg h]
  refine .inr ⟨rfl,_, .inr rfl,?_⟩;refine kU aa ac Tryz.func216 ?_;refine kW ?_;refine kQ (gW h47) ?_;refine kQ (gW h46) ?_;refine kQ (fE hl h) ?_;refine kC (ku) ?_;exact kF
theorem yF {s:List UInt8} {q:Rat} (h:bF s=some q):ab Tryz.prog 202 [dL s] (.tup [dQ q,dN .i64 0]):=by
 have hsz:=au s;unfold bF at h
 split at h
 ·rename_i hl
  have hdl:=ll s;rcases lz (t:=dx s) (by omega)with⟨p,hp,sp,c1⟩| ⟨hp,_⟩
  ·rw[hp]at h
   dsimp only at h;cases hn:bU s
   ·rw[hn]at h
    simp only[Bool.false_eq_true,if_false,Option.some.injEq]at h
    subst h;refine kU aa ac Tryz.func202 ?_;refine kW ?_;refine kQ (lT s) ?_;refine dC (T:=TT) rfl ?_ ?_
    ·exact decide_eq_false (by omega)
    refine kW ?_;refine kC (c1) ?_;refine kN ?_;refine kI ?_
    iterate 3 refine kO ?_
    refine kB false ?_ ?_
    ·exact hn
    refine kW ?_;refine dC (T:=TT) rfl ?_ ?_
    ·exact hn
    exact kF
   ·rw[hn]at h
    simp only[if_true]at h
    split at h
    ·cases h
    ·rename_i hp0
     cases h;have h0:¬p.num=0:=fun e=>hp0 (Rat.num_eq_zero.1 e)
     refine kU aa ac Tryz.func202 ?_;refine kW ?_;refine kQ (lT s) ?_;refine dC (T:=TT) rfl ?_ ?_
     ·exact decide_eq_false (by omega)
     refine kW ?_;refine kC (c1) ?_;refine kN ?_;refine kI ?_
     iterate 3 refine kO ?_
     refine kB true ?_ ?_
     ·exact hn
     refine kW ?_;refine kQ (eS (decide_eq_false h0)) ?_;refine eX (T:=TT) rfl ?_ ?_
     ·exact hn
     refine kW ?_;refine DP (Dg sp (by decide) rfl) rfl rfl rfl rfl rfl rfl rfl ?_;exact kF
  ·rw[hp]at h;cases h
 ·cases h
theorem wh {s:List UInt8} (h:bF s=none):ab Tryz.prog 202 [dL s] (.tup [B7,dN .i64 2]):=by
 have hsz:=au s
 by_cases hl:s.length≤65536
 ·have hdl:=ll s
  unfold bF at h;rw[if_pos hl]at h;rcases lz (t:=dx s) (by omega)with⟨p,hp,sp,c1⟩| ⟨hp,x,hx,c1⟩
  ·rw[hp]at h
   dsimp only at h;cases hn:bU s
   ·rw[hn]at h
    simp at h
   ·rw[hn]at h
    simp only[if_true]at h
    split at h
    ·rename_i hp0
     have h0:p.num=0:=Rat.num_eq_zero.2 hp0;refine kU aa ac Tryz.func202 ?_;refine kW ?_;refine kQ (lT s) ?_;refine dC (T:=TT) rfl ?_ ?_
     ·exact decide_eq_false (by omega)
     refine kW ?_;refine kC (c1) ?_;refine kN ?_;refine kI ?_
     iterate 3 refine kO ?_
     refine kB true ?_ ?_
     ·exact hn
     refine kW ?_;refine kC (eS (decide_eq_true h0)) ?_;exact kF
    ·cases h
  ·rcases hx with rfl|rfl
   ·refine kU aa ac Tryz.func202 ?_
    refine kW ?_;refine kQ (lT s) ?_;refine dC (T:=TT) rfl ?_ ?_
    ·exact decide_eq_false (by omega)
    refine kW ?_;refine kC (c1) ?_;exact kF
   ·refine kU aa ac Tryz.func202 ?_
    refine kW ?_;refine kQ (lT s) ?_;refine dC (T:=TT) rfl ?_ ?_
    ·exact decide_eq_false (by omega)
    refine kW ?_;refine kC (c1) ?_;exact kF
 ·refine kU aa ac Tryz.func202 ?_
  refine kW ?_;refine kQ (lT s) ?_;refine eX (T:=TT) rfl ?_ ?_
  ·exact decide_eq_true (by omega)
  exact kF
end Go.Proofs.YtikbnnljjeefgaaGreatDoor
namespace Go.Proofs.YtikbnnljjeefgaaGreatDoor
open Go.RowKit
end Go.Proofs.YtikbnnljjeefgaaGreatDoor
namespace Go.Proofs.YtikbnnljjeefgaaGreatDoor
open Go.RowKit
end Go.Proofs.YtikbnnljjeefgaaGreatDoor
namespace Go.Proofs.YtikbnnljjeefgaaGreatDoor
open Go.ChangeShapes Go.WideShapes Go.ChangeAt Go.RowKit Go.Joins
def Sh (P:Program):Nat→TypeId→List AV→Prop
 |0,_,_=>False
 |n+1,t,cs=>match P.underlying t with
  |some .bool=>∃b,cs=[.val (.bool b)]
  |some (.int k)=>∃i,cs=[.val (.int k i)]∧(Lit.int k i).wf=true
  |some .string=>∃s:ByteArray,cs=[.val (.string s)]∧s.size≤maxLen
  |some (.slice e)=>∃rows:List (List AV),cs=[.sl rows.length rows.flatten]∧rows.length≤maxLen∧ ∀r∈rows,Sh P n e r∧r.length=P.cellsOf e
  |some (.struct fs)=>cs.length=P.cellsOf t∧ ∀f∈fs.toList,Sh P n f.type ((cs.drop f.offset).take (P.cellsOf f.type))
  |_=>False
def mU (P:Program):Nat→Nat→List Field→Bool
 |off,sz,[]=>Nat.beq off sz
 |off,sz,f::r=>Nat.beq f.offset off && mU P (off+P.cellsOf f.type) sz r
def tS (P:Program) (L:List TypeId):Bool:=L.all fun t=>match P.underlying t with
 |some .bool=>true
 |some (.int _)=>true
 |some .string=>true
 |some (.slice e)=>L.elem e
 |some (.struct fs)=>(fs.toList.all fun f=>L.elem f.type) && mU P 0 (P.cellsOf t) fs.toList
 |_=>false
theorem qd {w:World} {a:Addr} {k:Nat} {l:List Value} (h:w.cells? 0 a k=some l):l.length=k∧ ∀(i:Nat) (v:Value),l[i]? =some v→w.cell? (a.add i)=some v:=by
 unfold World.cells? at h;rw[if_pos (Nat.zero_le _)]at h
 have:∀(xs:List Nat) (l:List Value),xs.mapM (fun i=>w.cell? (a.add i))=some l→l.length=xs.length∧ ∀(i:Nat) (v:Value),l[i]? =some v→ ∃x,xs[i]? =some x∧w.cell? (a.add x)=some v:=by
  intro xs
  induction xs with
  |nil=>intro l h;simp at h;subst h;exact⟨rfl,fun i v h=>by simp at h⟩
  |cons x xs ih=>
   intro l h
   simp only[List.mapM_cons,Option.bind_eq_bind]at h
   cases h1:w.cell? (a.add x)with
   |none=>rw[h1]at h;simp at h
   |some v=>
    cases h2:xs.mapM (fun i=>w.cell? (a.add i))with
    |none=>rw[h1,h2]at h;simp at h
    |some l'=>
     rw[h1,h2]at h
     simp at h
     subst h;obtain⟨h3,h4⟩:=ih l' h2;refine⟨by simp[h3],fun i u hu=>?_⟩;cases i with
     |zero=>simp at hu;subst hu;exact⟨x,rfl,h1⟩
     |succ i=>simpa using h4 i u (by simpa using hu)
 obtain⟨h1,h2⟩:=this _ _ h;refine⟨by simpa using h1,fun i v hv=>?_⟩;obtain⟨x,hx,hc⟩:=h2 i v hv
 have:x=i:=by
  have:=(List.getElem?_eq_some_iff.1 hx).2
  simpa using this.symm
 rw[← this];exact hc
theorem u6 {α β:Type} {f:α→Option β}:∀{xs:List α} {ys:List β},xs.mapM f=some ys→xs.length=ys.length∧ ∀(i:Nat) (x:α),xs[i]? =some x→ ∃y,ys[i]? =some y∧f x=some y
 | [],ys,h=>by simp at h;subst h;exact⟨rfl,fun i x h=>by simp at h⟩
 |x::xs,ys,h=>by
  simp only[List.mapM_cons,Option.bind_eq_bind]at h
  cases h1:f x with
  |none=>rw[h1]at h;simp at h
  |some y=>
   cases h2:xs.mapM f with
   |none=>rw[h1,h2]at h;simp at h
   |some l=>
    rw[h1,h2]at h
    simp at h
    subst h;obtain⟨h3,h4⟩:=u6 h2;refine⟨by simp[h3],fun i z hz=>?_⟩;cases i with
    |zero=>simp at hz;subst hz;exact⟨y,rfl,h1⟩
    |succ i=>simpa using h4 i z (by simpa using hz)
theorem vP {rows:List (List AV)} {k:Nat} (h:∀r∈rows,r.length=k):∀(i:Nat) (r:List AV),rows[i]? =some r→ ∀j,j<k→rows.flatten[i*k+j]? =r[j]?:=by
 induction rows with
 |nil=>intro i r hr;simp at hr
 |cons x rows ih=>
  intro i r hr j hj;have hx:=h x (by simp)
  simp only[List.flatten_cons]
  cases i with
  |zero=>simp at hr;subst hr;rw[Nat.zero_mul,Nat.zero_add,List.getElem?_append_left (by omega)]
  |succ i=>
   rw[List.getElem?_append_right (by rw[Nat.add_mul];omega)];have:=ih (fun r hr=>h r (by simp[hr])) i r (by simpa using hr) j hj;rw[← this]
   congr 1
   rw[Nat.add_mul];omega
theorem j7 {rows:List (List AV)} {k:Nat} (h:∀r∈rows,r.length=k):rows.flatten.length=rows.length*k:=by
 induction rows with
 |nil=>simp
 |cons x rows ih=>rw[List.flatten_cons,List.length_append,ih (fun r hr=>h r (by simp[hr])),h x (by simp),List.length_cons,Nat.add_mul];omega
theorem zj {P:Program} {sz:Nat}:∀{fs:List Field} {off:Nat},mU P off sz fs=true→off≤sz
 | [],off,h=>by have:=Nat.eq_of_beq_eq_true h;omega
 |f::r,off,h=>by
  simp only[mU,Bool.and_eq_true]at h
  have:=zj h.2;omega
theorem zN {P:Program} {w:World} {vs:List Value} {Q:TypeId→List AV→Prop}:∀(fs:List Field) (off:Nat),mU P off vs.length fs=true →
 (∀f∈fs,∃cf,CM (fun _=>False) w cf ((vs.drop f.offset).take (P.cellsOf f.type))∧Q f.type cf) →
 ∃cs,CM (fun _=>False) w cs (vs.drop off)∧ ∀f∈fs,off≤f.offset∧Q f.type ((cs.drop (f.offset-off)).take (P.cellsOf f.type))
 | [],off,h,_=>by
  have:=Nat.eq_of_beq_eq_true h;subst this;rw[List.drop_length];exact⟨[],CM.nil _ _,fun f hf=>by cases hf⟩
 |f::r,off,h,hf=>by
  simp only[mU,Bool.and_eq_true]at h
  have ho:=Nat.eq_of_beq_eq_true h.1;obtain⟨cf,h1,h2⟩:=hf f (by simp);obtain⟨cs,h3,h4⟩:=zN r _ h.2 (fun g hg=>hf g (by simp[hg]));have hle:=zj h.2;rw[ho]at h1;have hl:cf.length=P.cellsOf f.type:=by rw[h1.1];simp;omega
  refine⟨cf++cs,?_,fun g hg=>?_⟩
  ·have:=h1.append h3
   rwa[← List.drop_drop,List.take_append_drop]at this
  ·rcases List.mem_cons.1 hg with rfl|hg
   ·refine⟨by omega,?_⟩
    rw[ho,Nat.sub_self,List.drop_zero,List.take_left' hl];exact h2
   ·obtain⟨h5,h6⟩:=h4 g hg
    refine⟨by omega,?_⟩;rw[show g.offset-off=cf.length+(g.offset-(off+P.cellsOf f.type)) by omega,← List.drop_drop,List.drop_left' rfl];exact h6
theorem F4 {P:Program} {W:World} {e:TypeId} {a:Addr} {len cap:Nat} {rows:List (List AV)} (hcap:cap≤9223372036854775807) (hlc:len≤cap) (hl:rows.length=len) (hsz:∀r∈rows,r.length=P.cellsOf e)
 (hr:∀i r,rows[i]? =some r→ ∃us:List Value,W.cells? 0 (a.add (i*P.cellsOf e)) (P.cellsOf e)=some us∧CM (fun _=>False) W r us):AV.M (fun _=>False) W (.sl len rows.flatten) (.slice (some a) len cap):=by
 by_cases h0:len*P.cellsOf e=0
 ·have:rows.flatten=[]:=List.eq_nil_of_length_eq_zero (by rw[j7 hsz,hl];exact h0)
  rw[this];exact .emp hlc hcap (fun h=>by cases h)
 ·have hlen:0<len:=by
   rcases Nat.eq_zero_or_pos len with h|h
   ·rw[h,Nat.zero_mul]at h0;exact absurd rfl h0
   ·exact h
  have hcz:0<P.cellsOf e:=by
   rcases Nat.eq_zero_or_pos (P.cellsOf e)with h|h
   ·rw[h,Nat.mul_zero]at h0;exact absurd rfl h0
   ·exact h
  have hcell:∀q c,rows.flatten[q]? =some c→ ∃v,W.cell? (a.add q)=some v∧AV.M (fun _=>False) W c v:=by
   intro q c hq;have hql:q<len*P.cellsOf e:=by have:=(List.getElem?_eq_some_iff.1 hq).1;rwa[j7 hsz,hl]at this
   have hi:q/P.cellsOf e<len:=Nat.div_lt_of_lt_mul (by rw[Nat.mul_comm];exact hql)
   have hj:q%P.cellsOf e<P.cellsOf e:=Nat.mod_lt _ hcz
   have e1:q=q/P.cellsOf e*P.cellsOf e+q%P.cellsOf e:=by have:=Nat.div_add_mod q (P.cellsOf e);rw[Nat.mul_comm]at this;omega
   have hrow':rows[q/P.cellsOf e]? =some (rows[q/P.cellsOf e]'(by omega)):=by simp
   have h1:=vP hsz _ _ hrow' (q%P.cellsOf e) hj;rw[← e1,hq]at h1;obtain⟨us,h3,h4⟩:=hr _ _ hrow';have h5:=(qd h3);have h6:us[q%P.cellsOf e]? =some (us[q%P.cellsOf e]'(by omega)):=by simp
   refine⟨_,?_,h4.2 _ c _ h1.symm h6⟩;have h7:=h5.2 _ _ h6
   have e2:(a.add (q/P.cellsOf e*P.cellsOf e)).add (q%P.cellsOf e)=a.add q:=by
    unfold Addr.add
    by_cases c1:q/P.cellsOf e*P.cellsOf e=0
    ·by_cases c2:q%P.cellsOf e=0
     ·rw[if_pos c1,if_pos c2,if_pos (by omega)]
     ·rw[if_pos c1,if_neg c2,if_neg (by omega)]
      simp <;>omega
    ·by_cases c2:q%P.cellsOf e=0
     ·rw[if_neg c1,if_pos c2,if_neg (by omega)]
      simp <;>omega
     ·rw[if_neg c1,if_neg c2,if_neg (by omega)]
      simp <;>omega
   rwa[e2]at h7
  have hfl:0<rows.flatten.length:=by rw[j7 hsz,hl];exact Nat.mul_pos hlen hcz
  obtain⟨v0,h1,_⟩:=hcell 0 rows.flatten[0] (by simp);have e0:a.add 0=a:=rfl;rw[e0]at h1;obtain⟨b,off,spot⟩:=a
  have hsp:spot=none:=by
   cases spot with
   |none=>rfl
   |some q=>
    unfold World.cell? at h1
    split at h1
    ·simp at h1
    ·cases h1
  subst hsp;refine AV.M.sl (fun q=>(W.cell? ⟨b,off+q,none⟩).getD undef) hlc hcap (fun h=>h) (World.block_lt_of_cell? W _ h1) (fun q c hq=>?_) (fun q c hq=>?_)
  ·obtain⟨v,h3,_⟩:=hcell q c hq
   rw[fN]at h3;rw[h3];rfl
  ·obtain⟨v,h3,h4⟩:=hcell q c hq
   rw[fN]at h3;rw[h3];exact h4
section
variable {H:Type} {enc:TypeId × Value→H} {W:World} {P:Program}
theorem Af {L:List TypeId} (hL:tS P L=true):∀(n:Nat) (t:TypeId) (vs:List Value) (x:DataW H × List MemPlace),t∈L→DataW.trod enc P W 0 (fun _=>true) true n t vs=some x →
 ∃cs,CM (fun _=>False) W cs vs∧Sh P n t cs:=by
 intro n
 induction n with
 |zero=>intro t vs x _ h;simp[DataW.trod]at h
 |succ n ih=>
  intro t vs x ht h;have hp:=List.all_eq_true.1 hL t ht
  simp only[Sh]
  cases hu:P.underlying t with
  |none=>rw[hu]at hp;simp at hp
  |some d=>
   rw[hu]at hp;cases d with
   |bool=>
    obtain⟨b,rfl,_⟩:=DataW.trod_bool hu h;exact⟨_,CM.cons (.val rfl) (CM.nil _ _),b,rfl⟩
   |int k=>
    obtain⟨i,rfl,_,h1⟩:=DataW.trod_int hu h;exact⟨_,CM.cons (.val rfl) (CM.nil _ _),i,rfl,h1⟩
   |string=>
    obtain⟨s,rfl,_,h1⟩:=DataW.trod_string hu h;exact⟨_,CM.cons (.val rfl) (CM.nil _ _),s,rfl,h1⟩
   |slice e=>
    have he:e∈L:=by simpa using hp
    rcases DataW.trod_slice hu h with⟨rfl,_⟩| ⟨a,len,cap,elems,rest,m,hm,rfl,_,_,hlc,hcm,hel,hget,_,_⟩
    ·exact⟨_,CM.cons (.emp (Nat.le_refl _) (by omega) (fun _=>rfl)) (CM.nil _ _),[],rfl,by simp,fun r hr=>by cases hr⟩
    ·obtain rfl:m=n:=by omega
     have hrow:∀i,i<len→ ∃(r:List AV) (us:List Value),W.cells? 0 (a.add (i*P.cellsOf e)) (P.cellsOf e)=some us∧CM (fun _=>False) W r us∧Sh P m e r:=by
      intro i hi;have h1:=hget i hi;have h2:elems[i]? =some elems[i]:=by simp
      rw[h2]at h1;obtain⟨us,h3,h4⟩:=Option.bind_eq_some_iff.1 h1;obtain⟨r,h5,h6⟩:=ih e us _ he h4;exact⟨r,us,h3,h5,h6⟩
     have hrows:∀k,k≤len→ ∃rows:List (List AV),rows.length=k∧ ∀i r,rows[i]? =some r→ ∃us:List Value,W.cells? 0 (a.add (i*P.cellsOf e)) (P.cellsOf e)=some us∧CM (fun _=>False) W r us∧Sh P m e r:=by
      intro k
      induction k with
      |zero=>intro _;exact⟨[],rfl,fun i r h=>by simp at h⟩
      |succ k ihk=>
       intro hk;obtain⟨rows,h1,h2⟩:=ihk (by omega);obtain⟨r,us,h3,h4,h5⟩:=hrow k (by omega);refine⟨rows++[r],by simp[h1],fun i q hq=>?_⟩
       by_cases hi:i<rows.length
       ·rw[List.getElem?_append_left hi]at hq;exact h2 i q hq
       ·have hil:=(List.getElem?_eq_some_iff.1 hq).1
        simp at hil
        have:i=k:=by omega
        subst this;rw[List.getElem?_append_right (by omega),h1,Nat.sub_self]at hq
        simp at hq
        subst hq;exact⟨us,h3,h4,h5⟩
     obtain⟨rows,hl,hr⟩:=hrows len (Nat.le_refl _)
     have hsz:∀r∈rows,r.length=P.cellsOf e:=by
      intro r hm;obtain⟨i,hi⟩:=List.getElem?_of_mem hm;obtain⟨us,h3,h4,_⟩:=hr i r hi;rw[h4.1,(qd h3).1]
     have hsh:∀r∈rows,Sh P m e r:=by
      intro r hm;obtain⟨i,hi⟩:=List.getElem?_of_mem hm;obtain⟨us,_,_,h5⟩:=hr i r hi;exact h5
     refine⟨[.sl len rows.flatten],CM.cons ?_ (CM.nil _ _),rows,by rw[hl],by omega,fun r hm=>⟨hsh r hm,hsz r hm⟩⟩;exact F4 (rows:=rows) (by unfold maxLen at hcm;omega) hlc hl hsz (fun i r hi=>by obtain⟨us,h3,h4,_⟩:=hr i r hi;exact⟨us,h3,h4⟩)
   |struct fs=>
    simp only[Bool.and_eq_true]at hp
    obtain⟨xs,m,hm,_,hlen,hxl,hget⟩:=DataW.trod_struct hu h;obtain rfl:m=n:=by omega
    have htile:=hp.2;rw[← hlen]at htile
    obtain⟨cs,h1,h2⟩:=zN (P:=P) (w:=W) (vs:=vs) (Q:=Sh P m) fs.toList 0 htile (fun f hf=>by
     obtain⟨i,hi⟩:=List.getElem?_of_mem hf;have hi':fs[i]? =some f:=by simpa using hi
     have h3:=hget i f hi';have hil:i<xs.length:=by rw[hxl];exact(Array.getElem?_eq_some_iff.1 hi').1
     have h4:xs[i]? =some xs[i]:=by simp[hil]
     rw[h4]at h3;have hfL:f.type∈L:=by have:=List.all_eq_true.1 hp.1 f hf;simpa using this
     exact ih f.type _ _ hfL h3)
    rw[List.drop_zero]at h1;refine⟨cs,h1,by rw[h1.1,hlen],fun f hf=>?_⟩;have:=(h2 f hf).2
    rwa[Nat.sub_zero]at this
   |_=>simp at hp
theorem Fk {L:List TypeId} (hL:tS P L=true) {t:TypeId} (ht:t∈L) {v:Value} {d:DataW H} {p:List MemPlace} (h:DataW.Trod enc P W 0 (fun _=>true) true t v d p):
 ∃n cs,CM (fun _=>False) W cs v.cells.toList∧Sh P n t cs:=by
 obtain⟨n,hn⟩:=h;obtain⟨cs,h1,h2⟩:=Af hL n t _ _ ht hn;exact⟨n,cs,h1,h2⟩
theorem GP {cs:List AV} {vs:Array Value} (h:CM (fun _=>False) W cs vs.toList):DV.M (fun _=>False) W (.agg cs) (.agg vs):=⟨vs.toList,by simp,h⟩
end
end Go.Proofs.YtikbnnljjeefgaaGreatDoor
namespace Go.Proofs.YtikbnnljjeefgaaGreatDoor
open Go.RowKit Go.Joins
theorem Ec {n:Nat} {cs:List AV} (h:Sh Tryz.prog n 22 cs):∃xs:List Nat,cs=[aW xs]∧Wd xs:=by
 cases n with
 |zero=>exact h.elim
 |succ n=>
  simp only[Sh,Tryz.underlying22]at h
  obtain⟨rows,rfl,_,hr⟩:=h
  have key:∀rows:List (List AV),(∀r∈rows,Sh Tryz.prog n 82 r∧r.length=Tryz.prog.cellsOf 82)→ ∃xs:List Nat,rows.length=xs.length∧rows.flatten=(xs.map fun x:Nat=>AV.val (bC x))∧Wd xs:=by
   intro rows
   induction rows with
   |nil=>intro _;exact⟨[],rfl,rfl,fun x hx=>by cases hx⟩
   |cons r rows ih=>
    intro hr;obtain⟨xs,h1,h2,h3⟩:=ih (fun r hm=>hr r (by simp[hm]));have h4:=(hr r (by simp)).1;cases n with
    |zero=>exact h4.elim
    |succ n=>
     simp only[Sh,Tryz.underlying82]at h4
     obtain⟨i,rfl,hw⟩:=h4;have hb:=bounds_u32 hw;refine⟨i.toNat::xs,by simp[h1],?_,fun x hx=>?_⟩
     ·rw[List.flatten_cons,h2,List.map_cons]
      have:AV.val (.int .u32 i)=AV.val (bC i.toNat):=by unfold bC;congr 2;omega
      rw[this];rfl
     ·rcases List.mem_cons.1 hx with rfl|hx
      ·omega
      ·exact h3 x hx
  obtain⟨xs,h1,h2,h3⟩:=key rows hr;exact⟨xs,by unfold aW;rw[h1,h2],h3⟩
set_option maxRecDepth 100000 in
theorem DD {n:Nat} {cs:List AV} (h:Sh Tryz.prog n 24 cs):∃na xs,cs=aI na xs∧Wd xs:=by
 cases n with
 |zero=>exact h.elim
 |succ n=>
  simp only[Sh,Tryz.underlying24,List.forall_mem_cons,List.not_mem_nil,false_imp_iff,implies_true,and_true]at h
  obtain⟨hl,h0,h1⟩:=h;rw[show Tryz.prog.cellsOf 24=2 by kernel_rfl]at hl;rw[show Tryz.prog.cellsOf 4=1 by kernel_rfl]at h0;rw[show Tryz.prog.cellsOf 22=1 by kernel_rfl]at h1
  match cs,hl with
  | [c0,c1],_=>
   obtain⟨xs,e1,hw⟩:=Ec h1;cases n with
   |zero=>exact h0.elim
   |succ n=>
    simp only[Sh,Tryz.underlying4]at h0
    obtain⟨b,e0⟩:=h0
    simp at e0 e1
    subst e0 e1;exact⟨b,xs,rfl,hw⟩
set_option maxRecDepth 100000 in
theorem GM {n:Nat} {cs:List AV} (h:Sh Tryz.prog n 26 cs):∃na xs nb ys,cs=Cp na xs nb ys∧Wd xs∧Wd ys:=by
 cases n with
 |zero=>exact h.elim
 |succ n=>
  simp only[Sh,Tryz.underlying26,List.forall_mem_cons,List.not_mem_nil,false_imp_iff,implies_true,and_true]at h
  obtain⟨hl,h0,h1⟩:=h;rw[show Tryz.prog.cellsOf 26=4 by kernel_rfl]at hl;rw[show Tryz.prog.cellsOf 24=2 by kernel_rfl]at h0 h1
  match cs,hl with
  | [c0,c1,c2,c3],_=>
   obtain⟨na,xs,e0,w0⟩:=DD h0;obtain⟨nb,ys,e1,w1⟩:=DD h1;refine⟨na,xs,nb,ys,?_,w0,w1⟩;show [c0,c1,c2,c3]=aI na xs++aI nb ys;rw[← e0,← e1];rfl
theorem AT {n:Nat} {cs:List AV} (h:Sh Tryz.prog n 9 cs):∃l:List UInt8,cs=[.val (vL l)]∧l.length≤9223372036854775807:=by
 cases n with
 |zero=>exact h.elim
 |succ n=>
  simp only[Sh,Tryz.underlying9]at h
  obtain⟨s,rfl,hs⟩:=h;obtain⟨l,rfl⟩:∃l,Bs l=s:=⟨_,Df s⟩;refine⟨l,rfl,?_⟩;rw[au]at hs;unfold maxLen at hs;exact hs
theorem Gg {n:Nat} {cs:List AV} (h:Sh Tryz.prog n 3 cs):∃i:Int,cs=[.val (.int .i64 i)]∧ -9223372036854775808≤i∧i≤9223372036854775807:=by
 cases n with
 |zero=>exact h.elim
 |succ n=>
  simp only[Sh,Tryz.underlying3]at h
  obtain⟨i,rfl,hw⟩:=h;exact⟨i,rfl,bounds_i64 hw⟩
end Go.Proofs.YtikbnnljjeefgaaGreatDoor
namespace Go.Proofs.YtikbnnljjeefgaaGreatDoor
open Go.RowKit
inductive Rx where
 |mk (op:Int) (na:Bool) (xs:List Nat) (nb:Bool) (ys:List Nat) (nm:List UInt8) (args:List Rx)
mutual
def aR:Rx→List AV
 | .mk op na xs nb ys nm args=>[.val (.int .i64 op)]++Cp na xs nb ys++[.val (vL nm), .sl args.length (jJ args)]
def jJ:List Rx→List AV
 | []=>[]
 |x::r=>aR x++jJ r
end
def dR (x:Rx):DV:= .agg (aR x)
theorem Cz (x:Rx):(aR x).length=7:=by
 obtain⟨op,na,xs,nb,ys,nm,args⟩:=x;rfl
theorem ko:∀(l:List Rx) (i:Nat) (x:Rx),l[i]? =some x→ ∀(j:Nat) (a:AV),(aR x)[j]? =some a→(jJ l)[i*7+j]? =some a
 | [],i,x,h,_,_,_=>by simp at h
 |y::l,0,x,h,j,a,ha=>by
  simp at h
  subst h
  simp only[jJ,Nat.zero_mul,Nat.zero_add]
  rw[List.getElem?_append_left (List.getElem?_eq_some_iff.1 ha).1];exact ha
 |y::l,i+1,x,h,j,a,ha=>by
  simp only[jJ]
  rw[List.getElem?_append_right (by rw[Cz,Nat.add_mul];omega),Cz,show(i+1)*7+j-7=i*7+j by rw[Nat.add_mul];omega];exact ko l i x (by simpa using h) j a ha
inductive po:Rx→Prop
 |mk {op:Int} {na:Bool} {xs:List Nat} {nb:Bool} {ys:List Nat} {nm:List UInt8} {args:List Rx}: -9223372036854775808≤op→op≤9223372036854775807→Wd xs→Wd ys→nm.length≤9223372036854775807→args.length≤9223372036854775807→(∀x∈args,po x)→po (.mk op na xs nb ys nm args)
set_option maxRecDepth 100000 in
theorem Fc:∀(n:Nat) (cs:List AV),Sh Tryz.prog n 29 cs→ ∃x,cs=aR x∧po x:=by
 intro n
 induction n using Nat.strongRecOn with
 |_ n ih=>
  intro cs h;cases n with
  |zero=>exact h.elim
  |succ n=>
   simp only[Sh,Tryz.underlying29,List.forall_mem_cons,List.not_mem_nil,false_imp_iff,implies_true,and_true]at h
   obtain⟨hl,h0,h1,h2,h3⟩:=h;rw[show Tryz.prog.cellsOf 29=7 by kernel_rfl]at hl;rw[show Tryz.prog.cellsOf 3=1 by kernel_rfl]at h0;rw[show Tryz.prog.cellsOf 26=4 by kernel_rfl]at h1;rw[show Tryz.prog.cellsOf 9=1 by kernel_rfl]at h2;rw[show Tryz.prog.cellsOf 27=1 by kernel_rfl]at h3
   match cs,hl with
   | [c0,c1,c2,c3,c4,c5,c6],_=>
    obtain⟨op,e0,b0,b1⟩:=Gg h0;obtain⟨na,xs,nb,ys,e1,w0,w1⟩:=GM h1;obtain⟨nm,e2,hn⟩:=AT h2;have e0:[c0]=[.val (.int .i64 op)]:=e0;have e1:[c1,c2,c3,c4]=Cp na xs nb ys:=e1;have e2:[c5]=[.val (vL nm)]:=e2;have h3:Sh Tryz.prog n 27 [c6]:=h3;cases n with
    |zero=>exact h3.elim
    |succ n=>
     simp only[Sh,Tryz.underlying27]at h3
     obtain⟨rows,e3,hm,hr⟩:=h3
     have key:∀rows:List (List AV),(∀r∈rows,Sh Tryz.prog n 29 r∧r.length=Tryz.prog.cellsOf 29)→ ∃l:List Rx,rows.length=l.length∧rows.flatten=jJ l∧ ∀x∈l,po x:=by
      intro rows
      induction rows with
      |nil=>intro _;exact⟨[],rfl,rfl,fun x hx=>by cases hx⟩
      |cons r rows ihr=>
       intro hr;obtain⟨l,k1,k2,k3⟩:=ihr (fun r hm=>hr r (by simp[hm]));obtain⟨x,k4,k5⟩:=ih n (by omega) r (hr r (by simp)).1;refine⟨x::l,by simp[k1],by rw[List.flatten_cons,k2,k4];rfl,fun y hy=>?_⟩;rcases List.mem_cons.1 hy with rfl|hy
       ·exact k5
       ·exact k3 y hy
     obtain⟨l,k1,k2,k3⟩:=key rows hr;refine⟨.mk op na xs nb ys nm l,?_, .mk b0 b1 w0 w1 hn (by unfold maxLen at hm;omega) k3⟩;show [c0,c1,c2,c3,c4,c5,c6]=[.val (.int .i64 op)]++Cp na xs nb ys++[.val (vL nm), .sl l.length (jJ l)]
     simp at e0 e2 e3
     rw[← e1,e0,e2,e3,k1,k2];rfl
end Go.Proofs.YtikbnnljjeefgaaGreatDoor
namespace Go.Proofs.YtikbnnljjeefgaaGreatDoor
open Go.RowKit
theorem below_grow (w:World) (k:Nat) (os:Array Obj):Below w.heap.size w (Go.Sort.grow (w.drewN k) os):=by
 refine⟨rfl,rfl,rfl,?_,fun b hb=>?_⟩
 ·show w.heap.size≤(w.heap++os).size
  simp
 ·show(w.heap++os)[b]? =w.heap[b]?
  rw[Array.getElem?_append_left hb]
end Go.Proofs.YtikbnnljjeefgaaGreatDoor
namespace Go.Proofs.YtikbnnljjeefgaaGreatDoor
open Go.RowKit
inductive B4 where
 |add
 |sub
 |mul
 |div
def B4.code:B4→Int
 | .add=>4
 | .sub=>5
 | .mul=>6
 | .div=>7
inductive Ex where
 |num (v:Rat) (u:List UInt8)
 |nam (s:List UInt8)
 |neg (a:Ex)
 |bin (k:B4) (a b:Ex)
def rx:Ex→Rx
 | .num v u=> .mk 1 (decide (v.num<0)) (digs v.num.natAbs) (decide ((v.den:Int)<0)) (digs (v.den:Int).natAbs) u []
 | .nam s=> .mk 2 false [] false [] s []
 | .neg a=> .mk 3 false [] false [] [] [rx a]
 | .bin k a b=> .mk k.code false [] false [] [] [rx a,rx b]
def aE (e:Ex):List AV:=aR (rx e)
def dE (e:Ex):DV:= .agg (aE e)
theorem nd (a:Ex):aE (.neg a)=[.val (.int .i64 3)]++kK++[.val (vL []), .sl 1 (aE a)]:=by
 show [.val (.int .i64 3)]++Cp false [] false []++[.val (vL []), .sl 1 (aR (rx a)++[])]=_;rw[List.append_nil];rfl
theorem fL (k:B4) (a b:Ex):aE (.bin k a b)=[.val (.int .i64 k.code)]++kK++[.val (vL []), .sl 2 (aE a++aE b)]:=by
 show [.val (.int .i64 k.code)]++Cp false [] false []++[.val (vL []), .sl 2 (aR (rx a)++(aR (rx b)++[]))]=_;rw[List.append_nil];rfl
abbrev EL:=List (List UInt8 × (Rat × Int))
end Go.Proofs.YtikbnnljjeefgaaGreatDoor
namespace Go.Proofs.YtikbnnljjeefgaaGreatDoor
open Go.RowKit
section
variable {l:EL}
def ae (o:Int) (na:Bool) (xs:List Nat) (nb:Bool) (ys:List Nat) (nm:List UInt8) (n:Nat) (cs:List AV):List AV:=[.val (.int .i64 o), .val (.bool na),aW xs, .val (.bool nb),aW ys, .val (vL nm), .sl n cs]
theorem ar (a:Ex):∃o na xs nb ys nm n cs,aE a=ae o na xs nb ys nm n cs:=by
 unfold aE;generalize rx a=x;obtain⟨op,na,xs,nb,ys,nm,args⟩:=x;exact⟨op,na,xs,nb,ys,nm,args.length,jJ args,rfl⟩
theorem zR (a:List AV):∀(j:Nat) (x:AV),a[j]? =some x→a[0*7+j]? =some x:=fun j x h=>by rw[Nat.zero_mul,Nat.zero_add];exact h
theorem dy (a b:List AV):∀(j:Nat) (x:AV),a[j]? =some x→(a++b)[0*7+j]? =some x:=fun j x h=>by
 rw[Nat.zero_mul,Nat.zero_add,List.getElem?_append_left (List.getElem?_eq_some_iff.1 h).1];exact h
theorem de {a:List AV} (b:List AV) (ha:a.length=7):∀(j:Nat) (x:AV),b[j]? =some x→(a++b)[1*7+j]? =some x:=fun j x h=>by
 rw[List.getElem?_append_right (by rw[ha];omega),ha,show 1*7+j-7=j by omega];exact h
end
end Go.Proofs.YtikbnnljjeefgaaGreatDoor
namespace Go.Proofs.YtikbnnljjeefgaaGreatDoor
open Go.RowKit
section
variable {l:EL}
end
end Go.Proofs.YtikbnnljjeefgaaGreatDoor
namespace Go.Proofs.YtikbnnljjeefgaaGreatDoor
open Go.RowKit
section
variable {P:Program} {T:TypeId→Option Ty} {n:Nat} {ops:Array Oper} {id:Nat} {draw:Bool} {K:AS→Prop} {s:AS} {k:Nat} {o:Oper} {os:List Oper} {fps:List FP}
theorem Ga {x y:Operand} {ts:Array TypeId} {a b m:Int} (hm:max a b=m) (h1:gd ops s o=some true) (h2:o.op= .call ⟨.builtin .max,#[x,y],ts⟩) (h7:s.ev x= .d (dN .i64 a)) (h8:s.ev y= .d (dN .i64 b))
 (h3:bn n o.dst=true) (h4:jr draw ops (a6 ops o ⟨.d (dN .i64 m),none⟩ []) k fps=true) (h:aH P T n ops id draw K (k+1) os (s.eff o.dst ⟨.d (dN .i64 m),none⟩) (a6 ops o ⟨.d (dN .i64 m),none⟩ []::fps)):aH P T n ops id draw K k (o::os) s fps:=by
 subst hm;refine .run h1 (.gen fun s2 ht _=>?_) h3 h4 h;have hx:=(bd ht (x:=x) (by simp[h2,Op.operands,Call.operands])).trans h7;have hy:=(bd ht (x:=y) (by simp[h2,Op.operands,Call.operands])).trans h8;refine av fun n S0 w0 g a' w hM=>⟨.int .i64 (max a b),w,?_,Below.refl _ _,AV.M.val rfl⟩
 have hm:(Builtin.max2 (.int .i64 a) (.int .i64 b)).run P w= .ok (.int .i64 (max a b)) w:=by
  have e:max a b=if b > a then b else a:=by split <;>omega
  rw[e];rfl
 simp[execOp,h2,resolve,invoke,builtin,Builtin.max_,bJ hM hx,bJ hM hy,Sem.run_bind,hm]
end
end Go.Proofs.YtikbnnljjeefgaaGreatDoor
namespace Go.Proofs.YtikbnnljjeefgaaGreatDoor
open Go.RowKit
theorem ij {p:Rx→Prop} (h:∀op na xs nb ys nm args,(∀y∈args,p y)→p (.mk op na xs nb ys nm args)):∀x,p x
 | .mk op na xs nb ys nm args=>h op na xs nb ys nm args (fun y hy=>ij h y)
decreasing_by
 have:=List.sizeOf_lt_of_mem hy
 simp
 omega
theorem aX (x:Rx):∃o na xs nb ys nm n cs,aR x=ae o na xs nb ys nm n cs:=by
 obtain⟨op,na,xs,nb,ys,nm,args⟩:=x;exact⟨op,na,xs,nb,ys,nm,args.length,jJ args,rfl⟩
mutual
def jN:Rx→Nat
 | .mk _ _ _ _ _ _ args=>ls args+1
def ls:List Rx→Nat
 | []=>0
 |x::r=>jN x+ls r
end
mutual
def tz:Rx→Nat→Nat
 | .mk _ _ _ _ _ _ args,m=>xk args 1 m
def xk:List Rx→Nat→Nat→Nat
 | [],n,_=>n
 |y::r,n,m=>if n≤m then xk r (n+tz y (m-n)) m else n
end
theorem wX:∀{l:List Rx} {n m:Nat},m<n→xk l n m=n
 | [],n,m,_=>rfl
 |y::r,n,m,h=>by rw[xk,if_neg (by omega)]
theorem BR {l:List Rx} {i:Nat} (h:i<l.length) {n m:Nat} (hn:n≤m):xk (l.drop i) n m=xk (l.drop (i+1)) (n+tz l[i] (m-n)) m:=by
 rw[List.drop_eq_getElem_cons h,xk,if_pos hn]
theorem sY:∀(x:Rx) (m:Nat),1≤tz x m∧tz x m≤m+1∧(tz x m≤m→tz x m=jN x):=by
 refine ij fun op na xs nb ys nm args ih m=>?_
 have key:∀(l:List Rx),(∀y∈l,∀m,1≤tz y m∧tz y m≤m+1∧(tz y m≤m→tz y m=jN y))→ ∀n,1≤n→n≤m+1→1≤xk l n m∧xk l n m≤m+1∧(xk l n m≤m→xk l n m=n+ls l):=by
  intro l
  induction l with
  |nil=>intro _ n h1 h2;exact⟨h1,h2,fun _=>rfl⟩
  |cons y r ihr=>
   intro h n h1 h2
   by_cases hn:n≤m
   ·rw[xk,if_pos hn]
    obtain⟨a1,a2,a3⟩:=h y (by simp) (m-n);obtain⟨b1,b2,b3⟩:=ihr (fun z hz=>h z (by simp[hz])) (n+tz y (m-n)) (by omega) (by omega);refine⟨b1,b2,fun hle=>?_⟩;rw[b3 hle,ls]
    by_cases hm:n+tz y (m-n)≤m
    ·rw[a3 (by omega)];omega
    ·rw[wX (by omega)]at hle;omega
   ·rw[xk,if_neg hn]
    exact⟨h1,h2,fun h=>absurd h hn⟩
 rw[tz,jN];obtain⟨c1,c2,c3⟩:=key args ih 1 (Nat.le_refl _) (by omega);exact⟨c1,c2,fun h=>by rw[c3 h];omega⟩
theorem CC:∀(x:Rx),po x→ ∀m:Nat,m≤1000000→ab Tryz.prog 28 [dR x,dN .i64 m] (.one (dN .i64 (tz x m))):=by
 refine ij fun op na xs nb ys nm args ih hx m hm=>?_
 obtain⟨_,_,_,_,_,hlen,hargs⟩:=hx;show ab Tryz.prog _ [.agg (ae op na xs nb ys nm args.length (jJ args)),_] _;have ht0:=(sY (.mk op na xs nb ys nm args) m).2.1;rw[tz]at ht0 ⊢;generalize ht:xk args 1 m=t at ht0;refine kU aa ac Tryz.func28 ?_;refine kW ?_
 refine bh (Nat × Nat) (fun s=>s.1≤args.length∧1≤s.2∧s.2≤m+1∧xk (args.drop s.1) s.2 m=t) (fun s=>⟨[(1, .d (dN .i64 m)),(2, .box 0 0),(4, .d (dN .i64 0)),(5, .d (dN .i64 s.2)),(6, .d (dN .i64 s.1))],[(0,some (ae op na xs nb ys nm args.length (jJ args)))]⟩) (fun s=>args.length-s.1) (0,1) ⟨Nat.zero_le _,Nat.le_refl _,by dsimp only;omega,ht⟩
  (weak ⟨rfl,rfl,rfl,rfl,rfl,trivial⟩ ⟨rfl,trivial⟩ rfl) ?_
 rintro⟨i,n⟩ ⟨hi,h1,h2,hd⟩;dsimp only at hi h1 h2 hd ⊢;refine kI ?_
 iterate 4 refine kO ?_
 by_cases hlt:i<args.length
 ·refine kT ?_
  iterate 3 refine kO ?_
  by_cases hn:n≤m
  ·refine kT ?_
   obtain⟨o1,na1,xs1,nb1,ys1,nm1,n1,cs1,hA⟩:=aX args[i];have hat:∀(j:Nat) (a:AV),(ae o1 na1 xs1 nb1 ys1 nm1 n1 cs1)[j]? =some a→(jJ args)[i*7+j]? =some a:=fun j a h=>ko args i args[i] (by simp[hlt]) j a (by rw[hA];exact h)
   have c:=ih args[i] (List.getElem_mem hlt) (hargs _ (List.getElem_mem hlt)) (m-n) (by omega);rw[show dR args[i]= .agg (ae o1 na1 xs1 nb1 ys1 nm1 n1 cs1) from congrArg DV.agg hA]at c;obtain⟨k1,k2,_⟩:=sY args[i] (m-n);have hstep:=BR hlt hn;generalize tz args[i] (m-n)=k at *;refine kW ?_;refine bf (i:=i) (cs':=ae o1 na1 xs1 nb1 ys1 nm1 n1 cs1) hlt hat (Nat.zero_lt_succ 6) rfl rfl rfl rfl rfl rfl rfl rfl ?_
   iterate 3 refine kO ?_
   refine kJ ((m-n:Nat)) ?_;refine kQ (c) ?_;exact⟨(i+1,n+k),⟨hlt,by dsimp only;omega,by dsimp only;omega,by dsimp only;rw[← hstep];exact hd⟩,by dsimp only;omega,weak ⟨rfl,rfl,rfl,bc (by omega) (by omega),bc (by omega) (by omega),trivial⟩ ⟨rfl,trivial⟩ rfl⟩
  ·refine kE ?_
   refine kW ?_;rw[← hd,wX (by omega)];exact bL (T:=TT) rfl rfl
 ·refine kE ?_
  refine kW ?_;rw[← hd,List.drop_eq_nil_of_le (by omega),xk];exact bL (T:=TT) rfl rfl
mutual
def zX:Rx→Bool
 | .mk _ _ xs _ ys nm args=>wz args && (decide (xs.length≤8) && decide (ys.length≤8) && decide (nm.length≤60))
def wz:List Rx→Bool
 | []=>true
 |y::r=>zX y && wz r
end
theorem qq:∀{l:List Rx},wz l=true→ ∀y∈l,zX y=true
 |a::l,h,y,hy=>by
  simp only[wz,Bool.and_eq_true]at h
  rcases List.mem_cons.1 hy with rfl|hy
  ·exact h.1
  ·exact qq h.2 y hy
theorem wR:∀{l:List Rx},(∀(q:Nat) (y:Rx),l[q]? =some y→zX y=true)→wz l=true
 | [],_=>rfl
 |a::l,h=>by
  simp only[wz,Bool.and_eq_true]
  exact⟨h 0 a rfl,wR fun q y hq=>h (q+1) y (by simpa using hq)⟩
theorem Ce:∀(x:Rx),po x→ab Tryz.prog 29 [dR x] (.one (dB (zX x))):=by
 refine ij fun op na xs nb ys nm args ih hx=>?_
 obtain⟨_,_,_,_,_,hlen,hargs⟩:=hx;have hB:=au nm;show ab Tryz.prog _ [.agg (ae op na xs nb ys nm args.length (jJ args))] _;refine kU aa ac Tryz.func29 ?_;refine kW ?_
 refine bh Nat (fun i=>i≤args.length∧ ∀(q:Nat) y,q<i→args[q]? =some y→zX y=true) (fun i=>⟨[(1, .box 0 0),(2, .d (dB false)),(3, .d (dN .i64 i))],[(0,some (ae op na xs nb ys nm args.length (jJ args)))]⟩) (fun i=>args.length-i) 0 ⟨Nat.zero_le _,fun q y h=>absurd h (Nat.not_lt_zero _)⟩
  (weak ⟨rfl,rfl,rfl,trivial⟩ ⟨rfl,trivial⟩ rfl) ?_
 rintro i ⟨hi,hq⟩;refine kI ?_
 iterate 4 refine kO ?_
 by_cases hlt:i<args.length
 ·refine kT ?_
  obtain⟨o1,na1,xs1,nb1,ys1,nm1,n1,cs1,hA⟩:=aX args[i];have hx:args[i]? =some args[i]:=by simp[hlt]
  have hat:∀(j:Nat) (a:AV),(ae o1 na1 xs1 nb1 ys1 nm1 n1 cs1)[j]? =some a→(jJ args)[i*7+j]? =some a:=fun j a h=>ko args i args[i] hx j a (by rw[hA];exact h)
  have c:=ih args[i] (List.getElem_mem hlt) (hargs _ (List.getElem_mem hlt));rw[show dR args[i]= .agg (ae o1 na1 xs1 nb1 ys1 nm1 n1 cs1) from congrArg DV.agg hA]at c;refine kW ?_;refine bf (i:=i) (cs':=ae o1 na1 xs1 nb1 ys1 nm1 n1 cs1) hlt hat (Nat.zero_lt_succ 6) rfl rfl rfl rfl rfl rfl rfl rfl ?_;refine kO ?_;cases hb:zX args[i]
  ·rw[hb]at c
   refine kQ (c) ?_
   rw[show zX (.mk op na xs nb ys nm args)=false by
    rw[zX,Bool.and_eq_false_iff];refine .inl ?_;cases h:wz args
    ·rfl
    ·rw[qq h _ (List.getElem_mem hlt)]at hb;cases hb]
   exact bL (T:=TT) rfl rfl
  ·rw[hb]at c
   refine kQ (c) ?_
   exact⟨i+1,⟨hlt,fun q y h1 h2=>by
    by_cases e:q=i
    ·subst e;rw[hx]at h2;cases h2;exact hb
    ·exact hq q y (by omega) h2⟩,by omega,weak ⟨rfl,rfl,bc (by omega) (by omega),trivial⟩ ⟨rfl,trivial⟩ rfl⟩
 ·refine kE ?_
  have hall:wz args=true:=wR fun q y h=>hq q y (by have:=(List.getElem?_eq_some_iff.1 h).1;omega) h
  rw[zX,hall,Bool.true_and];refine kN ?_;refine aJ (T:=TT) ?_;refine eB (T:=TT) rfl ?_;refine eN ?_;refine kI ?_
  iterate 5 refine kO ?_
  by_cases l1:xs.length≤8
  ·refine kT ?_
   iterate 6 refine kO ?_
   by_cases l2:ys.length≤8
   ·refine kT ?_
    iterate 5 refine kO ?_
    by_cases l3:nm.length≤60
    ·refine kT ?_
     refine kW ?_;rw[decide_eq_true l1,decide_eq_true l2,decide_eq_true l3];exact bL (T:=TT) rfl rfl
    ·refine kE ?_
     refine kW ?_;rw[decide_eq_true l1,decide_eq_true l2,decide_eq_false l3];exact bL (T:=TT) rfl rfl
   ·refine kE ?_
    refine kW ?_;rw[decide_eq_true l1,decide_eq_false l2];exact bL (T:=TT) rfl rfl
  ·refine kE ?_
   refine kW ?_;rw[decide_eq_false l1];exact bL (T:=TT) rfl rfl
mutual
def ox:Rx→Nat
 | .mk _ _ _ _ _ _ args=>jO args+1
def jO:List Rx→Nat
 | []=>0
 |y::r=>max (ox y) (jO r)
end
theorem DT:∀x,ox x≤jN x:=by
 refine ij fun op na xs nb ys nm args ih=>?_
 have key:∀l:List Rx,(∀y∈l,ox y≤jN y)→jO l≤ls l:=by
  intro l
  induction l with
  |nil=>intro _;exact Nat.le_refl _
  |cons y r ihr=>
   intro h;have h1:=h y (by simp);have h2:=ihr fun z hz=>h z (by simp[hz])
   rw[jO,ls];omega
 rw[ox,jN];have:=key args ih;omega
theorem uk:∀{l:List Rx} {y:Rx},y∈l→jN y≤ls l
 |a::l,y,h=>by
  rw[ls];rcases List.mem_cons.1 h with rfl|h
  ·omega
  ·have:=uk h;omega
theorem ut:∀{l:List Rx} {y:Rx},y∈l→ox y≤jO l
 |a::l,y,h=>by
  rw[jO];rcases List.mem_cons.1 h with rfl|h
  ·omega
  ·have:=ut h;omega
theorem uQ:∀(x:Rx),po x→jN x≤1000000→ab Tryz.prog 19 [dR x] (.one (dN .i64 (ox x))):=by
 refine ij fun op na xs nb ys nm args ih hx hs=>?_
 have hd0:=DT (.mk op na xs nb ys nm args);obtain⟨_,_,_,_,_,hlen,hargs⟩:=hx;rw[jN]at hs;rw[ox,jN]at hd0;show ab Tryz.prog _ [.agg (ae op na xs nb ys nm args.length (jJ args))] _;refine kU aa ac Tryz.func19 ?_;refine kW ?_
 refine bh (Nat × Nat) (fun s=>s.1≤args.length∧s.2≤jO args∧max s.2 (jO (args.drop s.1))=jO args) (fun s=>⟨[(1, .box 0 0),(2, .d (dN .i64 0)),(3, .d (dN .i64 s.2)),(4, .d (dN .i64 s.1))],[(0,some (ae op na xs nb ys nm args.length (jJ args)))]⟩) (fun s=>args.length-s.1) (0,0) ⟨Nat.zero_le _,Nat.zero_le _,Nat.zero_max _⟩
  (weak ⟨rfl,rfl,rfl,rfl,trivial⟩ ⟨rfl,trivial⟩ rfl) ?_
 rintro⟨i,d⟩ ⟨hi,h1,h2⟩;dsimp only at hi h1 h2 ⊢;refine kI ?_
 iterate 4 refine kO ?_
 by_cases hlt:i<args.length
 ·refine kT ?_
  obtain⟨o1,na1,xs1,nb1,ys1,nm1,n1,cs1,hA⟩:=aX args[i];have hx:args[i]? =some args[i]:=by simp[hlt]
  have hat:∀(j:Nat) (a:AV),(ae o1 na1 xs1 nb1 ys1 nm1 n1 cs1)[j]? =some a→(jJ args)[i*7+j]? =some a:=fun j a h=>ko args i args[i] hx j a (by rw[hA];exact h)
  have hm:=List.getElem_mem hlt;have hsz:=uk hm;have hdp:=ut hm;have c:=ih args[i] hm (hargs _ hm) (by omega);rw[show dR args[i]= .agg (ae o1 na1 xs1 nb1 ys1 nm1 n1 cs1) from congrArg DV.agg hA]at c;rw[List.drop_eq_getElem_cons hlt,jO]at h2;generalize ox args[i]=k at *;refine kW ?_;refine bf (i:=i) (cs':=ae o1 na1 xs1 nb1 ys1 nm1 n1 cs1) hlt hat (Nat.zero_lt_succ 6) rfl rfl rfl rfl rfl rfl rfl rfl ?_;refine kO ?_;refine kC (c) ?_;refine Ga (a:=d) (b:=k) (m:=(max d k:Nat)) (by omega) rfl rfl rfl rfl rfl rfl ?_;refine kW ?_;exact⟨(i+1,max d k),⟨hlt,by dsimp only;omega,by dsimp only;omega⟩,by dsimp only;omega,weak ⟨rfl,rfl,rfl,bc (by omega) (by omega),trivial⟩ ⟨rfl,trivial⟩ rfl⟩
 ·refine kE ?_
  rw[List.drop_eq_nil_of_le (by omega),jO]at h2;have hdd:d=jO args:=by omega
  rw[ox,← hdd];refine kN ?_;refine aJ (T:=TT) ?_;refine eB (T:=TT) rfl ?_;refine eN ?_;refine kI ?_;refine kO ?_;refine kJ ((d+1:Nat)) ?_;exact kF
end Go.Proofs.YtikbnnljjeefgaaGreatDoor
namespace Go.Proofs.YtikbnnljjeefgaaGreatDoor
open Go.ChangeShapes Go.WideShapes Go.ChangeAt Go.RowKit Go.Joins
def si {H:Type}:Nat→DataW H→Option (List AV)
 |0,_=>none
 |n+1,d=>match d with
  | .lit (.bool b)=>some [.val (.bool b)]
  | .lit (.int k i)=>some [.val (.int k i)]
  | .lit (.string l)=>some [.val (.string ⟨l.toArray⟩)]
  | .nil=>some [.sl 0 []]
  | .slice es _=>match jd (si n) es with
   |some rows=>some [.sl rows.length rows.flatten]
   |none=>none
  | .agg es=>match jd (si n) es with
   |some ps=>some ps.flatten
   |none=>none
  |_=>none
theorem qH {α β:Type} {f g:α→Option β}:∀{xs:List α} {ys zs:List β},(∀x∈xs,∀y z,f x=some y→g x=some z→y=z)→jd f xs=some ys→jd g xs=some zs→ys=zs
 | [],ys,zs,_,h,k=>by simp only[jd,Option.some.injEq]at h k;rw[← h,← k]
 |x::xs,ys,zs,hfg,h,k=>by
  simp only[jd]at h k
  cases h1:f x with
  |none=>rw[h1]at h;simp at h
  |some y=>
   cases h2:jd f xs with
   |none=>rw[h1,h2]at h;simp at h
   |some ys'=>
    cases k1:g x with
    |none=>rw[k1]at k;simp at k
    |some z=>
     cases k2:jd g xs with
     |none=>rw[k1,k2]at k;simp at k
     |some zs'=>
      rw[h1,h2]at h;rw[k1,k2]at k
      simp only[Option.some.injEq]at h k
      rw[← h,← k,hfg x (by simp) y z h1 k1,qH (fun x hx=>hfg x (by simp[hx])) h2 k2]
theorem zg {H:Type}:∀(n m:Nat) (d:DataW H) (cs cs':List AV),si n d=some cs→si m d=some cs'→cs=cs'
 |0,_,_,_,_,h,_=>by simp[si]at h
 |_+1,0,_,_,_,_,h=>by simp[si]at h
 |n+1,m+1,d,cs,cs',h,h'=>by
  have ih:=zg (H:=H) n m;unfold si at h h'
  split at h
  ·simp_all
  ·simp_all
  ·simp_all
  ·simp_all
  ·simp only at h'
   split at h
   ·split at h'
    ·rename_i r1 h1 _ r2 h2
     have:=qH (fun x _ y z=>ih x y z) h1 h2;subst this;rw[← Option.some.inj h,← Option.some.inj h']
    ·cases h'
   ·cases h
  ·simp only at h'
   split at h
   ·split at h'
    ·rename_i r1 h1 _ r2 h2
     have:=qH (fun x _ y z=>ih x y z) h1 h2;subst this;rw[← Option.some.inj h,← Option.some.inj h']
    ·cases h'
   ·cases h
  ·cases h
theorem oM {α β:Type} {f:α→Option β}:∀{xs:List α} {ys:List β},xs.length=ys.length→(∀(i:Nat) (x:α) (y:β),xs[i]? =some x→ys[i]? =some y→f x=some y)→jd f xs=some ys
 | [],[],_,_=>rfl
 | [],_::_,h,_=>by cases h
 |_::_,[],h,_=>by cases h
 |x::xs,y::ys,h,hf=>by
  simp only[jd,hf 0 x y rfl rfl,oM (xs:=xs) (ys:=ys) (by simpa using h) (fun i x y h1 h2=>hf (i+1) x y (by simpa using h1) (by simpa using h2))]
def uq (P:Program) (L:List TypeId):Bool:=L.all fun t=>match P.underlying t with
 |some .bool=>true
 |some (.int _)=>true
 |some .string=>true
 |some (.slice e)=>L.elem e
 |some (.struct fs)=>(fs.toList.all fun f=>L.elem f.type) && mU P 0 (P.cellsOf t) fs.toList
 |some (.array n e)=>L.elem e && Nat.beq (n*P.cellsOf e) (P.cellsOf t)
 |_=>false
theorem zo {w:World} {sz:Nat}:∀(n:Nat) (vs:List Value) (ps:List (List AV)),vs.length=n*sz→ps.length=n→(∀i p,ps[i]? =some p→CM (fun _=>False) w p ((vs.drop (i*sz)).take sz))→CM (fun _=>False) w ps.flatten vs
 |0,vs,ps,h,hp,_=>by
  have h1:vs=[]:=List.eq_nil_of_length_eq_zero (by simpa using h);have h2:ps=[]:=List.eq_nil_of_length_eq_zero hp;subst h1 h2;exact CM.nil _ _
 |n+1,vs,[],_,hp,_=>by cases hp
 |n+1,vs,p::ps,h,hp,hc=>by
  have h0:=hc 0 p rfl;rw[Nat.zero_mul,List.drop_zero]at h0
  have hr:=zo (w:=w) (sz:=sz) n (vs.drop sz) ps (by rw[List.length_drop,h,Nat.add_mul];omega) (by simpa using hp) (fun i q hq=>by
   have:=hc (i+1) q (by simpa using hq);rw[List.drop_drop,show sz+i*sz=(i+1)*sz by rw[Nat.add_mul];omega];exact this)
  rw[List.flatten_cons];have:=h0.append hr
  rwa[List.take_append_drop]at this
theorem rT {P:Program} {w:World} {vs:List Value}:∀(fs:List Field) (off:Nat) (ps:List (List AV)),mU P off vs.length fs=true→ps.length=fs.length →
 (∀(i:Nat) (f:Field) (p:List AV),fs[i]? =some f→ps[i]? =some p→CM (fun _=>False) w p ((vs.drop f.offset).take (P.cellsOf f.type)))→CM (fun _=>False) w ps.flatten (vs.drop off)
 | [],off,[],h,_,_=>by
  have:=Nat.eq_of_beq_eq_true h;subst this;rw[List.drop_length];exact CM.nil _ _
 | [],_,_::_,_,h,_=>by cases h
 |_::_,_,[],_,h,_=>by cases h
 |f::r,off,p::ps,h,hl,hf=>by
  simp only[mU,Bool.and_eq_true]at h
  have ho:=Nat.eq_of_beq_eq_true h.1;have h1:=hf 0 f p rfl rfl;have h3:=rT r _ ps h.2 (by simpa using hl) (fun i g q hg hq=>hf (i+1) g q (by simpa using hg) (by simpa using hq));rw[ho]at h1;rw[List.flatten_cons];have:=h1.append h3
  rwa[← List.drop_drop,List.take_append_drop]at this
section
variable {H:Type} {enc:TypeId × Value→H} {W:World} {P:Program} {held:Bool}
theorem E5 {L:List TypeId} (hL:uq P L=true):∀(n:Nat) (t:TypeId) (vs:List Value) (x:DataW H × List MemPlace),t∈L→DataW.trod enc P W 0 (fun _=>true) held n t vs=some x →
 ∃cs,CM (fun _=>False) W cs vs∧si n x.1=some cs:=by
 intro n
 induction n with
 |zero=>intro t vs x _ h;simp[DataW.trod]at h
 |succ n ih=>
  intro t vs x ht h;have hp:=List.all_eq_true.1 hL t ht;cases hu:P.underlying t with
  |none=>rw[hu]at hp;simp at hp
  |some d=>
   rw[hu]at hp;cases d with
   |bool=>
    obtain⟨b,rfl,rfl⟩:=DataW.trod_bool hu h;exact⟨_,CM.cons (.val rfl) (CM.nil _ _),rfl⟩
   |int k=>
    obtain⟨i,rfl,rfl,h1⟩:=DataW.trod_int hu h;exact⟨_,CM.cons (.val rfl) (CM.nil _ _),rfl⟩
   |string=>
    obtain⟨s,rfl,rfl,h1⟩:=DataW.trod_string hu h;exact⟨_,CM.cons (.val rfl) (CM.nil _ _),by simp[si]⟩
   |slice e=>
    have he:e∈L:=by simpa using hp
    rcases DataW.trod_slice hu h with⟨rfl,rfl⟩| ⟨a,len,cap,elems,rest,m,hm,rfl,rfl,_,hlc,hcm,hel,hget,_,_⟩
    ·exact⟨_,CM.cons (.emp (Nat.le_refl _) (by omega) (fun _=>rfl)) (CM.nil _ _),rfl⟩
    ·obtain rfl:m=n:=by omega
     have hrow:∀i,i<len→ ∃(r:List AV) (us:List Value),W.cells? 0 (a.add (i*P.cellsOf e)) (P.cellsOf e)=some us∧CM (fun _=>False) W r us∧ ∀y,elems[i]? =some y→si m y.1=some r:=by
      intro i hi;have h1:=hget i hi;have h2:elems[i]? =some elems[i]:=by simp
      rw[h2]at h1;obtain⟨us,h3,h4⟩:=Option.bind_eq_some_iff.1 h1;obtain⟨r,h5,h6⟩:=ih e us _ he h4;exact⟨r,us,h3,h5,fun y hy=>by rw[h2]at hy;cases hy;exact h6⟩
     have hrows:∀k,k≤len→ ∃rows:List (List AV),rows.length=k∧ ∀i r,rows[i]? =some r→ ∃us:List Value,W.cells? 0 (a.add (i*P.cellsOf e)) (P.cellsOf e)=some us∧CM (fun _=>False) W r us∧ ∀y,elems[i]? =some y→si m y.1=some r:=by
      intro k
      induction k with
      |zero=>intro _;exact⟨[],rfl,fun i r h=>by simp at h⟩
      |succ k ihk=>
       intro hk;obtain⟨rows,h1,h2⟩:=ihk (by omega);obtain⟨r,us,h3,h4,h5⟩:=hrow k (by omega);refine⟨rows++[r],by simp[h1],fun i q hq=>?_⟩
       by_cases hi:i<rows.length
       ·rw[List.getElem?_append_left hi]at hq;exact h2 i q hq
       ·have hil:=(List.getElem?_eq_some_iff.1 hq).1
        simp at hil
        have:i=k:=by omega
        subst this;rw[List.getElem?_append_right (by omega),h1,Nat.sub_self]at hq
        simp at hq
        subst hq;exact⟨us,h3,h4,h5⟩
     obtain⟨rows,hl,hr⟩:=hrows len (Nat.le_refl _)
     have hmap:jd (si m) (elems.map (·.1))=some rows:=by
      refine oM (by simp[hel,hl]) (fun i y r hy h2=>?_);rw[List.getElem?_map]at hy;cases hz:elems[i]? with
      |none=>rw[hz]at hy;cases hy
      |some z=>
       rw[hz]at hy
       simp only[Option.map_some,Option.some.injEq]at hy
       obtain⟨_,_,_,h5⟩:=hr i r h2;rw[← hy];exact h5 z hz
     have hsz:∀r∈rows,r.length=P.cellsOf e:=by
      intro r hm;obtain⟨i,hi⟩:=List.getElem?_of_mem hm;obtain⟨us,h3,h4,_⟩:=hr i r hi;rw[h4.1,(qd h3).1]
     refine⟨[.sl len rows.flatten],CM.cons ?_ (CM.nil _ _),by simp only[si,hmap,hl]⟩;exact F4 (rows:=rows) (by unfold maxLen at hcm;omega) hlc hl hsz (fun i r hi=>by obtain⟨us,h3,h4,_⟩:=hr i r hi;exact⟨us,h3,h4⟩)
   |struct fs=>
    simp only[Bool.and_eq_true]at hp
    obtain⟨xs,m,hm,rfl,hlen,hxl,hget⟩:=DataW.trod_struct hu h;obtain rfl:m=n:=by omega
    have htile:=hp.2;rw[← hlen]at htile
    have hpart:∀k,k≤xs.length→ ∃ps:List (List AV),ps.length=k∧ ∀(i:Nat) (p:List AV) (f:Field),ps[i]? =some p→fs[i]? =some f→CM (fun _=>False) W p ((vs.drop f.offset).take (P.cellsOf f.type))∧ ∀y:DataW H × List MemPlace,xs[i]? =some y→si m y.1=some p:=by
     intro k
     induction k with
     |zero=>intro _;exact⟨[],rfl,fun i p f h=>by simp at h⟩
     |succ k ihk=>
      intro hk;obtain⟨ps,h1,h2⟩:=ihk (by omega);have hkf:fs[k]? =some (fs[k]'(by omega)):=by simp
      have h3:=hget k _ hkf;have h4:xs[k]? =some xs[k]:=by simp
      rw[h4]at h3;have hfL:fs[k].type∈L:=by have:=List.all_eq_true.1 hp.1 fs[k] (by simp);simpa using this
      obtain⟨p,h5,h6⟩:=ih _ _ _ hfL h3;refine⟨ps++[p],by simp[h1],fun i q f hq hf=>?_⟩
      by_cases hi:i<ps.length
      ·rw[List.getElem?_append_left hi]at hq;exact h2 i q f hq hf
      ·have hil:=(List.getElem?_eq_some_iff.1 hq).1
       simp at hil
       have:i=k:=by omega
       subst this;rw[List.getElem?_append_right (by omega),h1,Nat.sub_self]at hq
       simp at hq
       subst hq;rw[hkf]at hf;cases hf;exact⟨h5,fun y hy=>by rw[h4]at hy;cases hy;exact h6⟩
    obtain⟨ps,h1,h2⟩:=hpart xs.length (Nat.le_refl _);refine⟨ps.flatten,?_,?_⟩
    ·have:=rT (w:=W) (vs:=vs) fs.toList 0 ps htile (by rw[h1,hxl];simp) (fun i f p hf hp=>(h2 i p f hp (by simpa using hf)).1)
     rwa[List.drop_zero]at this
    ·have hmap:jd (si m) (xs.map (·.1))=some ps:=by
      refine oM (by simp[h1]) (fun i y p hy hpi=>?_);rw[List.getElem?_map]at hy;cases hz:xs[i]? with
      |none=>rw[hz]at hy;cases hy
      |some z=>
       rw[hz]at hy
       simp only[Option.map_some,Option.some.injEq]at hy
       have hil:i<fs.size:=by rw[← hxl];exact(List.getElem?_eq_some_iff.1 hz).1
       rw[← hy];exact(h2 i p fs[i] hpi (by simp[hil])).2 z hz
     simp only[si,hmap]
   |array k e=>
    simp only[Bool.and_eq_true]at hp
    have he:e∈L:=by simpa using hp.1
    have hke:=Nat.eq_of_beq_eq_true hp.2;unfold DataW.trod at h;rw[hu]at h
    simp only at h
    have hr:∃xs:List (DataW H × List MemPlace),x.1= .agg (xs.map (·.1))∧vs.length=P.cellsOf t∧(List.range k).mapM (fun i=>DataW.trod enc P W 0 (fun _=>true) held n e ((vs.drop (i*P.cellsOf e)).take (P.cellsOf e)))=some xs:=by
     split at h
     ·rename_i hl
      obtain⟨xs,h1,h2⟩:=Option.map_eq_some_iff.1 h;exact⟨xs,by rw[← h2],hl,h1⟩
     ·cases h
    obtain⟨xs,hx,hlen,hmm⟩:=hr;obtain⟨h1,h2⟩:=u6 hmm;rw[List.length_range]at h1
    have hpart:∀j,j≤k→ ∃ps:List (List AV),ps.length=j∧ ∀(i:Nat) (p:List AV),ps[i]? =some p→CM (fun _=>False) W p ((vs.drop (i*P.cellsOf e)).take (P.cellsOf e))∧ ∀y:DataW H × List MemPlace,xs[i]? =some y→si n y.1=some p:=by
     intro j
     induction j with
     |zero=>intro _;exact⟨[],rfl,fun i p h=>by simp at h⟩
     |succ j ihj=>
      intro hj;obtain⟨ps,h3,h4⟩:=ihj (by omega);obtain⟨y,h5,h6⟩:=h2 j j (List.getElem?_range (by omega));obtain⟨p,h7,h8⟩:=ih _ _ _ he h6;refine⟨ps++[p],by simp[h3],fun i q hq=>?_⟩
      by_cases hi:i<ps.length
      ·rw[List.getElem?_append_left hi]at hq;exact h4 i q hq
      ·have hil:=(List.getElem?_eq_some_iff.1 hq).1
       simp at hil
       have:i=j:=by omega
       subst this;rw[List.getElem?_append_right (by omega),h3,Nat.sub_self]at hq
       simp at hq
       subst hq;exact⟨h7,fun z hz=>by rw[h5]at hz;cases hz;exact h8⟩
    obtain⟨ps,h3,h4⟩:=hpart k (Nat.le_refl _);refine⟨ps.flatten,zo k vs ps (by rw[hlen,← hke]) h3 (fun i p hp=>(h4 i p hp).1),?_⟩
    have hmap:jd (si n) (xs.map (·.1))=some ps:=by
     refine oM (by simp[h3,← h1]) (fun i y p hy hpi=>?_);rw[List.getElem?_map]at hy;cases hz:xs[i]? with
     |none=>rw[hz]at hy;cases hy
     |some z=>
      rw[hz]at hy
      simp only[Option.map_some,Option.some.injEq]at hy
      rw[← hy];exact(h4 i p hpi).2 z hz
    rw[hx]
    simp only[si,hmap]
   |_=>simp at hp
end
end Go.Proofs.YtikbnnljjeefgaaGreatDoor
namespace Go.Proofs.YtikbnnljjeefgaaGreatDoor
open Go.ChangeShapes Go.WideShapes Go.ChangeAt Go.RowKit Go.Joins
theorem ji {P:Program} {W:World} {name:String} {d:DataW Unit}:∀{laid:List (String × DataW Unit)} {ps:List MemPlace},DataW.LaidVars P W laid ps→(name,d)∈laid →
 ∃g t cs fuel p,P.globalNamed name=some g∧(P.globals[g]?).map (·.type)=some t∧W.var? P name=some cs∧DataW.trod (fun _=>()) P W 0 (fun _=>true) false fuel t cs.toList=some (d,p)
 | [],_,_,h=>by cases h
 |(n,d')::rest,ps,h,hm=>by
  obtain⟨g,t,cs,fuel,p,q,h1,h2,h3,h4,h5,_⟩:=h;rcases List.mem_cons.1 hm with e|e
  ·cases e
   exact⟨g,t,cs,fuel,p,h1,h2,h3,h4⟩
  ·exact ji h5 e
theorem Bm:Tryz.prog.cellsOf 123=1:=by kernel_rfl
theorem EB:Tryz.prog.globalNamed "internal/strconv.uint64pow10" =some 3:=by kernel_rfl
theorem Ek:(Tryz.prog.globals[3]?).map (·.type)=some 196:=by kernel_rfl
theorem EV:Tryz.prog.cellsOf 196=20:=by kernel_rfl
theorem y6 {P:Program} {W:World} {laid:List (String × DataW Unit)} {ps:List MemPlace} (hv:DataW.LaidVars P W laid ps) {name:String} {d:DataW Unit} (hm:(name,d)∈laid) {g t:Nat} (hg:P.globalNamed name=some g) (ht:(P.globals[g]?).map (·.type)=some t)
 {L:List TypeId} (hL:uq P L=true) (htL:t∈L) {n:Nat} {cs:List AV} (hav:si n d=some cs) {S:Nat→Prop} (hS:S=fun _=>False):TV.M S (fun _=>0) ⟨[],[]⟩ W (.rp cs) (.pointer (some ⟨g,0,none⟩)):=by
 subst hS;obtain⟨g',t',c0,fuel,p,h1,h2,h3,h4⟩:=ji hv hm;obtain rfl:=Option.some.inj (hg.symm.trans h1);obtain rfl:=Option.some.inj (ht.symm.trans h2);obtain⟨cs',hc,ha⟩:=E5 hL fuel _ _ _ htL h4;have e:=zg _ _ _ _ _ ha hav;subst e;unfold World.var? at h3;rw[hg]at h3
 simp only[Option.bind_some]at h3
 split at h3
 ·rename_i c1 e1 f1 hb
  cases h3;refine⟨g,0,fun i=>c0.getD i undef,rfl,fun h=>h,(Array.getElem?_eq_some_iff.1 hb).1,fun i a hi=>?_,fun i a hi=>?_⟩
  ·have hl:i<c0.size:=by have:=(List.getElem?_eq_some_iff.1 hi).1;rw[hc.1]at this;simpa using this
   rw[Nat.zero_add]
   simp[World.cell?,hb,hl]
  ·have hl:i<c0.size:=by have:=(List.getElem?_eq_some_iff.1 hi).1;rw[hc.1]at this;simpa using this
   exact hc.2 i a _ hi (by simp[hl])
 ·cases h3
theorem vJ {α:Type} {g:Nat} {c:α} {r:List (Nat × α)} {k:Nat} {x:α} (h:am ((g,c)::r) k=some x):(g=k∧c=x)∨am r k=some x:=by
 by_cases e:g=k
 ·subst e;rw[an]at h;exact .inl ⟨rfl,Option.some.inj h⟩
 ·rw[aA _ _ e]at h;exact .inr h
theorem BA:Tryz.prog.globalNamed "setsquare/formula.symbols" =some 0:=by kernel_rfl
theorem AY:(Tryz.prog.globals[0]?).map (·.type)=some 93:=by kernel_rfl
theorem AM:uq Tryz.prog [93,9]=true:=by kernel_rfl
theorem xR:Tryz.prog.globalNamed "setsquare/formula.operands" =some 1:=by kernel_rfl
theorem ya:(Tryz.prog.globals[1]?).map (·.type)=some 95:=by kernel_rfl
theorem yo:uq Tryz.prog [95,3]=true:=by kernel_rfl
theorem th {laid:List (String × DataW Unit)} (hp:(laid.all fun x=>x.2.handleName?.isNone)=true) (hm:("internal/strconv.uint64pow10",Rows.laid_internal_strconv_uint64pow10)∈laid)
 (hm2:("setsquare/formula.symbols",Rows.laid_setsquare_formula_symbols)∈laid)
 (hm3:("setsquare/formula.operands",Rows.laid_setsquare_formula_operands)∈laid)
 {W:World} (h:laidMetH Tryz.prog laid W):dt (fun _=>False) W:=by
 rw[MakeChecks.laidMetH_plain _ _ _ hp]at h;obtain⟨ps,hv,_⟩:=h;obtain⟨g,t,cs,fuel,p,h1,h2,h3,h4⟩:=ji hv hm;obtain rfl:=Option.some.inj (EB.symm.trans h1);obtain rfl:=Option.some.inj (Ek.symm.trans h2);have hd:(Rows.laid_internal_strconv_uint64pow10:DataW Unit)=Lib.tabData .u64 Lib.pow10Tab:=rfl;rw[hd]at h4
 have ht:Lib.TabIs Tryz.prog W "internal/strconv.uint64pow10" .u64 Lib.pow10Tab:=by
  unfold Lib.TabIs;rw[h3,← Lib.cells_of_tab Tryz.underlying196 Tryz.underlying123 Bm EV h4]
 refine⟨Lib.tabBelow_of_tabIs ht,fun _ h=>h.elim,fun k cs h=>?_⟩;unfold GT at h;rcases vJ h with⟨rfl,rfl⟩|h
 ·exact y6 hv hm2 BA AY AM (by simp) (n:=4) rfl rfl
 rcases vJ h with⟨rfl,rfl⟩|h
 ·exact y6 hv hm3 xR ya yo (by simp) (n:=4) rfl rfl
 cases h
end Go.Proofs.YtikbnnljjeefgaaGreatDoor
namespace Go.Proofs.YtikbnnljjeefgaaGreatDoor
open Go.ChangeShapes Go.WideShapes Go.ChangeAt Go.RowKit Go.Joins
end Go.Proofs.YtikbnnljjeefgaaGreatDoor
namespace Go.Proofs.YtikbnnljjeefgaaGreatDoor
open Go.ChangeShapes Go.WideShapes Go.ChangeAt Go.RowKit Go.Joins
end Go.Proofs.YtikbnnljjeefgaaGreatDoor
namespace Go.Proofs.YtikbnnljjeefgaaGreatDoor
open Go.RowKit
def pw:Rat→Nat→Rat
 |q,0=>q
 |q,k+1=>pw q k*((10:Int):Rat)
theorem tF {n:Int} (h:n.natAbs<4294967296):iS 1 (n:Rat):=⟨Sz.small h,Sz.small (z:=1) (by decide)⟩
theorem CA {q:Rat} {n:Nat} (h:iS n q):∀k,iS (n+k) (pw q k)
 |0=>h
 |k+1=>by
  have:=iS.mul (CA h k) (tF (n:=10) (by decide))
  rwa[Nat.add_assoc]at this
def dT (k:Nat) (t:List UInt8):List UInt8:=List.replicate (k+1-t.length) 48++t
def iM (k:Nat) (t:List UInt8):List UInt8:=if 0<k then(dT k t).take ((dT k t).length-k)++[46]++(dT k t).drop ((dT k t).length-k)else dT k t
def jH (q:Rat):Nat→Nat→Option (List UInt8)
 |0,_=>none
 |n+1,k=>if((pw q k).den:Int)=1 then(if(iM k (fmt (pw q k).num)).length≤40 then some (iM k (fmt (pw q k).num))else none)else jH q n (k+1)
def fe (q:Rat):Option (List UInt8):=if BH q<0 then none else jH q 41 0
def pZ (na:Bool) (xs:List Nat) (nb:Bool) (ys:List Nat):Option (List UInt8):=if gJ na xs nb ys then fe (Rat.divInt (ak na xs) (ak nb ys))else none
theorem of (q:Rat):∀n k,∃K,k≤K∧K≤k+n∧(∀j,k≤j→j<K→ ¬((pw q j).den:Int)=1)∧((K=k+n∧jH q n k=none)∨(K<k+n∧((pw q K).den:Int)=1∧jH q n k=if(iM K (fmt (pw q K).num)).length≤40 then some (iM K (fmt (pw q K).num))else none))
 |0,k=>⟨k,Nat.le_refl _,Nat.le_refl _,fun j h1 h2=>by omega, .inl ⟨rfl,rfl⟩⟩
 |n+1,k=>by
  by_cases h:((pw q k).den:Int)=1
  ·exact⟨k,Nat.le_refl _,by omega,fun j h1 h2=>by omega, .inr ⟨by omega,h,by rw[jH,if_pos h]⟩⟩
  ·obtain⟨K,h1,h2,h3,h4⟩:=of q n (k+1)
   refine⟨K,by omega,by omega,fun j hj hj2=>?_,?_⟩
   ·by_cases e:j=k
    ·subst e;exact h
    ·exact h3 j (by omega) hj2
   ·rw[jH,if_neg h]
    rcases h4 with⟨h5,h6⟩| ⟨h5,h6,h7⟩
    ·exact .inl ⟨by omega,h6⟩
    ·exact .inr ⟨by omega,h6,h7⟩
theorem lP {q:Rat} (h:¬BH q<0):∃K,K≤41∧(∀j,j<K→ ¬((pw q j).den:Int)=1)∧((K=41∧fe q=none)∨(K≤40∧((pw q K).den:Int)=1∧fe q=if(iM K (fmt (pw q K).num)).length≤40 then some (iM K (fmt (pw q K).num))else none)):=by
 obtain⟨K,h1,h2,h3,h4⟩:=of q 41 0;refine⟨K,by omega,fun j hj=>h3 j (Nat.zero_le _) hj,?_⟩;rw[fe,if_neg h];rcases h4 with⟨h5,h6⟩| ⟨h5,h6,h7⟩
 ·exact .inl ⟨by omega,h6⟩
 ·exact .inr ⟨by omega,h6,h7⟩
theorem vU (k:Nat) (t:List UInt8):(dT k t).length=max (k+1) t.length:=by
 unfold dT
 simp
 omega
theorem DU (k:Nat) (t:List UInt8) (h:0<k):(iM k t).length=max (k+1) t.length+1:=by
 have:=vU k t;unfold iM;rw[if_pos h]
 simp only[List.length_append,List.length_take,List.length_drop,List.length_cons,List.length_nil]
 omega
theorem oC {q:Rat} {n:Nat} (sq:iS n q) (hn:n≤900):∃t,ab Tryz.prog 35 [dQ q] (.tup [dL t,dB (fe q).isSome])∧ ∀u,fe q=some u→t=u:=by
 have cv:ab Tryz.prog 62 [dQ q] (.one (dB true)):=tY q sq (by omega)
 by_cases hneg:BH q<0
 ·have h0:fe q=none:=by rw[fe,if_pos hneg]
  refine⟨[],?_,fun u h=>by rw[h0]at h;cases h⟩;rw[h0];refine kU aa ac Tryz.func35 ?_;refine kW ?_;refine kQ (cv) ?_;refine kC (pq q) ?_;refine kB true ?_ ?_
  ·exact decide_eq_true hneg
  exact kF
 ·obtain⟨K,k1,k2,k3⟩:=lP hneg
  have main:∀t b,(K=41→t=[]∧b=false)→(K≤40→t=iM K (fmt (pw q K).num)∧b=decide (t.length≤40))→ab Tryz.prog 35 [dQ q] (.tup [dL t,dB b]):=by
   intro t b g1 g2;refine kU aa ac Tryz.func35 ?_;refine kW ?_;refine kQ (cv) ?_;refine kC (pq q) ?_;refine kB false ?_ ?_
   ·exact decide_eq_false hneg
   refine kW ?_;refine DP (iP 10 (by decide) (by decide) (q:=((10:Int):Rat)) rfl) rfl rfl rfl rfl rfl rfl rfl ?_;refine kW ?_;refine DP (cO 1 (by decide) (by decide)) rfl rfl rfl rfl rfl rfl rfl ?_;refine kW ?_
   refine bh Nat (fun k=>k≤K) (fun k=>⟨[(1, .box 0 0),(2, .d (dL [])),(3, .d (dB false)),(4, .box 3001 0),(5, .box 4001 0),(6, .box 5001 0),(7, .d (dN .i64 k))],[(0,some (aQ q)),(3001,some (aQ ((10:Int):Rat))),(4001,some (aZ 1)),(5001,some (aQ (pw q k)))]⟩) (fun k=>41-k) 0 (Nat.zero_le _)
    (weak ⟨rfl,rfl,rfl,rfl,rfl,rfl,rfl,trivial⟩ ⟨rfl,rfl,rfl,rfl,trivial⟩ rfl) ?_
   intro k hk;have sk:=CA sq k;refine kI ?_;refine kO ?_
   by_cases h40:k≤40
   ·refine kT ?_
    refine kW ?_;have hcs:=Du (pw q k).den 1
    by_cases hd1:((pw q k).den:Int)=1
    ·have hkK:k=K:=by
      rcases Nat.lt_or_ge k K with h|h
      ·exact absurd hd1 (k2 k h)
      ·omega
     rw[decide_eq_true hd1]at hcs;obtain⟨rfl,rfl⟩:=g2 (by omega);subst hkK;refine kQ (hcs) ?_;have hlen:(fmt (pw q k).num).length≤10*(n+k)+2:=zH sk.1;refine DP (lG (ew.of_lt sk.1 (by omega))) rfl rfl rfl rfl rfl rfl rfl ?_;unfold iM dT;generalize fmt (pw q k).num=u at *;refine kW ?_
     refine bh Nat (fun j=>j≤k+1-u.length) (fun j=>⟨[(2, .d (dL [])),(3, .d (dB false)),(7, .d (dN .i64 k)),(8, .d (dL (List.replicate j 48++u)))],[]⟩) (fun j=>k+1-u.length-j) 0 (Nat.zero_le _)
      (weak ⟨rfl,rfl,rfl,rfl,trivial⟩ trivial rfl) ?_
     intro j hj;have hB:(Bs (List.replicate j 48++u)).size=j+u.length:=by rw[au];simp
     refine kI ?_
     iterate 3 refine kO ?_
     by_cases hjk:j+u.length≤k
     ·refine kT ?_
      refine kW ?_;refine aO rfl rfl rfl rfl rfl rfl rfl (ek (a:=[48]) (b:=List.replicate j 48++u) (by simp;omega)) ?_;refine kW ?_;exact⟨j+1,by omega,by omega,weak ⟨rfl,rfl,rfl,rfl,trivial⟩ trivial rfl⟩
     ·refine kE ?_
      obtain rfl:j=k+1-u.length:=by omega
      have hwl:(List.replicate (k+1-u.length) 48++u).length=k+1-u.length+u.length:=by simp
      generalize hwd:List.replicate (k+1-u.length) 48++u=w at *;refine kN ?_;refine aJ (T:=TT) ?_;refine eB (T:=TT) rfl ?_;refine eN ?_;refine kI ?_;refine kO ?_
      by_cases hk0:0<k
      ·rw[if_pos hk0]
       refine kT ?_;refine kN ?_;refine aJ (T:=TT) ?_;refine ib (T:=TT) rfl ?_
       repeat(first|refine aJ (T:=TT) ?_|refine dh (T:=TT) ?_)
       refine ax (T:=TT) rfl ?_
       iterate 4 refine kO ?_
       refine kJ ((w.length-k:Nat)) ?_;refine wP aa (l:=w) (i:=w.length-k) (by omega) rfl rfl rfl rfl rfl rfl rfl rfl ?_;refine aO rfl rfl rfl rfl rfl rfl rfl (ek (a:=w.take (w.length-k)) (b:=[46]) (by simp;omega)) ?_
       iterate 4 refine kO ?_
       refine kJ ((w.length-k:Nat)) ?_;refine iL aa (l:=w) (i:=w.length-k) (by omega) rfl rfl rfl rfl rfl rfl rfl rfl ?_;refine aO rfl rfl rfl rfl rfl rfl rfl (ek (a:=w.take (w.length-k)++[46]) (b:=w.drop (w.length-k)) (by simp;omega)) ?_;generalize hz:w.take (w.length-k)++[46]++w.drop (w.length-k)=z;have hzB:=au z;refine kN ?_;refine kI ?_
       iterate 3 refine kO ?_
       refine fj (v':= .bool (decide (z.length≤40))) rfl rfl rfl rfl ?_ ?_
       ·exact congrArg Value.bool (decide_eq_decide.2 (by omega))
       exact kF
      ·rw[if_neg hk0]
       refine kE ?_;refine kN ?_;refine aJ (T:=TT) ?_;refine eB (T:=TT) rfl ?_;refine kI ?_
       iterate 3 refine kO ?_
       refine fj (v':= .bool (decide (w.length≤40))) rfl rfl rfl rfl ?_ ?_
       ·exact congrArg Value.bool (decide_eq_decide.2 (by omega))
       exact kF
    ·rw[decide_eq_false hd1]at hcs
     refine kQ (hcs) ?_;refine DP (Bn sk (tF (n:=10) (by decide)) (by omega) (q:=pw q (k+1)) rfl) rfl rfl rfl rfl rfl rfl rfl ?_;refine kW ?_
     exact⟨k+1,by
      rcases Nat.lt_or_ge k K with h|h
      ·exact h
      ·obtain rfl:k=K:=by omega
       rcases k3 with⟨e,_⟩| ⟨_,k3,_⟩
       ·omega
       ·exact absurd k3 hd1,by omega,weak ⟨rfl,rfl,rfl,rfl,rfl,rfl,bc (by omega) (by omega),trivial⟩ ⟨rfl,rfl,rfl,rfl,trivial⟩ rfl⟩
   ·refine kE ?_
    obtain⟨rfl,rfl⟩:=g1 (by omega);exact kF
  rcases k3 with⟨e,h0⟩| ⟨e,h1,h2⟩
  ·refine⟨[],?_,fun u h=>by rw[h0]at h;cases h⟩
   rw[h0];exact main _ _ (fun _=>⟨rfl,rfl⟩) (fun h=>by omega)
  ·refine⟨iM K (fmt (pw q K).num),?_,fun u h=>?_⟩
   ·have:(fe q).isSome=decide ((iM K (fmt (pw q K).num)).length≤40):=by
     rw[h2]
     split
     ·rename_i h;simp[h]
     ·rename_i h;simp[h]
    rw[this];exact main _ _ (fun h=>by omega) (fun _=>⟨rfl,rfl⟩)
   ·rw[h2]at h
    split at h
    ·cases h;rfl
    ·cases h
end Go.Proofs.YtikbnnljjeefgaaGreatDoor
namespace Go.Proofs.YtikbnnljjeefgaaGreatDoor
abbrev gS:=Except (Nat × Int) (Ex × List Tk)
inductive Md where
 |sum
 |prod
 |un
 |prim
 |more (two:Bool) (e:Ex)
def iT:Bool→List UInt8→Option B4
 |false,[c]=>if c=43 then some .add else if c=45 then some .sub else none
 |true,[c]=>if c=42 then some .mul else if c=47 then some .div else none
 |_,_=>none
def eF (two:Bool):List Tk→Option (B4 × List Tk)
 |t::r=>if t.1=4 then(match iT two t.2.1 with|some k=>some (k,r)|none=>none)else none
 | []=>none
def a7 (c:UInt8):List Tk→Option (List Tk)
 |t::r=>if t.1=4∧t.2.1=[c]then some r else none
 | []=>none
def CZ:List Tk→Nat
 |t::_=>t.2.2
 | []=>0
noncomputable def eg (t:Tk) (r:List Tk):gS:=match bF t.2.1 with
 |none=> .error (t.2.2,2)
 |some q=>match fe q with
  |none=> .error (t.2.2,3)
  |some _=>match r with
   |u::r'=>if u.1=1 then .ok (.num q u.2.1,r')else .ok (.num q [],r)
   | []=> .ok (.num q [],r)
def d4:Bool→Md
 |false=> .prod
 |true=> .un
noncomputable def pP:Nat→Md→List Tk→Option gS
 |0,_,_=>none
 |f+1, .sum,ts=>match pP f .prod ts with
  |some (.ok (e,r))=>pP f (.more false e) r
  |x=>x
 |f+1, .prod,ts=>match pP f .un ts with
  |some (.ok (e,r))=>pP f (.more true e) r
  |x=>x
 |f+1, .more two e,ts=>match eF two ts with
  |some (k,r)=>match pP f (d4 two) r with
   |some (.ok (e2,r2))=>pP f (.more two (.bin k e e2)) r2
   |x=>x
  |none=>some (.ok (e,ts))
 |f+1, .un,ts=>match a7 45 ts with
  |some r=>match pP f .un r with
   |some (.ok (e,r2))=>some (.ok (.neg e,r2))
   |x=>x
  |none=>pP f .prim ts
 |f+1, .prim,ts=>match a7 40 ts with
  |some r=>match pP f .sum r with
   |some (.ok (e,r2))=>match a7 41 r2 with
    |some r3=>some (.ok (e,r3))
    |none=>some (.error (CZ r2,2))
   |x=>x
  |none=>match ts with
   |t::r=>if t.1=2 then some (eg t r)else if t.1=1 then some (.ok (.nam t.2.1,r))else some (.error (t.2.2,2))
   | []=>some (.error (0,2))
theorem fZ (f:Nat) (ts:List Tk):pP (f+1) .sum ts=match pP f .prod ts with
 |some (.ok (e,r))=>pP f (.more false e) r
 |x=>x:=rfl
theorem eR (f:Nat) (ts:List Tk):pP (f+1) .prod ts=match pP f .un ts with
 |some (.ok (e,r))=>pP f (.more true e) r
 |x=>x:=rfl
theorem cu (f:Nat) (two:Bool) (e:Ex) (ts:List Tk):pP (f+1) (.more two e) ts=match eF two ts with
 |some (k,r)=>match pP f (d4 two) r with
  |some (.ok (e2,r2))=>pP f (.more two (.bin k e e2)) r2
  |x=>x
 |none=>some (.ok (e,ts)):=rfl
theorem gn (f:Nat) (ts:List Tk):pP (f+1) .un ts=match a7 45 ts with
 |some r=>match pP f .un r with
  |some (.ok (e,r2))=>some (.ok (.neg e,r2))
  |x=>x
 |none=>pP f .prim ts:=rfl
theorem dz (f:Nat) (ts:List Tk):pP (f+1) .prim ts=match a7 40 ts with
 |some r=>match pP f .sum r with
  |some (.ok (e,r2))=>match a7 41 r2 with
   |some r3=>some (.ok (e,r3))
   |none=>some (.error (CZ r2,2))
  |x=>x
 |none=>match ts with
  |t::r=>if t.1=2 then some (eg t r)else if t.1=1 then some (.ok (.nam t.2.1,r))else some (.error (t.2.2,2))
  | []=>some (.error (0,2)):=rfl
theorem pp {two:Bool} {ts r:List Tk} {k:B4} (h:eF two ts=some (k,r)):r.length<ts.length:=by
 cases ts with
 |nil=>cases h
 |cons t r'=>
  simp only[eF]at h
  split at h
  ·split at h
   ·cases h;simp
   ·cases h
  ·cases h
theorem fA {c:UInt8} {ts r:List Tk} (h:a7 c ts=some r):r.length<ts.length:=by
 cases ts with
 |nil=>cases h
 |cons t r'=>
  simp only[a7]at h
  split at h
  ·cases h;simp
  ·cases h
theorem wY {t:Tk} {r r2:List Tk} {e:Ex} (h:eg t r= .ok (e,r2)):r2.length≤r.length:=by
 unfold eg at h
 split at h
 ·cases h
 ·split at h
  ·cases h
  ·split at h
   ·split at h
    ·cases h;simp
    ·cases h;exact Nat.le_refl _
   ·cases h;exact Nat.le_refl _
theorem gi:∀(f:Nat) (m:Md) (ts:List Tk) (x:gS),pP f m ts=some x→pP (f+1) m ts=some x
 |0,_,_,_,h=>by cases h
 |f+1, .sum,ts,x,h=>by
  rw[fZ]at h ⊢;cases h1:pP f .prod ts with
  |none=>rw[h1]at h;cases h
  |some y=>
   rw[h1]at h;rw[gi f _ _ _ h1];cases y with
   |error e=>exact h
   |ok y=>exact gi f _ _ _ h
 |f+1, .prod,ts,x,h=>by
  rw[eR]at h ⊢;cases h1:pP f .un ts with
  |none=>rw[h1]at h;cases h
  |some y=>
   rw[h1]at h;rw[gi f _ _ _ h1];cases y with
   |error e=>exact h
   |ok y=>exact gi f _ _ _ h
 |f+1, .more two e,ts,x,h=>by
  rw[cu]at h ⊢;cases h0:eF two ts with
  |none=>rw[h0]at h;exact h
  |some p=>
   obtain⟨k,r⟩:=p;rw[h0]at h;dsimp only at h ⊢;cases h1:pP f (d4 two) r with
   |none=>rw[h1]at h;cases h
   |some y=>
    rw[h1]at h;rw[gi f _ _ _ h1];cases y with
    |error e=>exact h
    |ok y=>exact gi f _ _ _ h
 |f+1, .un,ts,x,h=>by
  rw[gn]at h ⊢;cases h0:a7 45 ts with
  |none=>rw[h0]at h;exact gi f _ _ _ h
  |some r=>
   rw[h0]at h;dsimp only at h ⊢;cases h1:pP f .un r with
   |none=>rw[h1]at h;cases h
   |some y=>
    rw[h1]at h;rw[gi f _ _ _ h1];exact h
 |f+1, .prim,ts,x,h=>by
  rw[dz]at h ⊢;cases h0:a7 40 ts with
  |none=>rw[h0]at h;exact h
  |some r=>
   rw[h0]at h;dsimp only at h ⊢;cases h1:pP f .sum r with
   |none=>rw[h1]at h;cases h
   |some y=>
    rw[h1]at h;rw[gi f _ _ _ h1];exact h
theorem gA {f f':Nat} (hf:f≤f') {m:Md} {ts:List Tk} {x:gS} (h:pP f m ts=some x):pP f' m ts=some x:=by
 induction hf with
 |refl=>exact h
 |step _ ih=>exact gi _ _ _ _ ih
theorem fT:∀(f:Nat) (m:Md) (ts:List Tk) (e:Ex) (r:List Tk),pP f m ts=some (.ok (e,r))→r.length≤ts.length∧((∀two x,m≠ .more two x)→r.length<ts.length)
 |0,_,_,_,_,h=>by cases h
 |f+1, .sum,ts,e,r,h=>by
  rw[fZ]at h
  split at h
  ·rename_i e1 r1 h1
   have a:=(fT f _ _ _ _ h1).2 (fun _ _ h=>by cases h);have b:=(fT f _ _ _ _ h).1;exact⟨by omega,fun _=>by omega⟩
  ·rename_i hn;exact absurd h (hn e r)
 |f+1, .prod,ts,e,r,h=>by
  rw[eR]at h
  split at h
  ·rename_i e1 r1 h1
   have a:=(fT f _ _ _ _ h1).2 (fun _ _ h=>by cases h);have b:=(fT f _ _ _ _ h).1;exact⟨by omega,fun _=>by omega⟩
  ·rename_i hn;exact absurd h (hn e r)
 |f+1, .more two e0,ts,e,r,h=>by
  rw[cu]at h;refine⟨?_,fun hm=>absurd rfl (hm two e0)⟩
  split at h
  ·rename_i k r1 h0
   have hl:=pp h0
   split at h
   ·rename_i e1 r2 h1
    have a:=(fT f _ _ _ _ h1).1;have b:=(fT f _ _ _ _ h).1;omega
   ·rename_i hn;exact absurd h (hn e r)
  ·cases h;exact Nat.le_refl _
 |f+1, .un,ts,e,r,h=>by
  rw[gn]at h
  split at h
  ·rename_i r1 h0
   have hl:=fA h0
   split at h
   ·rename_i e1 r2 h1
    have a:=(fT f _ _ _ _ h1).1;cases h;exact⟨by omega,fun _=>by omega⟩
   ·rename_i hn;exact absurd h (hn e r)
  ·exact⟨(fT f _ _ _ _ h).1,fun _=>(fT f _ _ _ _ h).2 (fun _ _ h=>by cases h)⟩
 |f+1, .prim,ts,e,r,h=>by
  rw[dz]at h
  split at h
  ·rename_i r1 h0
   have hl:=fA h0
   split at h
   ·rename_i e1 r2 h1
    have a:=(fT f _ _ _ _ h1).1
    split at h
    ·rename_i r3 h2
     have b:=fA h2;cases h;exact⟨by omega,fun _=>by omega⟩
    ·cases h
   ·rename_i hn;exact absurd h (hn e r)
  ·split at h
   ·rename_i t r1 _
    split at h
    ·injection h with h
     have:=wY h;exact⟨by simp;omega,fun _=>by simp;omega⟩
    ·split at h
     ·cases h;exact⟨by simp,fun _=>by simp⟩
     ·cases h
   ·cases h
def rk:Md→Nat
 | .sum=>4
 | .prod=>3
 | .un=>2
 | .prim=>1
 | .more _ _=>0
theorem G3:∀(n:Nat) (m:Md) (ts:List Tk),5*ts.length+rk m+1≤n→ ∃x,pP n m ts=some x:=by
 intro n
 induction n using Nat.strongRecOn with
 |_ n ih=>
  intro m ts hn;cases n with
  |zero=>omega
  |succ f=>
   cases m with
   |sum=>
    obtain⟨y,hy⟩:=ih f (by omega) .prod ts (by simp only[rk]at hn ⊢;omega);rw[fZ,hy];cases y with
    |error e=>exact⟨_,rfl⟩
    |ok y=>
     obtain⟨e,r⟩:=y;have:=(fT f _ _ _ _ hy).1;exact ih f (by omega) (.more false e) r (by simp only[rk]at hn ⊢;omega)
   |prod=>
    obtain⟨y,hy⟩:=ih f (by omega) .un ts (by simp only[rk]at hn ⊢;omega);rw[eR,hy];cases y with
    |error e=>exact⟨_,rfl⟩
    |ok y=>
     obtain⟨e,r⟩:=y;have:=(fT f _ _ _ _ hy).1;exact ih f (by omega) (.more true e) r (by simp only[rk]at hn ⊢;omega)
   |un=>
    rw[gn];cases h0:a7 45 ts with
    |none=>exact ih f (by omega) .prim ts (by simp only[rk]at hn ⊢;omega)
    |some r=>
     have hl:=fA h0;obtain⟨y,hy⟩:=ih f (by omega) .un r (by simp only[rk]at hn ⊢;omega);dsimp only;rw[hy];cases y with
     |error e=>exact⟨_,rfl⟩
     |ok y=>exact⟨_,rfl⟩
   |prim=>
    rw[dz];cases h0:a7 40 ts with
    |none=>
     cases ts with
     |nil=>exact⟨_,rfl⟩
     |cons t r=>
      dsimp only
      split
      ·exact⟨_,rfl⟩
      ·split
       ·exact⟨_,rfl⟩
       ·exact⟨_,rfl⟩
    |some r=>
     have hl:=fA h0;obtain⟨y,hy⟩:=ih f (by omega) .sum r (by simp only[rk]at hn ⊢;omega);dsimp only;rw[hy];cases y with
     |error e=>exact⟨_,rfl⟩
     |ok y=>
      obtain⟨e,r2⟩:=y;dsimp only
      split
      ·exact⟨_,rfl⟩
      ·exact⟨_,rfl⟩
   |more two e0=>
    rw[cu];cases h0:eF two ts with
    |none=>exact⟨_,rfl⟩
    |some p=>
     obtain⟨k,r⟩:=p;have hl:=pp h0;dsimp only;obtain⟨y,hy⟩:=ih f (by omega) (d4 two) r (by cases two<;>(simp only[d4,rk]at hn ⊢;omega));rw[hy];cases y with
     |error e=>exact⟨_,rfl⟩
     |ok y=>
      obtain⟨e,r2⟩:=y;have h2:r2.length<r.length:=(fT f _ _ _ _ hy).2 (by cases two<;>(intro _ _ h;cases h))
      exact ih f (by omega) (.more two (.bin k e0 e)) r2 (by simp only[rk]at hn ⊢;omega)
end Go.Proofs.YtikbnnljjeefgaaGreatDoor
namespace Go.Proofs.YtikbnnljjeefgaaGreatDoor
open Go.RowKit
section
variable {P:Program} {T:TypeId→Option Ty} {n:Nat} {ops:Array Oper} {id:Nat} {draw:Bool} {K:AS→Prop} {s:AS} {k:Nat} {o:Oper} {os:List Oper} {fps:List FP}
theorem sL (hT:∀t d,T t=some d→b7 P t d) {t:TypeId} {ty:Ty} {x y:Operand} {et q m i:Nat} {ik:IntKind} {cs:List AV} (hcs:cs.length≤m*q) (hi:i≤m) (h1:gd ops s o=some true) (h2:o.op= .slice t x (some y) none none) (h5:T t=some ty) (h6:ty.elem=some (et,q)) (h7:s.ev x= .d (.leaf (.sl m cs))) (h8:s.ev y= .d (.leaf (.val (.int ik (i:Nat)))))
 (h3:bn n o.dst=true) (h4:jr draw ops (a6 ops o ⟨.d (.leaf (.sl (m-i) (cs.drop (i*q)))),none⟩ []) k fps=true) (h:aH P T n ops id draw K (k+1) os (s.eff o.dst ⟨.d (.leaf (.sl (m-i) (cs.drop (i*q)))),none⟩) (a6 ops o ⟨.d (.leaf (.sl (m-i) (cs.drop (i*q)))),none⟩ []::fps)):aH P T n ops id draw K k (o::os) s fps:=by
 refine .run h1 (.gen fun s2 ht _=>?_) h3 h4 h;have hx:=(bd ht (x:=x) (by simp[h2,Op.operands])).trans h7;have hy:=(bd ht (x:=y) (by simp[h2,Op.operands])).trans h8;obtain⟨u,hu,_,hel,_⟩:=(hT _ _ h5).und;obtain⟨rfl,hks⟩:=hel et q h6;refine av fun n S0 w0 g a w hM=>?_
 have hm:=hM.ev x;rw[hx]at hm;have hm:AV.M (Own S0 g s2) w (.sl m cs) (a.eval x):=hm;have hiv:=bJ hM hy
 have key:∃v,(Instr.sliceAt t (a.eval x) (some (.int ik (i:Nat))) none none).run P w= .ok v w∧AV.M (Own S0 g s2) w (.sl (m-i) (cs.drop (i*q))) v:=by
  generalize a.eval x=v at hm;have hib:(0:Int)≤(i:Int)∧(i:Int)≤(m:Nat):=⟨by omega,by omega⟩
  have run:∀(A:Option Addr) (c:Nat),(Instr.sliceAt t (.slice A m c) (some (.int ik (i:Nat))) none none).run P w= .ok (.slice (if c=i then A else A.map (·.add (i*q))) (m-i) (c-i)) w:=fun A c=>by
   unfold Instr.sliceAt
   simp only[Sem.run_bind,run_underlying hu w,Result.andThen_ok]
   unfold Instr.slice
   simp only[Sem.run_bind,run_underlying hu w,Result.andThen_ok,Instr.sliceBounds,Instr.sliceBound,Sem.run_pure,asIntOf]
   rw[if_pos hib]
   simp only[Sem.run_pure,Result.andThen_ok,Int.toNat_natCast]
   rw[eK hks w];rfl
  cases hm with
  |emp e1 e2 e3=>
   rename_i A c
   refine⟨_,run A c,?_⟩;rw[List.drop_nil];refine .emp (by omega) (by omega) (fun hA=>?_)
   split at hA
   ·rename_i hci;omega
   ·have:A=none:=by cases A<;>simp_all
    have:=e3 this;omega
  |sl f e1 e2 e3 e4 e5 e6=>
   rename_i b off c
   refine⟨_,run _ c,?_⟩
   by_cases hci:c=i
   ·rw[if_pos hci]
    have hd:cs.drop (i*q)=[]:=List.drop_eq_nil_of_le (by rw[show i=m by omega];exact hcs);rw[hd];exact .emp (by omega) (by omega) (fun h=>by cases h)
   ·rw[if_neg hci]
    show AV.M _ _ _ (.slice (some ((⟨b,off,none⟩:Addr).add (i*q))) (m-i) (c-i));rw[fN];refine .sl (fun j=>f (i*q+j)) (by omega) (by omega) e3 e4 (fun j x hj=>?_) (fun j x hj=>?_)
    ·rw[List.getElem?_drop]at hj
     rw[Nat.add_assoc];exact e5 _ _ hj
    ·rw[List.getElem?_drop]at hj
     exact e6 _ _ hj
 obtain⟨v,hr,hv⟩:=key;refine⟨v,w,?_,Below.refl _ _,hv⟩;unfold execOp;rw[h2]
 simp only[hiv,Option.map_some,Option.map_none,Sem.run_bind,hr,Result.andThen_ok]
 rfl
theorem oA {w:World} {t kt et:TypeId} {r:Nat} {es:Array MapEntry} {clk:Nat} {key:ByteArray} {v:Value} (hm:P.underlying t=some (.map kt et)) (hk:P.underlying kt=some .string) (hb:w.heap[r]? =some (.map es clk)) (hf:Instr.findNow .string (.string key) es.toList 0=some none):
 (Instr.mapUpdate t (.map (some r)) (.string key) v).run P w= .ok () { w with heap:=w.heap.setIfInBounds r (.map (es.push { key:= .string key,val:=v,born:=clk }) (clk+1)) }:=by
 have hc:(Instr.checkKey false 10000 kt (.string key)).run P w= .ok () w:=MapKept.run_checkKey hk (by simp[MapKept.IsKey]) false 9999
 simp[Instr.mapUpdate,run_underlying hm,MapKept.run_getObj_map hb,hc,MapKept.run_findKey hk hf,MapKept.run_setObj_map _ hb,Result.andThen]
theorem tL {o1 o2 o3:Oper} {d:Nat} {t kt et:TypeId} {k1 k2:ByteArray} {v1 v2:Value} (hm:P.underlying t=some (.map kt et)) (hk:P.underlying kt=some .string) (h0:draw=false) (h1:o1.op= .makeMap t none) (h2:o2.op= .insert t (.tmp d) (.const (.string k1)) (.const v1)) (h3:o3.op= .insert t (.tmp d) (.const (.string k2)) (.const v2)) (hd:o1.dst=some d) (hg:o1.guard=none∧o2.guard=none∧o3.guard=none) (hd2:o2.dst=none) (hd3:o3.dst=none) (hdn:bn n o1.dst=true) (hne:(k2 == k1)=false)
 (h:aH P T n ops id draw K (k+3) os ⟨(d, .mp [(.string k1,v1),(.string k2,v2)])::s.t,s.b⟩ fps):aH P T n ops id draw K k (o1::o2::o3::os) s fps:=by
 refine .snd3 h0 hg (fun S0 w0 g a w K' Q hM hK=>?_) h;have hdl:d<n:=fh hdn d hd
 generalize hr:w.heap.size=r
 have hev:((a.put (some d) (.map (some r))).eval (.tmp d))= .map (some r):=by
  have:d<a.tmps.size:=by rw[hM.sz];exact hdl
  simp[Act.eval,Act.put,this]
 have b1:(w.alloc (.map #[] 0)).heap[r]? =some (.map #[] 0):=by rw[← hr];exact heap_alloc_new w _
 have r1:=oA (P:=P) (w:=w.alloc (.map #[] 0)) (key:=k1) (v:=v1) hm hk b1 rfl;generalize he1:({ key:= .string k1,val:=v1,born:=0 }:MapEntry)=e1 at r1;have hk1:e1.key= .string k1:=by rw[← he1]
 have hv1:e1.val=v1:=by rw[← he1]
 generalize hw2:({ (w.alloc (.map #[] 0))with heap:=(w.alloc (.map #[] 0)).heap.setIfInBounds r (.map (#[].push e1) (0+1)) }:World)=w2 at r1
 have b2:w2.heap[r]? =some (.map #[e1] 1):=by
  rw[← hw2];have:r<(w.alloc (.map #[] 0)).heap.size:=(Array.getElem?_eq_some_iff.1 b1).1
  show(Array.setIfInBounds _ r _)[r]? =_;rw[Array.getElem?_setIfInBounds,if_pos rfl,if_pos this];rfl
 have r2:=oA (P:=P) (w:=w2) (key:=k2) (v:=v2) hm hk b2 (by simp[Instr.findNow,Instr.sameNow,hk1,hne]);generalize he2:({ key:= .string k2,val:=v2,born:=1 }:MapEntry)=e2 at r2;have hk2:e2.key= .string k2:=by rw[← he2]
 have hv2:e2.val=v2:=by rw[← he2]
 have hfin:({ w2 with heap:=w2.heap.setIfInBounds r (.map (#[e1].push e2) (1+1)) }:World)=w.alloc (.map #[e1,e2] 2):=by
  have hA:∀o:Obj,w.alloc o={ w with heap:=w.heap.push o }:=fun _=>rfl
  rw[← hw2,← hr,hA,hA];show({ w with heap:=Array.setIfInBounds (Array.setIfInBounds (w.heap.push _) w.heap.size _) w.heap.size _ }:World)={ w with heap:=w.heap.push _ }
  congr 1
  apply Array.ext_getElem?
  intro i
  simp only[Array.getElem?_setIfInBounds,Array.getElem?_push,Array.size_setIfInBounds,Array.size_push]
  by_cases hi:i=w.heap.size
  ·subst hi;simp
  ·have:¬w.heap.size=i:=fun e=>hi e.symm
   simp[this,hi]
 have q1:(execOp a.eval o1).run P w= .ok (.value (.map (some r))) (w.alloc (.map #[] 0)):=by
  unfold execOp;rw[h1,← hr];rfl
 generalize ha1:a.put (some d) (.map (some r))=a1 at hev;have hev:a1.tmps.getD d Go.undef= .map (some r):=hev
 have q2:(execOp a1.eval o2).run P (w.alloc (.map #[] 0))= .ok .skip w2:=by
  unfold execOp;rw[h2]
  simp only[Act.eval,hev,Sem.run_bind,r1,Result.andThen_ok,Sem.run_pure]
 have q3:(execOp a1.eval o3).run P w2= .ok .skip (w.alloc (.map #[e1,e2] 2)):=by
  unfold execOp;rw[h3]
  simp only[Act.eval,hev,Sem.run_bind,r2,hfin,Result.andThen_ok,Sem.run_pure]
 have fin:MG n S0 w0 g ⟨(d, .mp [(.string k1,v1),(.string k2,v2)])::s.t,s.b⟩ a1 (w.alloc (.map #[e1,e2] 2)):=by
  rw[← ha1];refine hM.put hdl ((Below.refl _ _).alloc (Nat.le_refl _) _) ⟨r,#[e1,e2],2,rfl,by rw[← hr];exact heap_alloc_new w _,fun hS=>?_,by simp[hk1,hv1,hk2,hv2]⟩;have:=hM.own_lt hS;omega
 unfold Oper.wp;rw[q1,Oper.upon_value,hd,ha1];show o2.upon P a1 _ Q ((execOp a1.eval o2).run P (w.alloc (.map #[] 0)));rw[q2,Oper.upon_skip,hd2];show o3.upon P a1 _ Q ((execOp a1.eval o3).run P w2);rw[q3,Oper.upon_skip,hd3];exact hK g _ _ fin
def Iu (k:ByteArray):List (Value × Value)→Option Value
 | []=>none
 |(.string a,v)::r=>match k == a with
  |true=>some v
  |false=>Iu k r
 |_::_=>none
theorem oy {k:ByteArray} {v:Value}:∀(l:List MapEntry) (i:Nat),Iu k (l.map fun e=>(e.key,e.val))=some v→ ∃j,Instr.findNow .string (.string k) l i=some (some (j,v))
 | [],_,h=>by cases h
 |e::r,i,h=>by
  simp only[List.map_cons]at h
  cases hk:e.key<;>rw[hk]at h<;>try(cases h)
  rename_i a
  simp only[Iu]at h
  simp only[Instr.findNow,hk,Instr.sameNow]
  cases hb:k == a
  ·rw[hb]at h
   exact oy r (i+1) h
  ·rw[hb]at h
   cases h;exact⟨i,rfl⟩
theorem u3 {t kt et:TypeId} {x y:Operand} {es:List (Value × Value)} {key:ByteArray} {v:Value} (hm:P.underlying t=some (.map kt et)) (hk:P.underlying kt=some .string) (hl:Iu key es=some v) (hp:v.oneCell'=true) (h1:gd ops s o=some true) (h2:o.op= .lookup t x y false) (h7:s.ev x= .mp es) (h8:s.ev y= .d (.leaf (.val (.string key))))
 (h3:bn n o.dst=true) (h4:jr draw ops (a6 ops o ⟨.d (.leaf (.val v)),none⟩ []) k fps=true) (h:aH P T n ops id draw K (k+1) os (s.eff o.dst ⟨.d (.leaf (.val v)),none⟩) (a6 ops o ⟨.d (.leaf (.val v)),none⟩ []::fps)):aH P T n ops id draw K k (o::os) s fps:=by
 refine .run h1 (.gen fun s2 ht _=>?_) h3 h4 h;have hx:=(bd ht (x:=x) (by simp[h2,Op.operands])).trans h7;have hy:=(bd ht (x:=y) (by simp[h2,Op.operands])).trans h8;refine av fun n S0 w0 g a w hM=>⟨v,w,?_,Below.refl _ _,AV.M.val hp⟩
 have hmx:=hM.ev x;rw[hx]at hmx;obtain⟨r,ents,clk,e1,e2,_,e4⟩:=hmx;obtain⟨j,hj⟩:=oy ents.toList 0 (by rw[e4];exact hl);have hc:(Instr.checkKey ents.isEmpty 10000 kt (.string key)).run P w= .ok () w:=MapKept.run_checkKey hk (by simp[MapKept.IsKey]) _ 9999;unfold execOp;rw[h2]
 simp[e1,bJ hM hy,Instr.lookup,run_underlying hm,MapKept.run_getObj_map e2,hc,MapKept.run_findKey hk hj,Result.andThen]
def I0 (s:AS):Bool:=vo (s.tv DK)
theorem iG {f:Operand} {fid:FuncId} {args:Array Operand} {ts:Array TypeId} {cs:List CV} (h0:draw=false) (h1:gd ops s o=some true) (ho:o.op= .defer ⟨.value f,args,ts⟩) (hdst:o.dst=none) (hf:s.ev f= .d (.leaf (.val (.func (.func fid) #[] #[])))) (ha:ma s args.toList=some cs) (hd:I0 s=true)
 (h:aH P T n ops id draw K (k+1) os ⟨(DK, .dfr fid cs)::s.t,s.b⟩ (a6 ops o ⟨.junk,none⟩ []::fps)):aH P T n ops id draw K k (o::os) s fps:=by
 refine .snd h0 h1 (fun S0 w0 g a w K' Q hM hK=>?_) h;have hv:=bJ hM hf;have hc:=md hM ha;have e:(List.map a.eval args.toList).toArray=args.map a.eval:=Array.ext' (by simp)
 have hr:(execOp a.eval o).run P w= .ok (.defer ⟨.fn (.func fid) #[],(args.toList.map a.eval).toArray⟩) w:=by
  unfold execOp;rw[ho]
  simp only[resolve,hv,Deferred.ofValue,Sem.run_bind,Sem.run_pure,Result.andThen_ok,e,Array.empty_append]
 unfold Oper.wp;rw[hr,Oper.upon_defer,hdst];refine hK g _ w ⟨fun i=>?_,fun i ci hi=>?_,hM.inj,hM.grow,?_,hM.sz,hM.cl,hM.tg,fun k cs hk=>(hM.gl k cs hk).sameB rfl,hM.gp,hM.nk⟩
 ·by_cases hi:DK=i
  ·subst hi
   have e0:(AS.mk ((DK, .dfr fid cs)::s.t) s.b).tv DK= .dfr fid cs:=by simp[AS.tv,an]
   rw[e0]
   trivial
  ·have e0:(AS.mk ((DK, .dfr fid cs)::s.t) s.b).tv i=s.tv i:=by simp[AS.tv,aA _ _ hi]
   rw[e0];exact(hM.tm i).sameB rfl
 ·obtain⟨h2,h3⟩:=hM.bm i ci hi
  exact⟨h2,h3.sameB rfl⟩
 ·have e0:(AS.mk ((DK, .dfr fid cs)::s.t) s.b).tv DK= .dfr fid cs:=by simp[AS.tv,an]
  rw[e0];refine⟨args.toList.map a.eval,?_,oJ.sameB (s:=s) (s':=⟨(DK, .dfr fid cs)::s.t,s.b⟩) rfl hc⟩;have h2:=(xl.no hd).1 hM.df;show _::a.defers=_;rw[h2]
end
section
variable {P:Program} {T:TypeId→Option Ty}
structure Jh (P:Program) (s:AS) (b':BL) (fid:FuncId) (cs:List CV) (b1:BL) (r1:RT) (b2:BL):Prop where
 dk:s.tv DK= .dfr fid cs
 one:ph cs=true
 body:ir P fid (cs.map Ie) b1 r1 b2
 kn:(Eb (aC b1) ((cs.map Ie).flatMap fP) && uM (aC b1) (aC b1))=true
 bx:rV s (aC b1)
 cl:eQ (b1.map (·.1)) s.b=true
 new:oI s b1 b2=true
 fin:rV ⟨s.t,aC b2++fk b2 b1++s.b⟩ (aC b')
def H5 (P:Program) (T:TypeId→Option Ty) (s:AS) (rs:List ResultVar) (b':BL):Prop:=Ew T s rs (.v (.tup [])) b'∨ ∃fid cs b1 r1 b2,Jh P s b' fid cs b1 r1 b2
theorem CallsD.mono {f:FuncId} {args:Array Value} {u:FrameMode} {w:World} {R R':Ending→FrameMode→World→Prop} (h:CallsD P f args u w R) (hR:∀e u' w',R e u' w'→R' e u' w'):CallsD P f args u w R':=fun c cs hu=>by
 obtain⟨e,u',w',fr,h1,h2⟩:=h c cs hu;exact⟨e,u',w',fr,hR _ _ _ h1,h2⟩
theorem aY (hT:∀t d,T t=some d→b7 P t d) (hmix:P.follows .mixedOrders=true) {f:FuncId} {fn:Func} {c:Code} {ts:List TV} {b b':BL} (hf:P.funcs[f]? =some fn) (hb:fn.body=some c) (hn:(fn.name == "runtime.NumGoroutine")=false) (hsz:(Nat.ble ts.length fn.ntmps && Nat.ble fn.ntmps DK)=true) (hrs:fn.results= #[])
 (hrv:qA b' b=true) (hkn:vO (.v (.tup [])) b'=true) (hlen:fi b b')
 (h:gm P T fn.ntmps c (fun e s=>match e with| .exit _=>False|_=>H5 P T s fn.results.toList b') ⟨q9 0 ts,aC b⟩):aw P f ts b (.v (.tup [])) b':=by
 unfold vO at hkn;rw[Bool.and_eq_true]at hkn hsz;obtain⟨hwfc,_⟩:=hkn;obtain⟨hsz,hnk⟩:=hsz;have hsz:=Nat.le_of_ble_eq_true hsz;have hnk:=Nat.le_of_ble_eq_true hnk
 have hres:∀(t:Array Value) (w:World),(results fn t).run P w= .ok (.tuple #[]) w:=fun t w=>by
  unfold results;rw[hrs]
  simp
 refine⟨fun args w=>?_,fun S g w vs hS hv=>?_⟩
 ·have hn':¬fn.name= "runtime.NumGoroutine" :=by simpa using hn
  simp[callFunc,Sem.run_bind,hf,hn',hb]
 ·refine calls_of_wp_defers hf hb (wp_mono (nw (S0:=S) (w0:=oE g w b) hT hmix c _ _ _ w h (vh hS hv hsz hnk)) fun e a w1 hq=>?_)
  have nil:∀g1 w2,TV.M (Own S g1 (sB b')) g1 (sB b') w2 (RT.v (.tup [])).tv (.tuple #[]):=fun g1 w2=>⟨[],rfl,rfl,fun i x u h1 _=>by simp at h1⟩
  have fin:∀s,H5 P T s fn.results.toList b'→M fn.ntmps S (oE g w b) s a w1→Leaves P fn a.tmps (uP S g b (.v (.tup [])) b' w) a.defers .returning w1:=by
   rintro s (⟨⟨l,h1,_⟩,hwk⟩| ⟨fid,cs,b1,r1,b2,hD⟩) ⟨g1,hm⟩
   ·rw[(xl.no (iW h1)).1 hm.df]
    exact⟨_,hres _ _,xL hrv hwfc hlen hwk hm (nil _ _)⟩
   ·have hdf:=hm.df
    rw[hD.dk]at hdf;obtain⟨us,e1,hcv⟩:=hdf;rw[e1];have hkw:=hD.kn;rw[Bool.and_eq_true]at hkw;obtain⟨S1,hpre,hO,hpost⟩:=hm.callT (b:=b1) (b':=b2) hD.bx hkw.2 (xB hD.cl) (fun j cs hj hn=>sV hD.new (dw.1 hj) hn);have inb:∀j cs,(sB b1).bx j=some cs→s.bx j=some cs:=fun j cs hj=>hD.bx.at (dw.1 hj)
    obtain⟨fn1,c1,hf1,hb1,hw1⟩:=hD.body.body;refine⟨(by simp), .func fid,#[],fid,us.toArray,rfl,?_,?_⟩
    ·have:=hD.body.enter us.toArray w1
     simp only[invoke]
     simpa using this
    ·refine CallsD.mono (callsD_of_wp hf1 hb1 (hw1 S1 g1 w1 us hpre (by rw[hO];exact ug inb (C3 hkw.1) (pO hD.one hcv)))) fun e u' w2 hq=>?_
     obtain⟨rfl,v,g2,rfl,k2,k3,k4,k5,k6⟩:=hq;obtain⟨g3,hm3⟩:=hpost r1 v g2 w2 k2 k3 k4 k5 k6 none (fun d h=>by cases h);exact⟨_,hres _ _,xL hrv hwfc hlen hD.fin hm3 (nil _ _)⟩
  cases e with
  |normal=>obtain⟨s,h1,h2⟩:=hq;exact fin s h1 h2
  |ret=>obtain⟨s,h1,h2⟩:=hq;exact fin s h1 h2
  |exit i=>obtain⟨s,h1,h2⟩:=hq;exact h1.elim
  |goto l=>exact hq.elim
  |panic c=>exact hq.elim
  |outgrown=>exact hq.elim
end
end Go.Proofs.YtikbnnljjeefgaaGreatDoor
namespace Go.Proofs.YtikbnnljjeefgaaGreatDoor
open Go.RowKit
theorem oG (s:List UInt8) (c:UInt8):ab Tryz.prog 151 [dL s,dL [c]] (.one (dB (decide (0≤Lib.indexByte s c)))):=
 ⟨aB Tryz.func151 rfl rfl,fun S w vs hS hv=>by
  match vs,hv with
  | [v,u],⟨h1,h2,_⟩=>
   obtain rfl:=bM h1;obtain rfl:=bM h2;refine(Tryz.strings_Contains_one (Bs s) c w).mono ?_;rintro e w' ⟨rfl,rfl⟩;exact⟨_,rfl,AV.M.val rfl,Below.refl _ _⟩⟩
def gg (ts:List Tk) (a e:Int):List AV:=[.sl ts.length (b6 ts), .val (.int .i64 a), .val (.int .i64 e)]
theorem ct {ts ts':List Tk} {a e a' e':Int}:fi [(900,gg ts a e)] [(900,gg ts' a' e')]:=fi.one (Nat.le_refl 3)
theorem bA (t:Tk) (r:List Tk) (a e:Int):aw Tryz.prog 40 [.box 900 0] [(900,gg (t::r) a e)] (.v (.one (.agg (iv t)))) [(900,gg (t::r) a e)]:=by
 refine ai aa ac Tryz.func40 rfl rfl rfl rfl rfl (ct) ?_;refine kR ?_;refine kI ?_
 iterate 4 refine kO ?_
 refine bf (i:=0) (cs':=iv t) (Nat.zero_lt_succ _) (fun j a h=>by
  rw[Nat.zero_mul,Nat.zero_add];show(iv t++b6 r)[j]? =some a;rw[List.getElem?_append_left (List.getElem?_eq_some_iff.1 h).1];exact h) (Nat.zero_lt_succ 2) rfl rfl rfl rfl rfl rfl rfl rfl ?_
 refine kW ?_;exact⟨⟨_,rfl,rfl⟩,⟨rfl,trivial⟩⟩
theorem fo (t:Tk) (r:List Tk) (a e:Int):aw Tryz.prog 110 [.box 900 0] [(900,gg (t::r) a e)] (.v (.one (.agg (iv t)))) [(900,gg r a e)]:=by
 refine ai aa ac Tryz.func110 rfl rfl rfl rfl rfl (ct) ?_;refine kR ?_;refine kI ?_;refine kO ?_;refine kD (bA t r a e) ?_;refine kG ?_
 iterate 5 refine kO ?_
 refine sL (m:=(t::r).length) (i:=1) (q:=3) aa (by rw[im];exact Nat.le_refl _) (by simp) rfl rfl rfl rfl rfl rfl rfl rfl ?_;refine kW ?_;exact⟨⟨_,rfl,rfl⟩,⟨rfl,trivial⟩⟩
def yc (io:List UInt8) (t:Tk):Bool:=match t.2.1 with
 | [c]=>decide (0≤Lib.indexByte io c)
 |_=>false
theorem pK (io:List UInt8) (t:Tk) (r:List Tk) (a e:Int) (hk:t.1=4→ ∃c,t.2.1=[c]):aw Tryz.prog 109 [.box 900 0, .d (dL io)] [(900,gg (t::r) a e)] (.v (.one (dB (decide (e=0) && (decide (t.1=4) && yc io t))))) [(900,gg (t::r) a e)]:=by
 obtain⟨k,x,p⟩:=t;dsimp only at hk ⊢
 by_cases he:e=0
 ·by_cases h4:k=4
  ·obtain⟨c,rfl⟩:=hk h4
   have hc:=oG io c;rw[decide_eq_true he,decide_eq_true h4,Bool.true_and,Bool.true_and,show yc io (k,[c],p)=decide (0≤Lib.indexByte io c) from rfl];generalize decide (0≤Lib.indexByte io c)=b at *;refine ai aa ac Tryz.func109 rfl rfl rfl rfl rfl (ct) ?_;refine kR ?_;refine kI ?_;refine kO ?_;refine kD (bA (k,[c],p) r a e) ?_;refine kG ?_
   iterate 4 refine kO ?_
   refine kT ?_
   iterate 3 refine kO ?_
   refine kT ?_
   iterate 5 refine kO ?_
   refine kQ (hc) ?_;exact⟨⟨_,rfl,rfl⟩,⟨rfl,trivial⟩⟩
  ·rw[decide_eq_true he,decide_eq_false h4,Bool.true_and,Bool.false_and]
   refine ai aa ac Tryz.func109 rfl rfl rfl rfl rfl (ct) ?_;refine kR ?_;refine kI ?_;refine kO ?_;refine kD (bA (k,x,p) r a e) ?_;refine kG ?_
   iterate 4 refine kO ?_
   refine kT ?_
   iterate 3 refine kO ?_
   refine kY ?_;exact⟨⟨_,rfl,rfl⟩,⟨rfl,trivial⟩⟩
 ·rw[decide_eq_false he,Bool.false_and]
  refine ai aa ac Tryz.func109 rfl rfl rfl rfl rfl (ct) ?_;refine kR ?_;refine kI ?_;refine kO ?_;refine kD (bA (k,x,p) r a e) ?_;refine kG ?_
  iterate 4 refine kO ?_
  refine kB false ?_ ?_
  ·exact decide_eq_false he
  refine kW ?_;exact⟨⟨_,rfl,rfl⟩,⟨rfl,trivial⟩⟩
theorem jc (t:Tk) (r:List Tk) (a c:Int):aw Tryz.prog 41 [.box 900 0, .d (dN .i64 c)] [(900,gg (t::r) a 0)] (.v (.tup [])) [(900,gg (t::r) t.2.2 c)]:=by
 refine ai aa ac Tryz.func41 rfl rfl rfl rfl rfl (ct) ?_;refine kW ?_;refine kD (bA t r a 0) ?_;refine kW ?_;exact⟨⟨_,rfl,rfl⟩,⟨rfl,trivial⟩⟩
theorem oZ (t:Tk) (r:List Tk) (a e c:Int) (he:e≠0):aw Tryz.prog 41 [.box 900 0, .d (dN .i64 c)] [(900,gg (t::r) a e)] (.v (.tup [])) [(900,gg (t::r) a e)]:=by
 refine ai aa ac Tryz.func41 rfl rfl rfl rfl rfl (ct) ?_;refine kI ?_
 iterate 4 refine kO ?_
 refine kB false ?_ ?_
 ·exact decide_eq_false he
 refine kW ?_;exact⟨⟨_,rfl,rfl⟩,⟨rfl,trivial⟩⟩
def cK:List Tk→Prop
 | []=>False
 | [t]=>t.1=0
 |t::u::r=>(t.1≠0∧(t.1=4→ ∃c,t.2.1=[c])∧(t.1=2→t.2.1.length≤500))∧cK (u::r)
theorem cK.head {t:Tk} {r:List Tk} (h:cK (t::r)):(t.1=4→ ∃c,t.2.1=[c])∧(t.1=2→t.2.1.length≤500):=by
 cases r with
 |nil=>have h:t.1=0:=h;exact⟨fun e=>by omega,fun e=>by omega⟩
 |cons u r=>exact h.1.2
theorem cK.tail {t:Tk} {r:List Tk} (h:cK (t::r)) (h0:t.1≠0):cK r:=by
 cases r with
 |nil=>exact absurd h h0
 |cons u r=>exact h.2
theorem cK.ne {ts:List Tk} (h:cK ts):∃t r,ts=t::r:=by
 cases ts with
 |nil=>exact h.elim
 |cons t r=>exact⟨t,r,rfl⟩
def Rd (fid:FuncId) (ts:List Tk) (a:Int):gS→Prop
 | .ok (e,r)=>aw Tryz.prog fid [.box 900 0] [(900,gg ts a 0)] (.v (.one (dE e))) [(900,gg r a 0)]∧cK r
 | .error (p,c)=>c≠0∧ ∃y ts',aw Tryz.prog fid [.box 900 0] [(900,gg ts a 0)] (.v (.one (dR y))) [(900,gg ts' p c)]∧cK ts'
end Go.Proofs.YtikbnnljjeefgaaGreatDoor
namespace Go.Proofs.YtikbnnljjeefgaaGreatDoor
open Go.RowKit
theorem G4 (n:Nat):Lib.repeatL [48] n=List.replicate n 48:=by
 induction n with
 |zero=>rfl
 |succ n ih=>
  simp[Lib.repeatL,List.replicate_succ]at ih ⊢
  exact ih
theorem B6 (z:Int):0<(fmt z).length:=by
 rw[Bw]
 have:0<(lr z.natAbs).length:=by
  unfold lr
  split
  ·simp
  ·rename_i h
   obtain⟨c,r,e,_⟩:=mh h;rw[e]
   simp
 simp
 omega
theorem yn (n:Nat) (hn:n≤1000000):ab Tryz.prog 93 [dL [48],dN .i64 n] (.one (dL (List.replicate n 48))):=
 ⟨aB Tryz.func93 rfl rfl,fun S w vs hS hv=>by
  match vs,hv with
  | [v,u],⟨h1,h2,_⟩=>
   obtain rfl:=bM h1;obtain rfl:=bM h2;refine(Tryz.strings_Repeat (Bs [48]) n w (by omega) (by rw[au];simp;omega)).mono ?_;rintro e w' ⟨rfl,hb⟩;exact⟨_,rfl,by rw[show(Bs [48]).data.toList=[48] from rfl,G4];exact AV.M.val rfl,hb⟩⟩
theorem kH {q:Rat} {n:Nat} (sq:iS n q) (hn:n≤900):∃t,ab Tryz.prog 58 [dQ q] (.tup [dL t,dB (fe q).isSome])∧ ∀u,fe q=some u→t=u:=by
 have cv:ab Tryz.prog 86 [dQ q] (.one (dB true)):=vS q sq (by omega)
 by_cases hneg:BH q<0
 ·have h0:fe q=none:=by rw[fe,if_pos hneg]
  refine⟨[],?_,fun u h=>by rw[h0]at h;cases h⟩;rw[h0];refine kU aa ac Tryz.func58 ?_;refine kW ?_;refine kQ (cv) ?_;refine kC (so q) ?_;refine kB true ?_ ?_
  ·exact decide_eq_true hneg
  exact kF
 ·obtain⟨K,k1,k2,k3⟩:=lP hneg
  have main:∀t b,(40≤K→t=[]∧b=false)→(K<40→t=iM K (fmt (pw q K).num)∧b=decide (t.length≤40))→ab Tryz.prog 58 [dQ q] (.tup [dL t,dB b]):=by
   intro t b g1 g2;refine kU aa ac Tryz.func58 ?_;refine kW ?_;refine kQ (cv) ?_;refine kC (so q) ?_;refine kB false ?_ ?_
   ·exact decide_eq_false hneg
   refine kW ?_;refine DP (tM 10 (by decide) (by decide) (q:=((10:Int):Rat)) rfl) rfl rfl rfl rfl rfl rfl rfl ?_;refine kW ?_;refine DP (fO 1 (by decide) (by decide)) rfl rfl rfl rfl rfl rfl rfl ?_;refine kW ?_
   refine bh Nat (fun k=>k≤K) (fun k=>⟨[(1, .box 0 0),(2, .d (dL [])),(3, .d (dB false)),(4, .box 3001 0),(5, .box 4001 0),(6, .d (dN .i64 k))],[(0,some (aQ (pw q k))),(3001,some (aQ ((10:Int):Rat))),(4001,some (aZ 1))]⟩) (fun k=>41-k) 0 (Nat.zero_le _)
    (weak ⟨rfl,rfl,rfl,rfl,rfl,rfl,trivial⟩ ⟨rfl,rfl,rfl,trivial⟩ rfl) ?_
   intro k hk;have sk:=CA sq k;refine kI ?_;refine kO ?_
   by_cases h40:k<40
   ·refine kT ?_
    refine kG ?_
    iterate 3 refine kO ?_
    have hcs:=Av ((pw q k).den:Int) 1
    by_cases hd1:((pw q k).den:Int)=1
    ·have hkK:k=K:=by
      rcases Nat.lt_or_ge k K with h|h
      ·exact absurd hd1 (k2 k h)
      ·omega
     rw[show bH ((pw q k).den:Int) 1=0 by rw[hd1];exact zL 1]at hcs;obtain⟨rfl,rfl⟩:=g2 (by omega);subst hkK;refine kQ (hcs) ?_;have hlen:(fmt (pw q k).num).length≤10*(n+k)+2:=zH sk.1;refine DP (uJ (Nat.le_trans sk.1.digs (by omega))) rfl rfl rfl rfl rfl rfl rfl ?_;refine kG ?_;refine kO ?_;unfold iM dT;have hpos:0<(fmt (pw q k).num).length:=B6 _
     generalize fmt (pw q k).num=u at *;have hB:=au u
     by_cases hk0:0<k
     ·rw[if_pos hk0]
      refine kT ?_;refine kG ?_
      iterate 4 refine kO ?_
      refine fj (v':= .int .i64 ((k:Int)+1-u.length)) rfl rfl rfl rfl ?_ ?_
      ·exact congrArg (Value.int .i64) (by rw[IntWalk.i64_in ((k:Int)+1) (by omega),IntWalk.i64_in _ (by omega)];omega)
      refine kG ?_;refine kO ?_
      by_cases hp:u.length<k+1
      ·refine kT ?_
       refine kG ?_;refine kO ?_;have cr:=yn (k+1-u.length) (by omega);rw[show(((k+1-u.length:Nat)):Int)=(k:Int)+1-u.length by omega]at cr;refine kC (cr) ?_;refine kO ?_;refine aO rfl rfl rfl rfl rfl rfl rfl (ek (a:=List.replicate (k+1-u.length) 48) (b:=u) (by simp;omega)) ?_;have hwl:(List.replicate (k+1-u.length) 48++u).length=k+1-u.length+u.length:=by simp
       generalize hwd:List.replicate (k+1-u.length) 48++u=w at *;have hwB:=au w;refine kG ?_
       iterate 4 refine kO ?_
       refine kJ ((w.length-k:Nat)) ?_;refine wP aa (l:=w) (i:=w.length-k) (by omega) rfl rfl rfl rfl rfl rfl rfl rfl ?_;refine aO rfl rfl rfl rfl rfl rfl rfl (ek (a:=w.take (w.length-k)) (b:=[46]) (by simp;omega)) ?_
       iterate 4 refine kO ?_
       refine kJ ((w.length-k:Nat)) ?_;refine iL aa (l:=w) (i:=w.length-k) (by omega) rfl rfl rfl rfl rfl rfl rfl rfl ?_;refine aO rfl rfl rfl rfl rfl rfl rfl (ek (a:=w.take (w.length-k)++[46]) (b:=w.drop (w.length-k)) (by simp;omega)) ?_;generalize hz:w.take (w.length-k)++[46]++w.drop (w.length-k)=z;have hzB:=au z;refine kG ?_
       iterate 3 refine kO ?_
       refine fj (v':= .bool (decide (z.length≤40))) rfl rfl rfl rfl ?_ ?_
       ·exact congrArg Value.bool (decide_eq_decide.2 (by omega))
       exact kF
      ·refine kE ?_
       rw[show k+1-u.length=0 by omega,List.replicate_zero,List.nil_append];have hwl:u.length=u.length:=rfl;generalize hwd:u=w at *;refine kG ?_
       iterate 4 refine kO ?_
       refine kJ ((w.length-k:Nat)) ?_;refine wP aa (l:=w) (i:=w.length-k) (by omega) rfl rfl rfl rfl rfl rfl rfl rfl ?_;refine aO rfl rfl rfl rfl rfl rfl rfl (ek (a:=w.take (w.length-k)) (b:=[46]) (by simp;omega)) ?_
       iterate 4 refine kO ?_
       refine kJ ((w.length-k:Nat)) ?_;refine iL aa (l:=w) (i:=w.length-k) (by omega) rfl rfl rfl rfl rfl rfl rfl rfl ?_;refine aO rfl rfl rfl rfl rfl rfl rfl (ek (a:=w.take (w.length-k)++[46]) (b:=w.drop (w.length-k)) (by simp;omega)) ?_;generalize hz:w.take (w.length-k)++[46]++w.drop (w.length-k)=z;have hzB:=au z;refine kG ?_
       iterate 3 refine kO ?_
       refine fj (v':= .bool (decide (z.length≤40))) rfl rfl rfl rfl ?_ ?_
       ·exact congrArg Value.bool (decide_eq_decide.2 (by omega))
       exact kF
     ·obtain rfl:k=0:=by omega
      rw[if_neg hk0];have hu1:0+1-u.length=0:=by omega
      rw[hu1,List.replicate_zero,List.nil_append];refine kE ?_;refine kG ?_
      iterate 3 refine kO ?_
      refine fj (v':= .bool (decide (u.length≤40))) rfl rfl rfl rfl ?_ ?_
      ·exact congrArg Value.bool (decide_eq_decide.2 (by omega))
      exact kF
    ·have hne:bH ((pw q k).den:Int) 1≠0:=by
      rcases Int.lt_trichotomy ((pw q k).den:Int) 1 with h|h|h
      ·rw[fm h];decide
      ·exact absurd h hd1
      ·rw[jm h];decide
     refine kC (hcs) ?_;refine kB true ?_ ?_
     ·exact(by simpa using hne)
     refine kW ?_;refine DP (Dy sk (tF (n:=10) (by decide)) (by omega) (q:=pw q (k+1)) rfl) rfl rfl rfl rfl rfl rfl rfl ?_;refine kW ?_
     exact⟨k+1,by
      rcases Nat.lt_or_ge k K with h|h
      ·exact h
      ·obtain rfl:k=K:=by omega
       rcases k3 with⟨e,_⟩| ⟨_,k3,_⟩
       ·omega
       ·exact absurd k3 hd1,by omega,weak ⟨rfl,rfl,rfl,rfl,rfl,bc (by omega) (by omega),trivial⟩ ⟨rfl,rfl,rfl,trivial⟩ rfl⟩
   ·refine kE ?_
    obtain⟨rfl,rfl⟩:=g1 (by omega);exact kF
  rcases k3 with⟨e,h0⟩| ⟨e,h1,h2⟩
  ·refine⟨[],?_,fun u h=>by rw[h0]at h;cases h⟩
   rw[h0];exact main _ _ (fun _=>⟨rfl,rfl⟩) (fun h=>by omega)
  ·by_cases h40:K=40
   ·have h0:fe q=none:=by
     rw[h2,if_neg];have:=DU K (fmt (pw q K).num) (by omega);omega
    refine⟨[],?_,fun u h=>by rw[h0]at h;cases h⟩;rw[h0];exact main _ _ (fun _=>⟨rfl,rfl⟩) (fun h=>by omega)
   ·refine⟨iM K (fmt (pw q K).num),?_,fun u h=>?_⟩
    ·have:(fe q).isSome=decide ((iM K (fmt (pw q K).num)).length≤40):=by
      rw[h2]
      split
      ·rename_i h;simp[h]
      ·rename_i h;simp[h]
     rw[this];exact main _ _ (fun h=>by omega) (fun _=>⟨rfl,rfl⟩)
    ·rw[h2]at h
     split at h
     ·cases h;rfl
     ·cases h
end Go.Proofs.YtikbnnljjeefgaaGreatDoor
