/- Parts of a proof: contracts of the functions that the laws reach. -/
import Derived.Test.YtnchbpoopnjghaaGreatDoorRBackM
import Derived.Test.YtnchbpoopnjghaaGreatDoorRZ1
import Derived.Test.YtnchbpoopnjghaaGreatDoorRHmG
set_option maxHeartbeats 100000000
set_option linter.all false
open Go.Proofs.Tryz
namespace Go.Proofs.YtnchbpoopnjghaaGreatDoor
open Go.RowKit
section
open Go.RowKit Go.Shelf
attribute [local go_sem] Oper.semAt_some
set_option maxRecDepth 100000 in
def F2(A:Option Addr)(n c:Nat)(f:List Nat)(w:World)(l:a7 w A n c f)(h0:0<n)(F:n<=4294967296):
 Calls prog 236 #[.slice A n c] w fun e w'=>∃i,e= .returned i/\w'.ownsRow w.heap.size 135 1 i n (f.map bP)/\Below w.heap.size w w':=by
 obtain⟨E,r,m,d,p⟩:=info_parts Tryz.infoU32;rcases l.cells with t| ⟨b,q,e,z⟩
 ·have:=l.len;have v:f=[]:=by simpa using t
  rw[v]at this;simp at this;omega
 ·cases e
  ·refine(Tryz.slices_Clone E (.int .u32 0) 1 4 r m d p rfl D_ (fun w=>by first|exact sizeOf135 w|exact b5 (by rw[r];exact congrArg some d) w) b q n c (f.map bP) w (by simp[l.len]) (by unfold maxLen;omega) O_ (fun j u a=>?_) (fun u D=>?_)).mono ?_
   ·rw[List.getElem?_map]at a;cases hxj:f[j]? with
    |none=>rw[hxj]at a;cases a
    |some x=>rw[hxj]at a;simp only[Option.map_some,X_]at a;subst a;have B:=(G_.1 hxj).1;have:=z j (bP x) (by rw[List.getElem?_map,hxj];rfl);exact this
   ·obtain⟨x,_,rfl⟩:=List.mem_map.1 D;rfl
   ·rintro e w' ⟨i,rfl,C,_,y⟩;exact⟨i,rfl,C,y⟩
def jG{w w':World}{B g k:Nat}{e:TypeId}{v:Value}{n:Nat}{xs:List Value}(h:w.ownsRow B e k v n xs)(l:∀b,b≠g->w'.heap[b]? =w.heap[b]?)(d:v.ownBlock≠some g):w'.ownsRow B e k v n xs:=by refine⟨h.1,h.2.imp id ?_⟩;rintro⟨g',a,c,rfl,f,i,j⟩;exact⟨g',a,c,rfl,f,by rw[l g' (fun e=>d (by rw[<- e];rfl))];exact i,j⟩
def Jj{d b a x V U:Nat}(h:V*1000000000+a=U)(c:(a*4294967296+x)/1000000000=d)(e:(a*4294967296+x)%1000000000=b):(d+4294967296*V)*1000000000+b=x+4294967296*U:=by have:=Nat.div_add_mod (a*4294967296+x) 1000000000;rw[c,e]at this;subst h;rw[Nat.add_mul,Nat.mul_add,Nat.mul_comm d,Nat.mul_assoc];generalize V*1000000000=W;omega
def BW(len:Nat)(p:Nat × Nat):List UInt8:=if(p.1:Int)<(len:Int)-1 then ut (p.2%1000000000)else dd (p.2%1000000000)
def p7(len:Nat)(l:List (Nat × Nat)):List UInt8:=l.flatMap (BW len)
def vA(len:Nat)(l:List (Nat × Nat))(p:Nat × Nat):p7 len (l++[p])=p7 len l++BW len p:=by unfold p7;simp
def rE(n:Nat):n%1000000000<1000000000:=Nat.mod_lt _ D_
def GN{c:Nat}(h:c<1000000000):(ut c).length=9:=by have:=(wX h).2;unfold ut;simp;omega
def Ls(len:Nat)(p:Nat × Nat):(BW len p).length<=9:=by
 unfold BW;split
 ·exact Nat.le_of_eq (GN (rE _))
 ·exact(wX (rE _)).2
def yE(len:Nat)(l:List (Nat × Nat)):(p7 len l).length<=9*l.length:=by
 induction l with
 |nil=>simp[p7]
 |cons p l a=>have e:p7 len (p::l)=BW len p++p7 len l:=rfl;have:=Ls len p;rw[e,L_,List.length_cons];omega
def vc{xs:List Nat}(e:∀x∈xs,x<1000000000)(d:xs≠[]):p7 xs.length (upto (du xs) xs.length)=Sg xs.reverse:=by
 obtain⟨m,a⟩:∃m,xs.length=m+1:=⟨xs.length-1,by have:=List.length_pos_iff.2 d;omega⟩;have l:xs.reverse=xs.getD m 0::(List.range m).map fun j=>xs.getD (m-1-j) 0:=by
  apply List.ext_getElem
  ·simp[a]
  ·intro i p r;rw[List.getElem_reverse];have f:i<m+1:=by simpa[a]using p
   match i,f with
   |0,_=>simp[H_,a]
   |i+1,f=>simp only[List.getElem_cons_succ,List.getElem_map,List.getElem_range,H_];rw[Q_ O_];simp only[Option.getD_some];congr 1;omega
 rw[l];unfold upto p7;rw[a,List.range_succ_eq_map,List.map_cons,List.flatMap_cons,List.map_map];have e0:BW (m+1) (du xs 0)=dd (xs.getD m 0):=by unfold BW du;dsimp only;rw[if_neg O_,a,Nat.mod_eq_of_lt (xo D_ e _)];rfl
 rw[e0];show _=dd _++((List.range m).map _).flatMap ut;congr 1;rw[List.flatMap_map,List.flatMap_map];have b:∀j∈List.range m,BW (m+1) (du xs (j+1))=ut (xs.getD (m-1-j) 0):=by intro j c;have c:=List.mem_range.1 c;unfold BW du;dsimp only;rw[if_pos O_,Nat.mod_eq_of_lt (xo D_ e _)];congr 2;omega
 clear e0 l;revert b;generalize List.range m=R;intro b;induction R with
 |nil=>rfl
 |cons j R q=>rw[List.flatMap_cons,List.flatMap_cons,q (fun j c=>b j (by simp[c]))];congr 1;exact b j S_
def fq{T e:TypeId}{B b:Nat}{d:List Value}{W i:World}(h:Lib.IsBuilderF T e B b d W)(q:∀(k:Nat)c t f,W.heap[k]? =some (Obj.cells c t f)->i.heap[k]? =some (Obj.cells c t f)):Lib.IsBuilderF T e B b d i:=by
 have a:∀p,Lib.BuilderAtF T e B b p d W->Lib.BuilderAtF T e B b p d i:=by rintro p ⟨C,v,D,r,m⟩;refine⟨C,v,q _ _ _ _ D,⟨r.1,r.2.imp id ?_⟩,m⟩;rintro⟨g,j,l,u,x,y,z,A⟩;exact⟨g,j,l,u,x,y,q _ _ _ _ z,A⟩
 exact h.imp (a _) (a _)
def dD{W a:World}(h:Below W.heap.size W a):∀(k:Nat)c t f,W.heap[k]? =some (Obj.cells c t f)->a.heap[k]? =some (Obj.cells c t f):=fun k _ _ _ b=>(h.block k (A_.1 b).1).trans b
def DO{T e:TypeId}{N B b:Nat}{f:List (Nat × Nat)->List Value}:OwnFrom N (fun pre W=>Lib.IsBuilderF T e B b (f pre) W):=by
 intro s W q p m j l;refine fq m fun k c t r a=>?_;rw[j.block k (A_.1 a).1 (fun e=>?_)]
 ·exact a
 ·obtain⟨_,o,d,i⟩:=l k e.symm;rw[a]at d;cases d;cases i
def vS{β:Type}(N g:Nat)(cs:Array Value)(t:TypeId):OwnFrom N (fun(_:β)W=>W.heap[g]? =some (Obj.cells cs t (0,0))):=by
 intro s W c j a f i;show c.heap[g]? =_;rw[f.block g (A_.1 a).1 (fun e=>?_)]
 ·exact a
 ·obtain⟨_,o,b,d⟩:=i g e.symm;rw[a]at b;cases b;cases d
def nP{W a:World}(h:Below W.heap.size W a):KeepsOthers W a:=⟨h.size,fun k _ b _=>(h.block k (A_.1 b).1).trans b⟩
def lF{T e:TypeId}{B b:Nat}{i:List Value}{W f:World}(d:Lib.IsBuilderF T e B b i W)(m:W.heap.size<=f.heap.size)(h:Lib.OthersKept e (some b) W f):KeepsOthers W f:=by
 refine⟨m,fun k o j l=>h k o j (fun e0=>?_) (fun c q e0=>by subst e0;cases l)⟩;cases e0;have a:∀p,Lib.BuilderAtF T e B b p i W->False:=by rintro p ⟨_,v,d,_⟩;rw[j]at d;cases d;cases l
 exact d.elim (a _) (a _)
def lO{e t:TypeId}{N b Bs:Nat}{v:Value}{W a:World}(i:Below N W a)(f:W.heap[Bs]? =some (Obj.cells #[v] t (0,0)))(j:t≠e)(d:Bs≠b)(h:Lib.OthersKept e (some b) W a):KB N Bs W a:=
 ⟨i,(h Bs _ f (fun e0=>d (Option.some.inj e0)) (fun c l e0=>j (by cases e0;rfl))).trans f.symm⟩
def gX(l m:List UInt8):Lib.byteCells l++Lib.strCells ⟨m.toArray⟩=Lib.byteCells (l++m):=by rw[Lib.strCells_toArray];simp[Lib.byteCells]
def zW(l:List UInt8):(ByteArray.mk l.toArray).size=l.length:=an l
def Sy(q:Nat):Lib.repeatL [48] q=List.replicate q 48:=by
 induction q with
 |zero=>rfl
 |succ q a=>rw[Lib.repeatL,a];rfl
def CN{cc m:Nat}(a:1<=(dd cc).length/\(dd cc).length<=9)(c:m=(dd cc).length)(W:World):Calls prog 178 #[.string ⟨#[48]⟩, .int .i64 ((9:Int)-(m:Int))] W fun e w'=>e= .returned (.string ⟨(List.replicate (9-(dd cc).length) (48:UInt8)).toArray⟩)/\Below W.heap.size W w':=by have h:=Tryz.strings_Repeat ⟨#[48]⟩ (9-(dd cc).length) W O_ (by show 1*_<=_;omega);rw[show((9-(dd cc).length:Nat):Int)=(9:Int)-(m:Int) by omega]at h;refine h.mono ?_;rintro e w' ⟨rfl,b⟩;exact⟨by rw[show((⟨#[48]⟩:ByteArray).data.toList)=[48] from rfl,Sy],b⟩
def F3{xs:List Nat}(h:val xs≠0):[]++ka (val xs)=fmt (bv false xs):=by have e:bv false xs=(val xs:Int):=rfl;rw[e];unfold fmt;rw[if_neg O_,if_neg O_,b_]
def I9{xs:List Nat}(h:val xs≠0):[45]++ka (val xs)=fmt (bv true xs):=by have e:bv true xs= -(val xs:Int):=rfl;rw[e];unfold fmt;rw[if_neg O_,if_pos O_,Int.natAbs_neg,b_]
def wu:Value->World->Nat
 | .slice (some a) n _,w=>val ((List.range n).map fun i=>match w.cell? ⟨a.block,a.off+i,none⟩with|some (.int _ k)=>k.toNat|_=>0)
 |_,_=>0
def tQ{w:World}{B g cap:Nat}{e:TypeId}{a:List Nat}(h:w.ownsRow B e 1 (.slice (some ⟨g,0,none⟩) a.length cap) a.length (a.map bP)):wu (.slice (some ⟨g,0,none⟩) a.length cap) w=val a:=by
 show val _=_;congr 1;apply List.ext_getElem
 ·simp
 ·intro i f d;have c:=h.cells (g:=g) rfl i (bP a[i]) (by simp[d]);have b:(⟨g,0,none⟩:Addr).add i=⟨g,i,none⟩:=by unfold Addr.add;split <;>simp_all
  rw[b]at c;simp[c,bP]
def Kp{w:World}{B g n k cap:Nat}{e:TypeId}{xs:List Value}(h:w.ownsRow B e 1 (.slice (some ⟨g,0,none⟩) n cap) n xs)(p:k<=n):w.ownsRow B e 1 (.slice (some ⟨g,0,none⟩) k cap) k (xs.take k):=by
 have q:=h.1;refine⟨by simp;omega, .inr ?_⟩;rcases h.2 with⟨b,_⟩| ⟨g',c,a,b,d,f,m,i,j,l⟩
 ·cases b
 ·cases b;refine⟨g,cap,a,rfl,d,f,by omega,i,j,?_⟩;rw[<- l,List.take_take];congr 1;omega
set_option maxRecDepth 100000 in
def Gf(v:Value)(na:Bool)(J:List Nat)(w:World)(h:IJ w v na J)(hl:J.length<=1000)(ck:lX w):
 CallsIn Fence.wide 4 prog 177 #[v] w fun e w'=>e= .returned (.string (Bs (fmt (bv na J))))/\Below w.heap.size w w':=by
 obtain⟨A,n,c,rfl,hx⟩:=h;have a5:Fence.wide.round=none:=rfl;have e8:=hx.cap;have dc:=hx.lim;have b0:=gk A n c J;have Hx:=Lib.hid hx;have Htrim:=Lib.hid b0;have Htab:=Lib.hid ck;clear hx ck b0;refine callsIn_of_wp_marks func177 rfl trivial ?_ a5;simp only[ntmps177,List.size_toArray,List.length_cons,List.length_nil,Nat.reduceAdd,Nat.reduceSub,Array.replicate_succ,Array.replicate_zero,List.push_toArray,List.append_toArray,List.nil_append,List.cons_append];by_cases ht:trim J=[]
 ·have be:val J=0:=by rw[<- c6,ht];rfl
  have hz:fmt (bv na J)=[48]:=by
   have:bv na J=0:=by unfold bv;rw[be];cases na<;>rfl
   rw[this];rfl
  rw[hz];rw[ht]at Htrim;have b1:a7 w A 0 c []:=⟨rfl,Nat.zero_le _,dc,Wd.nil, .nil _ _,Hx.out.isnil⟩;have Hcl:=Lib.hid (oS A 0 c [] (w.alloc (.cells #[.bool na, .slice A n c] 36)) (b1.alloc _) D_);clear b1 hz be
  gi_wp2_with (first|(refine⟨trivial,?_⟩;gi_at_call 194;refine(callsIn_wide.2 (Htrim.out _ (Hx.out.alloc _))).mono ?_;rintro e w' ⟨rfl,rfl⟩)|(refine⟨trivial,?_⟩;gi_at_call 236;refine(callsIn_wide.2 Hcl.out).mono ?_;rintro e w' ⟨A',n',c',E,rfl,e5,rfl,C⟩;obtain rfl:=e5.len))
  refine⟨_,results_tmp rfl _ _ _,rfl,?_⟩;exact((Below.refl _ w).alloc (l_ _) _).trans (C.mono S_)
 ·have cj:0<(trim J).length:=List.length_pos_iff.2 ht;have b1:a7 w A (trim J).length c (trim J):=Hx.out.trim;have e3:(trim J).length<=1000:=by have:=bJ Hx.out.wd;omega
  have Hcl:=Lib.hid (F2 A (trim J).length c (trim J) (w.alloc (.cells #[.bool na, .slice A n c] 36)) (b1.alloc _) cj O_);clear b1;have Hpos:=Lib.hid cj;have ef:((trim J).length:Int)≠0:=O_
  gi_wp2_with (first|(refine⟨trivial,?_⟩;gi_at_call 194;refine(callsIn_wide.2 (Htrim.out _ (Hx.out.alloc _))).mono ?_;rintro e w' ⟨rfl,rfl⟩)|(refine⟨trivial,?_⟩;gi_at_call 236;refine(callsIn_wide.2 Hcl.out).mono ?_;rintro e w' ⟨v',rfl,bq,C⟩;obtain⟨g,O,e9,rfl,cb,cz,cU,cA,cV,cW⟩:=bq.2.resolve_left (by rintro⟨_,h0⟩;omega)))
  simp only[show(((trim J).length:Int) == 0)=false from beq_eq_false_iff_ne.2 ef]
  gi_loopw [3] (fun m wr=>∃(t f:List Nat)(cv:Value),m= .slice (some ⟨g,0,none⟩) t.length O/\wr.ownsRow (w.heap.size+1) 135 1 m t.length (t.map bP)/\t=digs (val t)/\t.length<=1000/\f++ch (val t)=ch (val J) /\
   wr.heap[w'.heap.size]? =some (.cells #[cv] 34 (0,0))/\wr.ownsRow (w'.heap.size+1) 135 1 cv f.length (f.map bP)/\Below (w.heap.size+1) w' wr)
   (fun m wr=>wu m wr)
  case atStart=>rw[World.size_alloc]at bq C cb;have hg:g<w'.heap.size:=(A_.1 cz).1;refine⟨trim J,[], .slice none 0 0,rfl,bq.alloc _,by rw[c6];rfl,e3,by rw[c6];rfl,by rw[heap_alloc_new],World.ownsRow_nil _ _ _ _,(Below.refl _ _).alloc (by have:=C.size;simp at this;omega) _⟩
  case round=>
   obtain⟨t,f,cv,rfl,hm,ds,fb,cS,cT,ca,cR⟩:=hrel;have bb:cv.ownBlock≠some g:=fun e=>by have:=(ca.lt g e).1;have:=(A_.1 cz).1;omega
   have bo:cv.ownBlock≠some w'.heap.size:=fun e=>by have:=(ca.lt _ e).1;omega
   have Hm:=Lib.hid hm;have Hmd:=Lib.hid ds;have Hch:=Lib.hid cS;have Hcv:=Lib.hid cT;have Hcr:=Lib.hid ca;have Hw':=Lib.hid cR;clear hm ds cS cT ca cR;by_cases hz:t.length=0
   ·have e7:¬((t.length:Int) > 0):=O_;have dP:t=[]:=E_ hz;have N:f=ch (val J):=by have:=Hch.out;rw[dP,show val []=0 from rfl,lJ,c_]at this;exact this
    have be:val J≠0:=fun e=>ht (by show digs (val J)=[];rw[e,aG]);have cE:f≠[]:=by rw[N];exact PN be
    have h9:∀x∈f,x<1000000000:=by rw[N];exact SJ _
    have eb:f.length<=2000:=by have h2:=oN Hx.out.wd;rw[N];omega
    have cm:Wd f:=fun x hx=>Nat.lt_trans (h9 x hx) D_;obtain⟨k,q,cP,rfl,fa,ei,em,cD,en,eo⟩:=Hcr.out.2.resolve_left (by rintro⟨_,h0⟩;exact cE (E_ h0));have hW:a7 wr (some ⟨k,0,none⟩) f.length q f:=ia Hcr.out cm em (by unfold maxLen at cD;omega);have ci:wr.cell? ⟨w.heap.size,0,none⟩=some (.bool na):=by
     have y:(w.alloc (.cells #[.bool na, .slice A n c] 36)).cell? ⟨w.heap.size,0,none⟩=some (.bool na):=by rw[Lib.cell_of_heap (heap_alloc_new _ _)];rfl
     rw[World.size_alloc]at C;exact(Hw'.out.cell (p:=⟨w.heap.size,0,none⟩) (m_ _)).trans ((C.cell (p:=⟨w.heap.size,0,none⟩) (m_ _)).trans y)
    have R:wr.cell? ⟨w'.heap.size,0,none⟩=some (.slice (some ⟨k,0,none⟩) f.length q):=by rw[Lib.cell_of_heap Hcv.out];rfl
    have cl:Sg f.reverse=ka (val J):=by rw[N];exact R1 _
    have cn:Below w.heap.size w wr:=by rw[World.size_alloc]at C;exact((Below.refl _ w).alloc (l_ _) _).trans ((C.trans Hw'.out).mono (Nat.le_succ _))
    have cQ:Lib.IsBuilderF 139 5 wr.heap.size wr.heap.size (Lib.byteCells []) (wr.alloc (.cells #[.pointer none, .slice none 0 0] 139)):= .inl ⟨l_ _,_,heap_alloc_new _ _,World.ownsRowF_nil _ _ _ _,by simp[Value.ownBlock]⟩;have Hchs:=Lib.hid N;have Hne:=Lib.hid cE;have H9:=Lib.hid h9;have HW:=Lib.hid hW;have Htxt:=Lib.hid cl;have HBx:=Lib.hid cn;have HB0:=Lib.hid cQ;have Hv0:=Lib.hid be;have Htab':Hid (lX wr):=Lib.hid (Htab.out.mono cn rfl);clear N cE h9 hW cl cn cQ be cm ei en eo dP;have a0:w.heap.size+1<=wr.heap.size:=by have y:=cb;have h2:=(A_.1 Hcv.out).1;rw[World.size_alloc]at y C;have:=C.size;simp at this;omega
    have e4:w.heap.size<wr.heap.size:=O_;have L:=(A_.1 Hcv.out).1;have bp:(wr.alloc (.cells #[.pointer none, .slice none 0 0] 139)).cell? ⟨w.heap.size,0,none⟩=some (.bool na):=by rw[World.cell?_of_block (w:=wr) (a:=⟨w.heap.size,0,none⟩) (Lib.alloc_old wr _ _ e4)];exact ci
    have G:(wr.alloc (.cells #[.pointer none, .slice none 0 0] 139)).cell? ⟨w'.heap.size,0,none⟩=some (.slice (some ⟨k,0,none⟩) f.length q):=by rw[World.cell?_of_block (w:=wr) (a:=⟨w'.heap.size,0,none⟩) (Lib.alloc_old wr _ _ L)];exact R
    have Hchunk:=Lib.hid R;clear ci R;cases na
    ·gi_wp2_with (refine⟨trivial,?_⟩;gi_at_call 238;refine(kK _ _ trivial a5 _ _ _ _).mono ?_;rintro e w5 ⟨rfl,rfl⟩)
     have al:=HB0.out;have ad:Below wr.heap.size wr (wr.alloc (.cells #[.pointer none, .slice none 0 0] 139)):=(Below.refl _ _).alloc (l_ _) _;have Y:wr.heap.size<(wr.alloc (.cells #[.pointer none, .slice none 0 0] 139)).heap.size:=S_;obtain⟨V,hV⟩:∃V,V=(wr.alloc (.cells #[.pointer none, .slice none 0 0] 139)):=⟨_,rfl⟩;rw[<- hV]at al ad Y ⊢;have Q:V.heap.size=(wr.heap.size+1):=by first|rfl|(rw[hV,World.size_alloc])
     clear hV;have cr:=ad.size;have HbV:=Lib.hid al;clear al bp G bb bo cD cV cW cA cU bq Htrim Hcl Hm Hmd Hch Hcr;have bk:Below wr.heap.size wr (V.alloc (.cells #[.slice (some ⟨k,0,none⟩) f.length q] 34)):=ad.alloc cr _;have X:(V.alloc (.cells #[.slice (some ⟨k,0,none⟩) f.length q] 34)).heap[(wr.heap.size+1)]? =some (.cells #[.slice (some ⟨k,0,none⟩) f.length q] 34 (0,0)):=(by rw[<- Q];exact heap_alloc_new _ _);have dn:wr.heap.size<(wr.heap.size+1):=O_;clear Y;refine wpIn_rangeFunc_ownG a5 D_ (gf:=286) (lb:= #[.pointer (some ⟨(wr.heap.size+1),0,none⟩)]) rfl trivial (enters_of func286 (by kernel_rfl) rfl)
      (qB Fence.wide 3 trivial a5 D_ (wr.heap.size+1) (some ⟨k,0,none⟩) f.length q f 1000000000 D_ H9.out wr _ HW.out bk (by rw[World.size_alloc];have:=Q;omega) (by rw[Lib.cell_of_heap X];rfl)) (fun h k=>KB.trans h k) (KB.put (by simp;omega) (by rw[World.size_alloc];have:=Q;omega)) (Below.refl _ _) (fun _=>rfl)
      (fun pre W=>Lib.IsBuilderF 139 5 wr.heap.size wr.heap.size (Lib.byteCells ([]++p7 f.length pre)) W/\Below wr.heap.size wr W/\W.heap[(wr.heap.size+1)]? =some (.cells #[.slice (some ⟨k,0,none⟩) f.length q] 34 (0,0)))
      (fun _ _ _=>False)
      (OwnFrom.and DO (OwnFrom.and (ownFrom_below (l_ _) (by simp;omega)) (vS _ _ _ _)))
      (fun _ _ _ _ _ hs _ _=>hs)
      ⟨fq HbV.out (dD ((Below.refl _ _).alloc (l_ _) _)),bk,X⟩ ?afalse ?assign ?body ?done ?stop
     all_goals clear Q
     case assign=>
      intro l x W K hK
      gi_wp2
      exact hK
     case body=>
      rintro l pre x W ⟨hb,U,a0⟩ df;obtain⟨cc,F⟩:∃cc,cc=x.2%1000000000:=⟨_,rfl⟩;obtain⟨ix,S⟩:∃ix,ix=x.1:=⟨_,rfl⟩;have cy:cc<1000000000:=by rw[F];exact rE _
      have cq:=wX cy;have hL:=yE f.length pre;have bN:=vA f.length pre x;have bs:BW f.length x=if(ix:Int)<(f.length:Int)-1 then ut cc else dd cc:=by rw[F,S];rfl
      rw[<- F,<- S];have a2:=g8 cc O_ W (Htab'.out.mono U rfl).here;rw[fk]at a2;have bm:W.cell? ⟨w'.heap.size,0,none⟩=some (.slice (some ⟨k,0,none⟩) f.length q):=(U.cell (p:=⟨w'.heap.size,0,none⟩) L).trans Hchunk.out;have hwr:IntKind.u64.wrap (cc:Int)=cc:=by rw[IntKind.wrap_u64];omega
      have hWs:=U.size;have eq:(Lib.byteCells ([]++p7 f.length pre)).length<=20000:=by rw[Lib.byteCells_length];simp;omega
      have Hcc:=Lib.hid F;have Hix:=Lib.hid S;have Hsn:=Lib.hid bN;have Hpx:=Lib.hid bs;have Hfu:=Lib.hid a2;have Hb:=Lib.hid hb;have HB:=Lib.hid U;have Hbs:=Lib.hid a0;clear F S bN bs a2 hb U a0;by_cases hp:(ix:Int)<(f.length:Int)-1
      ·have I:BW f.length x=List.replicate (9-(dd cc).length) 48++dd cc:=by rw[Hpx.out,if_pos hp];rfl
       have bx:=fun W=>CN (cc:=cc) cq rfl W;have hsz:(ByteArray.mk (dd cc).toArray).size=(dd cc).length:=an _;have Hpt:=Lib.hid I;clear I
       gi_wp2
       refine⟨trivial,?_⟩
       gi_at_call 239
       refine(CallsIn.inRound l (callsIn_wide.2 Hfu.out)).mono ?_;rintro e w6 ⟨rfl,hb6⟩;have cw:=(hb6.cell (p:=⟨w'.heap.size,0,none⟩) (by dsimp only;omega)).trans bm;have Hb6:=Lib.hid (fq Hb.out (dD hb6));have cI:=hb6.size
       gi_wp2
       refine⟨trivial,?_⟩
       gi_at_call 178
       refine(CallsIn.inRound l (callsIn_wide.2 (bx _))).mono ?_;rintro e w7 ⟨rfl,hb7⟩;have Hb7:=Lib.hid (fq Hb6.out (dD hb7));have eO:=hb7.size
       gi_wp2
       refine⟨trivial,?_⟩
       gi_at_call 103
       refine(CallsIn.inRound l (callsIn_wide.2 (dM wr.heap.size wr.heap.size _ ⟨(List.replicate (9-(dd cc).length) (48:UInt8)).toArray⟩ w7 Hb7.out (by rw[show(ByteArray.mk (List.replicate (9-(dd cc).length) (48:UInt8)).toArray).size=9-(dd cc).length by rw[zW _];simp];omega) O_))).mono ?_;rintro e w8 ⟨rfl,ag,a9,br⟩;rw[gX]at ag;have Hb8:=Lib.hid (show Lib.IsBuilderF 139 5 wr.heap.size wr.heap.size _ w8 from .inr ag);have hs8:=a9.size;have Hw8:=Lib.hid a9;have Ho8:=Lib.hid br;clear ag a9 br
       gi_wp2
       refine⟨trivial,?_⟩
       gi_at_call 103
       refine(CallsIn.inRound l (callsIn_wide.2 (dM wr.heap.size wr.heap.size _ ⟨(dd cc).toArray⟩ w8 Hb8.out (by rw[hsz,Lib.byteCells_length];simp;omega) O_))).mono ?_;rintro e w9 ⟨rfl,z,B,H⟩;rw[gX]at z;have Hb9:=Lib.hid (show Lib.IsBuilderF 139 5 wr.heap.size wr.heap.size _ w9 from .inr z);have hs9:=B.size;have Hw9:=Lib.hid B;have Ho9:=Lib.hid H;clear z B H
       gi_wp2
       have y:KB wr.heap.size (wr.heap.size+1) W w7:=⟨(hb6.mono hWs).trans (hb7.mono O_),(hb7.block _ (by have:=(A_.1 Hbs.out).1;omega)).trans (hb6.block _ (A_.1 Hbs.out).1)⟩;have h2:=lO Hw8.out (y.2.trans Hbs.out) D_ O_ Ho8.out;have h3:=lO Hw9.out ((y.trans h2).2.trans Hbs.out) D_ O_ Ho9.out;refine⟨?_,(y.trans h2).trans h3,?_,?_,((y.trans h2).trans h3).2.trans Hbs.out⟩
       ·exact OR
       ·exact Pm
       ·exact OF
      ·have I:BW f.length x=dd cc:=by rw[Hpx.out,if_neg hp]
       have hsz:(ByteArray.mk (dd cc).toArray).size=(dd cc).length:=an _;have Hpt:=Lib.hid I;clear I
       gi_wp2
       refine⟨trivial,?_⟩
       gi_at_call 239
       refine(CallsIn.inRound l (callsIn_wide.2 Hfu.out)).mono ?_;rintro e w6 ⟨rfl,hb6⟩;have cw:=(hb6.cell (p:=⟨w'.heap.size,0,none⟩) (by dsimp only;omega)).trans bm;have Hb6:=Lib.hid (fq Hb.out (dD hb6));have cI:=hb6.size
       gi_wp2
       refine⟨trivial,?_⟩
       gi_at_call 103
       refine(CallsIn.inRound l (callsIn_wide.2 (dM wr.heap.size wr.heap.size _ ⟨(dd cc).toArray⟩ w6 Hb6.out (by rw[hsz,Lib.byteCells_length];simp;omega) O_))).mono ?_;rintro e w9 ⟨rfl,z,B,H⟩;rw[gX]at z;have Hb9:=Lib.hid (show Lib.IsBuilderF 139 5 wr.heap.size wr.heap.size _ w9 from .inr z);have hs9:=B.size;have Hw9:=Lib.hid B;have Ho9:=Lib.hid H;clear z B H
       gi_wp2
       have y:KB wr.heap.size (wr.heap.size+1) W w6:=⟨hb6.mono hWs,hb6.block _ (A_.1 Hbs.out).1⟩;have h3:=lO Hw9.out (y.2.trans Hbs.out) D_ O_ Ho9.out;refine⟨?_,y.trans h3,?_,?_,(y.trans h3).2.trans Hbs.out⟩
       ·exact((nP hb6).trans (lF Hb6.out hs9 Ho9.out)).from _
       ·have h4:=Hb9.out;rw[e_,<- Hpt.out,<- Hsn.out]at h4;exact h4
       ·exact(HB.out.trans (hb6.mono hWs)).trans Hw9.out
     case done=>
      rintro D ys W hD rfl ⟨hb,U,_⟩ hK;rw[vc H9.out Hne.out,Htxt.out,F3 Hv0.out]at hb;have hWs:=U.size;have cp:w.heap.size<=D:=by rw[World.size_alloc]at hD;omega
      gi_wp2_with (refine⟨trivial,?_⟩;gi_at_call 104;refine(callsIn_wide.2 (Tryz.Builder_String_any_k wr.heap.size wr.heap.size _ W hb hWs)).mono ?_;rintro e w6 ⟨rfl,hb6,b2,cF⟩)
      have bj:=(lF hb b2.size cF).same D _ hK rfl;refine⟨by simp, .inl ⟨_,_,rfl,run_takeDeferred bj,?_⟩⟩;refine⟨_,results_tmp rfl _ _ _,rfl,?_⟩;exact(HBx.out.trans ((U.trans b2).mono O_)).trans (belowK_b (w:=w) (l_ _) w6 D _ _ cp bj rfl rfl)
     case stop=>rintro D c pre W _ _ h _;exact h.elim
    ·gi_wp2_with (first|(refine⟨trivial,?_⟩;gi_at_call 237;refine(callsIn_wide.2 (yo wr.heap.size wr.heap.size (Lib.byteCells []) 45 _ HB0.out (by simp[Lib.byteCells]) S_)).mono ?_;rintro e w4 ⟨rfl,cs,cJ,ew⟩;have ea:w4.cell? ⟨w'.heap.size,0,none⟩=some (.slice (some ⟨k,0,none⟩) f.length q):=(cJ.cell (p:=⟨w'.heap.size,0,none⟩) L).trans G)|(refine⟨trivial,?_⟩;gi_at_call 238;refine(kK _ _ trivial a5 _ _ _ _).mono ?_;rintro e w5 ⟨rfl,rfl⟩))
     have al:Lib.IsBuilderF 139 5 wr.heap.size wr.heap.size (Lib.byteCells [45]) w4:= .inr cs;have ad:Below wr.heap.size wr w4:=((Below.refl _ _).alloc (l_ _) _).trans cJ;have Y:=cs.lt;clear ew cJ cs ea;obtain⟨V,hV⟩:∃V,V=w4:=⟨_,rfl⟩;rw[<- hV]at al ad Y ⊢;have Q:V.heap.size=V.heap.size:=by first|rfl|(rw[hV,World.size_alloc])
     clear hV;have cr:=ad.size;have HbV:=Lib.hid al;clear al bp G bb bo cD cV cW cA cU bq Htrim Hcl Hm Hmd Hch Hcr;have bk:Below wr.heap.size wr (V.alloc (.cells #[.slice (some ⟨k,0,none⟩) f.length q] 34)):=ad.alloc cr _;have X:(V.alloc (.cells #[.slice (some ⟨k,0,none⟩) f.length q] 34)).heap[V.heap.size]? =some (.cells #[.slice (some ⟨k,0,none⟩) f.length q] 34 (0,0)):=(by rw[<- Q];exact heap_alloc_new _ _);have dn:wr.heap.size<V.heap.size:=O_;clear Y;refine wpIn_rangeFunc_ownG a5 D_ (gf:=286) (lb:= #[.pointer (some ⟨V.heap.size,0,none⟩)]) rfl trivial (enters_of func286 (by kernel_rfl) rfl)
      (qB Fence.wide 3 trivial a5 D_ V.heap.size (some ⟨k,0,none⟩) f.length q f 1000000000 D_ H9.out wr _ HW.out bk (by rw[World.size_alloc];have:=Q;omega) (by rw[Lib.cell_of_heap X];rfl)) (fun h k=>KB.trans h k) (KB.put (by simp;omega) (by rw[World.size_alloc];have:=Q;omega)) (Below.refl _ _) (fun _=>rfl)
      (fun pre W=>Lib.IsBuilderF 139 5 wr.heap.size wr.heap.size (Lib.byteCells ([45]++p7 f.length pre)) W/\Below wr.heap.size wr W/\W.heap[V.heap.size]? =some (.cells #[.slice (some ⟨k,0,none⟩) f.length q] 34 (0,0)))
      (fun _ _ _=>False)
      (OwnFrom.and DO (OwnFrom.and (ownFrom_below (l_ _) (by simp;omega)) (vS _ _ _ _)))
      (fun _ _ _ _ _ hs _ _=>hs)
      ⟨fq HbV.out (dD ((Below.refl _ _).alloc (l_ _) _)),bk,X⟩ ?atrue ?assign ?body ?done ?stop
     all_goals clear Q
     case assign=>
      intro l x W K hK
      gi_wp2
      exact hK
     case body=>
      rintro l pre x W ⟨hb,U,a0⟩ df;obtain⟨cc,F⟩:∃cc,cc=x.2%1000000000:=⟨_,rfl⟩;obtain⟨ix,S⟩:∃ix,ix=x.1:=⟨_,rfl⟩;have cy:cc<1000000000:=by rw[F];exact rE _
      have cq:=wX cy;have hL:=yE f.length pre;have bN:=vA f.length pre x;have bs:BW f.length x=if(ix:Int)<(f.length:Int)-1 then ut cc else dd cc:=by rw[F,S];rfl
      rw[<- F,<- S];have a2:=g8 cc O_ W (Htab'.out.mono U rfl).here;rw[fk]at a2;have bm:W.cell? ⟨w'.heap.size,0,none⟩=some (.slice (some ⟨k,0,none⟩) f.length q):=(U.cell (p:=⟨w'.heap.size,0,none⟩) L).trans Hchunk.out;have hwr:IntKind.u64.wrap (cc:Int)=cc:=by rw[IntKind.wrap_u64];omega
      have hWs:=U.size;have eq:(Lib.byteCells ([45]++p7 f.length pre)).length<=20000:=by rw[Lib.byteCells_length];simp;omega
      have Hcc:=Lib.hid F;have Hix:=Lib.hid S;have Hsn:=Lib.hid bN;have Hpx:=Lib.hid bs;have Hfu:=Lib.hid a2;have Hb:=Lib.hid hb;have HB:=Lib.hid U;have Hbs:=Lib.hid a0;clear F S bN bs a2 hb U a0;by_cases hp:(ix:Int)<(f.length:Int)-1
      ·have I:BW f.length x=List.replicate (9-(dd cc).length) 48++dd cc:=by rw[Hpx.out,if_pos hp];rfl
       have bx:=fun W=>CN (cc:=cc) cq rfl W;have hsz:(ByteArray.mk (dd cc).toArray).size=(dd cc).length:=an _;have Hpt:=Lib.hid I;clear I
       gi_wp2
       refine⟨trivial,?_⟩
       gi_at_call 239
       refine(CallsIn.inRound l (callsIn_wide.2 Hfu.out)).mono ?_;rintro e w6 ⟨rfl,hb6⟩;have cw:=(hb6.cell (p:=⟨w'.heap.size,0,none⟩) (by dsimp only;omega)).trans bm;have Hb6:=Lib.hid (fq Hb.out (dD hb6));have cI:=hb6.size
       gi_wp2
       refine⟨trivial,?_⟩
       gi_at_call 178
       refine(CallsIn.inRound l (callsIn_wide.2 (bx _))).mono ?_;rintro e w7 ⟨rfl,hb7⟩;have Hb7:=Lib.hid (fq Hb6.out (dD hb7));have eO:=hb7.size
       gi_wp2
       refine⟨trivial,?_⟩
       gi_at_call 103
       refine(CallsIn.inRound l (callsIn_wide.2 (dM wr.heap.size wr.heap.size _ ⟨(List.replicate (9-(dd cc).length) (48:UInt8)).toArray⟩ w7 Hb7.out (by rw[show(ByteArray.mk (List.replicate (9-(dd cc).length) (48:UInt8)).toArray).size=9-(dd cc).length by rw[zW _];simp];omega) O_))).mono ?_;rintro e w8 ⟨rfl,ag,a9,br⟩;rw[gX]at ag;have Hb8:=Lib.hid (show Lib.IsBuilderF 139 5 wr.heap.size wr.heap.size _ w8 from .inr ag);have hs8:=a9.size;have Hw8:=Lib.hid a9;have Ho8:=Lib.hid br;clear ag a9 br
       gi_wp2
       refine⟨trivial,?_⟩
       gi_at_call 103
       refine(CallsIn.inRound l (callsIn_wide.2 (dM wr.heap.size wr.heap.size _ ⟨(dd cc).toArray⟩ w8 Hb8.out (by rw[hsz,Lib.byteCells_length];simp;omega) O_))).mono ?_;rintro e w9 ⟨rfl,z,B,H⟩;rw[gX]at z;have Hb9:=Lib.hid (show Lib.IsBuilderF 139 5 wr.heap.size wr.heap.size _ w9 from .inr z);have hs9:=B.size;have Hw9:=Lib.hid B;have Ho9:=Lib.hid H;clear z B H
       gi_wp2
       have y:KB wr.heap.size V.heap.size W w7:=⟨(hb6.mono hWs).trans (hb7.mono O_),(hb7.block _ (by have:=(A_.1 Hbs.out).1;omega)).trans (hb6.block _ (A_.1 Hbs.out).1)⟩;have h2:=lO Hw8.out (y.2.trans Hbs.out) D_ O_ Ho8.out;have h3:=lO Hw9.out ((y.trans h2).2.trans Hbs.out) D_ O_ Ho9.out;refine⟨?_,(y.trans h2).trans h3,?_,?_,((y.trans h2).trans h3).2.trans Hbs.out⟩
       ·exact OR
       ·exact Pm
       ·exact OF
      ·have I:BW f.length x=dd cc:=by rw[Hpx.out,if_neg hp]
       have hsz:(ByteArray.mk (dd cc).toArray).size=(dd cc).length:=an _;have Hpt:=Lib.hid I;clear I
       gi_wp2
       refine⟨trivial,?_⟩
       gi_at_call 239
       refine(CallsIn.inRound l (callsIn_wide.2 Hfu.out)).mono ?_;rintro e w6 ⟨rfl,hb6⟩;have cw:=(hb6.cell (p:=⟨w'.heap.size,0,none⟩) (by dsimp only;omega)).trans bm;have Hb6:=Lib.hid (fq Hb.out (dD hb6));have cI:=hb6.size
       gi_wp2
       refine⟨trivial,?_⟩
       gi_at_call 103
       refine(CallsIn.inRound l (callsIn_wide.2 (dM wr.heap.size wr.heap.size _ ⟨(dd cc).toArray⟩ w6 Hb6.out (by rw[hsz,Lib.byteCells_length];simp;omega) O_))).mono ?_;rintro e w9 ⟨rfl,z,B,H⟩;rw[gX]at z;have Hb9:=Lib.hid (show Lib.IsBuilderF 139 5 wr.heap.size wr.heap.size _ w9 from .inr z);have hs9:=B.size;have Hw9:=Lib.hid B;have Ho9:=Lib.hid H;clear z B H
       gi_wp2
       have y:KB wr.heap.size V.heap.size W w6:=⟨hb6.mono hWs,hb6.block _ (A_.1 Hbs.out).1⟩;have h3:=lO Hw9.out (y.2.trans Hbs.out) D_ O_ Ho9.out;refine⟨?_,y.trans h3,?_,?_,(y.trans h3).2.trans Hbs.out⟩
       ·exact((nP hb6).trans (lF Hb6.out hs9 Ho9.out)).from _
       ·have h4:=Hb9.out;rw[e_,<- Hpt.out,<- Hsn.out]at h4;exact h4
       ·exact(HB.out.trans (hb6.mono hWs)).trans Hw9.out
     case done=>
      rintro D ys W hD rfl ⟨hb,U,_⟩ hK;rw[vc H9.out Hne.out,Htxt.out,I9 Hv0.out]at hb;have hWs:=U.size;have cp:w.heap.size<=D:=by rw[World.size_alloc]at hD;omega
      gi_wp2_with (refine⟨trivial,?_⟩;gi_at_call 104;refine(callsIn_wide.2 (Tryz.Builder_String_any_k wr.heap.size wr.heap.size _ W hb hWs)).mono ?_;rintro e w6 ⟨rfl,hb6,b2,cF⟩)
      have bj:=(lF hb b2.size cF).same D _ hK rfl;refine⟨by simp, .inl ⟨_,_,rfl,run_takeDeferred bj,?_⟩⟩;refine⟨_,results_tmp rfl _ _ _,rfl,?_⟩;exact(HBx.out.trans ((U.trans b2).mono O_)).trans (belowK_b (w:=w) (l_ _) w6 D _ _ cp bj rfl rfl)
     case stop=>rintro D c pre W _ _ h _;exact h.elim
   ·have e7:(t.length:Int) > 0:=O_;have fp:(0:Int)<t.length:=O_
    gi_wp2
    gi_loopw [5,6] (fun r i w2=>∃(k:Nat)(E:List Nat)(rr:Nat),k<=t.length/\i= .int .i64 ((t.length:Int)-1-k)/\r= .int .u64 (rr:Int)/\rr<1000000000/\E.length=t.length/\Wd E /\
     w2.ownsRow (w.heap.size+1) 135 1 (.slice (some ⟨g,0,none⟩) t.length O) t.length (E.map bP)/\E.take (t.length-k)=t.take (t.length-k)/\val (E.drop (t.length-k))*1000000000+rr=val (t.drop (t.length-k)) /\
     (∀b,b≠g->w2.heap[b]? =wr.heap[b]?)/\Below (w.heap.size+1) wr w2)
     (fun r i w2=>(intOf i+1).toNat)
    case atStart=>exact⟨0,t,0,Nat.zero_le _,by go_num,rfl,by decide,rfl,by rw[Hmd.out];exact ab _,Hm.out,rfl,by rw[Nat.sub_zero,List.drop_length];rfl,fun _ _=>rfl,Below.refl _ _⟩
    case round=>
     obtain⟨k,E,rr,hk,rfl,rfl,fl,b4,b9,Z,cN,cO,b3,cK⟩:=hrel;have Hzl:=Lib.hid b4;have Hzw:=Lib.hid b9;have Hzt:=Lib.hid cN;have Hzv:=Lib.hid cO;have Hzb:=Lib.hid b3;have HzB:=Lib.hid cK;by_cases df:k<t.length
     ·obtain⟨j,hj⟩:∃j,j=t.length-1-k:=⟨_,rfl⟩;have cB:j<t.length:=O_;have cd:j<E.length:=O_;have a1:=Z.cellAt j O_;have ec:=Z.frozenAt j;rw[List.getElem?_map,Q_ cd]at a1;have d4:E[j]<4294967296:=b9 _ (List.getElem_mem cd);obtain⟨x,hx⟩:∃x,E[j]=x:=⟨_,rfl⟩;rw[hx]at a1 d4;have fi:=iE rr x O_ d4;have Hx':=Lib.hid hx;have Hzo:=Lib.hid Z;have g1:(0:Int)<=(t.length:Int)-1-k:=O_;have g2:(t.length:Int)-1-k<t.length:=O_;have g3:((t.length:Int)-1-k).toNat=j:=O_;rw[hj]at a1 ec g3;have HJ:=Lib.hid hj;have Hjl:=Lib.hid cB;clear Z b4 b9 cN cO b3 cK hx hj cB
      gi_wp2
      obtain⟨d,hd⟩:∃d:Nat,(rr*4294967296+x)/1000000000=d:=⟨_,rfl⟩;obtain⟨r1,eF⟩:∃r1:Nat,(rr*4294967296+x)%1000000000=r1:=⟨_,rfl⟩;have ed:((rr:Int)*4294967296+x)/1000000000=(d:Nat):=O_;have er:((rr:Int)*4294967296+x)%1000000000=(r1:Nat):=O_;rw[ed,er];have d1:=Hzo.out.stored j (bP d);rw[HJ.out]at d1;have cB:=Hjl.out;refine⟨⟨k+1,E.set j d,r1,by omega,by go_num,rfl,by omega,by rw[List.length_set];exact Hzl.out,?_,by rw[List.map_set,HJ.out];exact d1.1,?_,?_,fun b hb=>(Below.heap_setCell _ _ _ _ hb).trans (Hzb.out b hb),HzB.out.setCell (p:=⟨g,t.length-1-k,none⟩) (by have y:=cb;rw[World.size_alloc]at y;exact y) _⟩,by simp[intOf];omega⟩
      ·exact di Hzw.out j d O_
      ·have ht:=congrArg (List.take (t.length-(k+1))) Hzt.out;rw[List.take_take,List.take_take,Nat.min_eq_left O_]at ht;have hj:=HJ.out;rw[List.take_set_of_le O_];exact ht
      ·have hj:=HJ.out;have b4:=Hzl.out;have ev:t.getD j 0=x:=by have y:=congrArg (fun l:List Nat=>l.getD j 0) Hzt.out;simp only[H_,List.getElem?_take]at y;rw[if_pos O_,if_pos O_]at y;rw[H_,<- y,Q_ cd,Hx'.out];rfl
       have e1:=bQ t (t.length-k) O_ O_;have e2:=bQ (E.set j d) (t.length-k) O_ (by rw[List.length_set];omega);rw[show t.length-k-1=j by omega]at e1 e2;rw[show t.length-(k+1)=j by omega,e1,e2,ev,List.drop_set_of_lt O_];have h3:(E.set j d).getD j 0=d:=by rw[H_,List.getElem?_set_self cd];rfl
       rw[h3];exact Jj Hzv.out hd eF
     ·obtain rfl:k=t.length:=O_;have et:t.length<=O:=by
       rcases Z.2 with⟨y,_⟩| ⟨g',c',_,y,_,_,h2,_⟩
       ·cases y
       ·cases y;exact h2
      have d3:a7 wr (some ⟨g,0,none⟩) t.length O E:=ia Z b9 et (by unfold maxLen at cA;omega);have Hzo:=Lib.hid Z;have d2:=gk (some ⟨g,0,none⟩) t.length O E wr d3;have Htr:=Lib.hid d2;have g1:¬((0:Int)<=(t.length:Int)-1-t.length):=O_;have c9:w'.heap.size≠g:=by have:=(A_.1 cz).1;omega
      have hq:=(b3 w'.heap.size c9).trans Hcv.out;have cf:=jG Hcr.out b3 bb;have c0:wr.cell? ⟨w'.heap.size,0,none⟩=some cv:=by rw[Lib.cell_of_heap hq];rfl
      have f0:wr.frozen? ⟨w'.heap.size,0,none⟩=false:=Lib.frozen_of_heap hq 0;have Hq:=Lib.hid hq;have Hcr2:=Lib.hid cf;clear hq cf;clear Z b4 b9 cN cO b3 cK d3 d2;have eb:f.length<=2000:=by have y:=congrArg List.length Hch.out;have h2:=oN Hx.out.wd;rw[L_]at y;omega
      obtain⟨i0,hi,e6,d5,d6⟩:=info_parts Tryz.infoU32;have a0:w.heap.size+1<=wr.heap.size:=by have y:=cb;have h2:=(A_.1 Hq.out).1;rw[World.size_alloc]at y C;have:=C.size;simp at this;omega
      gi_wp2_with (first|(refine⟨trivial,?_⟩;gi_at_call 194;refine(callsIn_wide.2 Htr.out).mono ?_;rintro e w3 ⟨rfl,rfl⟩)|(gi_at_builtin;refine wpListIn_append_own _ rfl _ _ 34 rfl (w'.heap.size+1) 135 i0 (.int .u32 0) 1 4 underlying34 hi e6 d5 d6 rfl D_ _ _ _ rfl (Hcr2.out.alloc _) ⟨wr.heap.size,0,none⟩ 1 1 [bP rr] rfl rfl ?c1 ?c2 ?c3 ?c4 ?c5 ?_))
      case c1=>
       intro j u hj
       match j,hj with
       |0,hj=>simp at hj;subst hj;simp[Addr.add]
      case c2=>intro u hu;simp at hu;subst hu;rfl
      case c3=>unfold maxLen;omega
      case c4=>omega
      case c5=>have:=(A_.1 Hq.out).1;simp;omega
      intro v2 w2 a4 a3 _;have L:=(A_.1 Hq.out).1;have cG:w2.heap[w'.heap.size]? =some (.cells #[cv] 34 (0,0)):=by rw[a3.block w'.heap.size (by simp;omega) (fun e=>bo e.symm),Lib.alloc_old wr _ w'.heap.size L];exact Hq.out
      have e0:w2.cell? ⟨w'.heap.size,0,none⟩=some cv:=by rw[Lib.cell_of_heap cG];rfl
      have g0:w2.frozen? ⟨w'.heap.size,0,none⟩=false:=Lib.frozen_of_heap cG 0;obtain⟨ao,n2,c2,rfl⟩:∃ao n2 c2,v2= .slice ao n2 c2:=by
       rcases a4.2 with⟨hv,_⟩| ⟨g2,q,cP,hv,_⟩
       ·exact⟨_,_,_,hv⟩
       ·exact⟨_,_,_,hv⟩
      have Hown2:=Lib.hid a4;have Hgrow:=Lib.hid a3;clear a4 a3
      gi_wp2
      have fn:val E*1000000000+rr=val t:=by have:=Hzv.out;rw[Nat.sub_self,List.drop_zero,List.drop_zero]at this;exact this
      have es:val t≠0:=fun e=>by have:=Hmd.out;rw[e,aG]at this;rw[this]at hz;exact hz rfl
      have b4:=Hzl.out;have fm:=bJ Hzw.out;have d0:(w2.setCell ⟨w'.heap.size,0,none⟩ (.slice ao n2 c2)).ownsRow (w.heap.size+1) 135 1 (.slice (some ⟨g,0,none⟩) (trim E).length O) (trim E).length ((trim E).map bP):=by have y:w2.ownsRow (w.heap.size+1) 135 1 (.slice (some ⟨g,0,none⟩) t.length O) t.length (E.map bP):=(Hzo.out.alloc _).kept Hgrow.out (.inr (fun e=>bb e.symm));have h2:=Kp y (k:=(trim E).length) O_;rw[<- List.map_take,(kl Hzw.out).1]at h2;exact jG h2 (g:=w'.heap.size) (fun b hb=>Below.heap_setCell _ _ _ _ hb) (fun e=>c9 (Option.some.inj e).symm)
      have ex:∀k,(Value.slice ao n2 c2).ownBlock=some k->w'.heap.size+1<=k:=fun k hk=>(Hown2.out.lt k hk).1
      go_roundw
      case rel=>
       refine⟨trim E,f++[rr], .slice ao n2 c2,rfl,d0,by rw[c6];rfl,by omega,?_,?_,?_,?_⟩
       ·rw[c6,<- Hch.out,rR es,show val t%1000000000=rr by omega,show val t/1000000000=val E by omega];simp
       ·rw[heap_setCell_same _ _ _ _ _ _ cG];rfl
       ·rw[L_,List.map_append];exact jG Hown2.out (g:=w'.heap.size) (fun b hb=>Below.heap_setCell _ _ _ _ hb) (fun e=>by have:=ex _ e;omega)
       ·refine((Hw'.out.trans HzB.out).alloc O_ _ |>.grown Hgrow.out (by simp;omega) (fun k hk=>?_)).setCell (p:=⟨w'.heap.size,0,none⟩) ?_ _
        ·have:=(Hcr2.out.lt k hk).1;have:=C.size;simp at this;omega
        ·have:=C.size;simp at this;exact this
      case measure=>show wu (.slice (some ⟨g,0,none⟩) (trim E).length O) _<wu (.slice (some ⟨g,0,none⟩) t.length O) _;rw[tQ d0,tQ Hm.out,c6];omega
def yi(v:Value)(na:Bool)(xs:List Nat)(w:World)(h:IJ w v na xs)(b:xs.length<=1000)(a:lX w):
 Calls prog 177 #[v] w fun e w'=>e= .returned (.string (Bs (fmt (bv na xs))))/\Below w.heap.size w w':=callsIn_wide.1 (Gf v na xs w h b a)
def zf{na:Bool}{xs:List Nat}(f:Wd xs)(c:xs.length<=1000){z:Int}(i:bv na xs=z):aa prog 177 [dI na xs] (.one (dL (fmt z))):=by
 refine⟨aD func177 rfl rfl,fun S w j a d=>?_⟩
 match j,d with
 | [v],⟨h,_⟩=>refine(yi v na xs w (M6 h f) c a.1).mono ?_;rintro e w' ⟨rfl,b⟩;exact⟨_,rfl,by rw[i];exact AV.M.val rfl,b⟩
def xg{z:Int}(h:(digs z.natAbs).length<=1000):aa prog 177 [dZ z] (.one (dL (fmt z))):=zf (ab _) h (a6 z)
end
mutual
def QN:AV->Tr HB × Nat->HV × (Tr HB × Nat)
 | .val v,s=>(match j4 (hc1 v)with|true=>hc1 v|false=> .o,s)
 | .sl n (c::a),s=>match wR (c::a) s with
  |(l,(h,k))=>(.s k 0 n 1 true,(h.put k (.r l),k+1))
 | .nl,s=>(.v (.slice none 0 0),s)
 |_,s=>(.o,s)
def wR:List AV->Tr HB × Nat->List HV × (Tr HB × Nat)
 | [],s=>([],s)
 |x::r,s=>match QN x s with
  |(y,b)=>match wR r b with
   |(l,a)=>(y::l,a)
end
def Sk:List (Nat × List AV)->Tr HB × Nat->Tr HB × Nat
 | [],s=>s
 |(k,a)::r,s=>match wR a s with
  |(l,(h,n))=>Sk r (h.put k (.r l),n)
section
variable {P:Program}{g g':Nat->Option HG}{w:World}{h:Nat->Option HB}{k:Nat}
def HR.newRo(f:HR g w h k w){l:List HV}{u:HG}(B:iF (dH g k u) w w u (.r l)):HR (dH g k u) w (fG h k (.r l)) (k+1) w/\gM k g (dH g k u):=by
 have x:gM k g (dH g k u):=fun i hi=>by unfold dH;rw[if_neg O_]
 have t:=f.ext x;refine⟨⟨f.tb,f.bel,fun i hi=>?_,fun i hi=>?_,fun i hi=>?_,fun i y E d b=>?_,fun i D a c v F d b p q j m A=>?_⟩,x⟩
 ·unfold dH;rw[if_neg O_];exact f.nx i O_
 ·unfold fG;rw[if_neg O_];exact f.nh i O_
 ·obtain⟨n,C⟩:=f.gl i hi;exact⟨n,t i _ C⟩
 ·unfold fG at d;split at d
  ·rename_i e;cases d;subst e;unfold dH at b;rw[if_pos rfl]at b;cases b;exact B
  ·rename_i e;unfold dH at b;rw[if_neg e]at b;exact(f.blk i y E d b).keep t fun _=>rfl
 ·unfold fG at d b;unfold dH at j m;split at d
  ·cases d;cases p
  ·rename_i e;rw[if_neg e]at j;split at b
   ·cases b;cases q
   ·rename_i z;rw[if_neg z]at m;exact f.inj i D a c v F d b p q j m A
def HR.setRo(f:HR g w h k w){i:Nat}{l:List HV}{u:HG}(q:i<k)(m:g i=some u)(p:iF g w w u (.r l)):HR g w (fG h i (.r l)) k w where
 tb:=f.tb
 bel:=f.bel
 nx:=f.nx
 nh j hj:=by unfold fG;rw[if_neg O_];exact f.nh j hj
 gl:=f.gl
 blk j b v h1 h2:=by
  unfold fG at h1;split at h1
  ·rename_i e;subst e;cases h1;rw[m]at h2;cases h2;exact p
  ·exact f.blk j b v h1 h2
 inj a b c d v v' h1 h2 h3 h4 h5 h6 h7:=by
  unfold fG at h1 h2;split at h1
  ·cases h1;cases h3
  ·split at h2
   ·cases h2;cases h4
   ·exact f.inj a b c d v v' h1 h2 h3 h4 h5 h6 h7
def VR.oo{v:Value}(h:v.oneCell'=true):VR g .o v:=by rw[VR];exact h
mutual
def Rp{S:Nat->Prop}:∀(a:AV)(v:Value)(h:Tr HB)(k:Nat)(g:Nat->Option HG)(x:HV)(m:Tr HB)(j:Nat),AV.M S w a v->QN a (h,k)=(x,(m,j))->HR g w h.get k w-> ∃g',gM k g g'/\HR g' w m.get j w/\VR g' x v/\j4 x=true/\k<=j
 | .val u,v,h,k,g,x,m,j,hm,he,hr=>by
  cases hm with
  |val A=>
   unfold QN at he;simp only[Prod.mk.injEq]at he;obtain⟨rfl,rfl,rfl⟩:=he;refine⟨g,fun _ _=>rfl,hr,?_⟩;split
   ·rename_i W;exact⟨Ei g _,W,l_ _⟩
   ·exact⟨VR.oo A,rfl,l_ _⟩
 | .nl,v,h,k,g,x,m,j,hm,he,hr=>by cases hm;unfold QN at he;simp only[Prod.mk.injEq]at he;obtain⟨rfl,rfl,rfl⟩:=he;exact⟨g,fun _ _=>rfl,hr,VR.vok rfl,rfl,l_ _⟩
 | .ow _ _ _ _,v,h,k,g,x,m,j,hm,he,hr=>by exact KO
 | .bp _ _,v,h,k,g,x,m,j,hm,he,hr=>by exact KO
 | .sl n [],v,h,k,g,x,m,j,hm,he,hr=>by exact KO
 | .sl n (c::r),v,h,k,g,x,m,j,hm,he,hr=>by
  unfold QN at he;simp only at he;cases hq:wR (c::r) (h,k)with
  |mk l s=>
   obtain⟨A,D⟩:=s;rw[hq]at he;simp only[Prod.mk.injEq]at he;obtain⟨rfl,rfl,rfl⟩:=he;cases hm with
   |sl f O Q e3 R U V=>
    rename_i b t d;obtain⟨F,s1,J,L,s4⟩:=wV (c::r) ((List.range (c::r).length).map f) h k g l A D S_ (fun i a v G H=>by
     have q:i<(c::r).length:=(G_.1 G).1;have:v=f i:=by simp at H;obtain⟨N,z,E⟩:=H;rw[List.getElem?_range (by simpa using q)]at z;cases z;exact E.symm
     rw[this];exact V i a G) hq hr
    obtain⟨Y,Z⟩:=J.newRo (l:=l) (u:=⟨b,t,d⟩) ⟨R,fun o x I=>by
     obtain⟨y,B,C⟩:=L.1.at o x I;have q:o<(c::r).length:=by have:=(G_.1 B).1;simpa using this
     have:y=f o:=by simp at B;obtain⟨N,z,E⟩:=B;rw[List.getElem?_range (by simpa using q)]at z;cases z;exact E.symm
     subst this;have X:gM D F (dH F D ⟨b,t,d⟩):=fun i hi=>by unfold dH;rw[if_neg O_]
     exact⟨dT L.2 x (M_ I),f o,U o ((c::r)[o]'q) S_,C.mono (J.ext X)⟩⟩
    refine⟨_,s1.trans Z s4,by rw[cY];exact Y,?_,rfl,by omega⟩;rw[VR];exact⟨_,d,by unfold dH;rw[if_pos rfl],rfl,O,Q,by show 0+d*1=d;omega⟩
def wV{S:Nat->Prop}:∀(l:List AV)(f:List Value)(h:Tr HB)(k:Nat)(g:Nat->Option HG)(j:List HV)(m:Tr HB)(e:Nat),l.length=f.length->(∀(i:Nat)a v,l[i]? =some a->f[i]? =some v->AV.M S w a v)->wR l (h,k)=(j,(m,e))->HR g w h.get k w ->
 ∃g',gM k g g'/\HR g' w m.get e w/\(bi g' j f/\da j=true)/\k<=e
 | [],[],h,k,g,j,m,e,_,_,b,q=>by unfold wR at b;simp only[Prod.mk.injEq]at b;obtain⟨rfl,rfl,rfl⟩:=b;exact⟨g,fun _ _=>rfl,q,⟨bi.nil g,rfl⟩,l_ _⟩
 | [],_::_,_,_,_,_,_,_,d,_,_,_=>by cases d
 |_::_,[],_,_,_,_,_,_,d,_,_,_=>by cases d
 |a::l,v::f,h,k,g,j,m,e,d,z,b,q=>by
  unfold wR at b;cases hq:QN a (h,k)with
  |mk y s=>
   obtain⟨c,r⟩:=s;rw[hq]at b;simp only at b;cases hq2:wR l (c,r)with
   |mk J I=>obtain⟨p,H⟩:=I;rw[hq2]at b;simp only[Prod.mk.injEq]at b;obtain⟨rfl,rfl,rfl⟩:=b;obtain⟨F,A,t,B,C,D⟩:=Rp a v h k g y c r (z 0 a v rfl rfl) hq q;obtain⟨G,u,E,x,L⟩:=wV l f c r F J p H (by simpa using d) (fun i a v c p=>z (i+1) a v (by simpa using c) (by simpa using p)) hq2 t;refine⟨G,A.trans u D,E,⟨bi.cons (B.mono (t.ext u)) x.1,?_⟩,by omega⟩;simp only[da,C];exact x.2
end
def KC{S:Nat->Prop}(B:db S w):∀(l:List (Nat × List AV))(h:Tr HB)(k:Nat)(g:Nat->Option HG),(∀i c,(i,c)∈l->i<hG/\ak GT i=some c)->hG<=k->HR g w h.get k w-> ∃g',HR g' w (Sk l (h,k)).1.get (Sk l (h,k)).2 w/\hG<=(Sk l (h,k)).2
 | [],h,k,g,_,C,q=>⟨g,q,C⟩
 |(i,c)::l,h,k,g,D,C,q=>by
  obtain⟨R,p⟩:=D i c S_;have U:=B.gl i c p;obtain⟨b,W,f,e,_,d,Q,O⟩:=U;cases e;unfold Sk;cases hq:wR c (h,k)with
  |mk z s=>
   obtain⟨A,G⟩:=s;simp only;obtain⟨N,s1,I,J,s4⟩:=wV (S:=S) c ((List.range c.length).map f) h k g z A G S_ (fun j a v m E=>by
    have d:j<c.length:=(G_.1 m).1;have:v=f j:=by simp[d]at E;exact E.symm
    rw[this];exact O j a m) hq q
   obtain⟨n,V⟩:=I.gl i R;have Y:=I.setRo (l:=z) (i:=i) O_ V ⟨d,fun o x F=>by
    obtain⟨y,t,u⟩:=J.1.at o x F;have d:o<c.length:=by have:=(G_.1 t).1;simpa using this
    have:y=f o:=by simp at t;obtain⟨Z,H,X⟩:=t;rw[List.getElem?_range (by simpa using d)]at H;cases H;exact X.symm
    subst this;exact⟨dT J.2 x (M_ F),f o,Q o (c[o]'d) S_,u⟩⟩
   exact KC B l (A.put i (.r z)) G N (fun j L m=>D j L (by simp[m])) O_ (by rw[cY];exact Y)
end
def Im:List Nat->List Nat->Bool
 | [],_=>true
 |_::_,[]=>false
 |a::r,b::s=>match Nat.beq (a%256) (b%256)with
  |true=>Im r s
  |false=>false
def mN(b:List Nat):List Nat->Nat->Int
 | [],n=>match b with
  | []=>n
  |_=> -1
 |x::s,n=>match Im b (x::s)with
  |true=>n
  |false=>mN b s (n+1)
def pS(c:Nat):List Nat->Nat->Int
 | [],_=> -1
 |x::s,n=>match Nat.beq (x%256) (c%256)with
  |true=>n
  |false=>pS c s (n+1)
def pb(c:Nat):List Nat->Nat
 | []=>0
 |x::r=>match Nat.beq (x%256) (c%256)with
  |true=>pb c r+1
  |false=>pb c r
def MU:Nat->Nat->List Nat->Option (List Nat)
 |0,_,_=>none
 |u+1,n,l=>match Nat.blt n 10 with
  |true=>some ((48+n)::l)
  |false=>MU u (n/10) ((48+n%10)::l)
def LY(a:Bool)(n:Nat):Option (List Nat):=match Nat.beq n 0 with
 |true=>some [48]
 |false=>match MU 400 n []with
  |some r=>some (match a with|true=>45::r|false=>r)
  |none=>none
def Q2:HV->Option Nat
 | .v (.int .u32 (.ofNat n))=>match Nat.blt n 4294967296 with
  |true=>some n
  |false=>none
 |_=>none
def pY(h:Tr HB):HV->Option (List Nat)
 | .v (.slice none 0 0)=>some []
 | .s b o n _ _=>match MQ h b o n with
  |some l=>tK Q2 l
  |none=>none
 |_=>none
def pR(a b:Nat):(UInt8.ofNat a == UInt8.ofNat b)=Nat.beq (a%256) (b%256):=by have:=rO [a] [b];simp only[List.map_cons,List.map_nil,List.cons_beq_cons,wT]at this;rw[show((([]:List UInt8) == [])=true) from rfl,Bool.and_true]at this;rw[this];split <;>simp_all
def Em:∀b s:List Nat,(b.map UInt8.ofNat).isPrefixOf (s.map UInt8.ofNat)=Im b s
 | [],_=>rfl
 |_::_,[]=>rfl
 |a::r,b::s=>by simp only[List.map_cons,List.isPrefixOf,Im,pR,Em r s];split <;>simp_all
def vu(b:List Nat):∀(s:List Nat)(n:Nat),mN b s n=if Lib.index (s.map UInt8.ofNat) (b.map UInt8.ofNat)= -1 then -1 else Lib.index (s.map UInt8.ofNat) (b.map UInt8.ofNat)+n
 | [],n=>by
  cases b with
  |nil=>simp[mN,Lib.index]
  |cons x r=>simp[mN,Lib.index]
 |x::s,n=>by
  have d:=vu b s (n+1);have a:=Em b (x::s);have f:=Lib.index_ge (s.map UInt8.ofNat) (b.map UInt8.ofNat);simp only[List.map_cons]at a ⊢;unfold Lib.index mN;rw[a];cases Im b (x::s)with
  |true=>simp
  |false=>
   refine qL ?_;rw[d];by_cases e:Lib.index (s.map UInt8.ofNat) (b.map UInt8.ofNat)= -1
   ·simp[e]
   ·rw[if_neg e];have c:(Lib.index (s.map UInt8.ofNat) (b.map UInt8.ofNat) == -1)=false:=by simpa using e
    rw[c];refine qL ?_;rw[if_neg O_];omega
def vf(c:Nat):∀(s:List Nat)(n:Nat),pS c s n=if Lib.indexByte (s.map UInt8.ofNat) (UInt8.ofNat c)= -1 then -1 else Lib.indexByte (s.map UInt8.ofNat) (UInt8.ofNat c)+n
 | [],n=>by simp[pS,Lib.indexByte]
 |x::s,n=>by
  have b:=vf c s (n+1);have d:=Lib.indexByte_ge (s.map UInt8.ofNat) (UInt8.ofNat c);simp only[List.map_cons];unfold Lib.indexByte pS;rw[pR];cases Nat.beq (x%256) (c%256)with
  |true=>simp
  |false=>
   refine qL ?_;rw[b];by_cases e:Lib.indexByte (s.map UInt8.ofNat) (UInt8.ofNat c)= -1
   ·simp[e]
   ·rw[if_neg e];have a:(Lib.indexByte (s.map UInt8.ofNat) (UInt8.ofNat c) == -1)=false:=by simpa using e
    rw[a];refine qL ?_;rw[if_neg O_];omega
def uZ(c:Nat):∀s:List Nat,Lib.countByte (s.map UInt8.ofNat) (UInt8.ofNat c)=pb c s
 | []=>rfl
 |x::s=>by have a:=uZ c s;unfold Lib.countByte at a ⊢;unfold pb;rw[List.map_cons,List.count_cons,a,pR];cases Nat.beq (x%256) (c%256)<;>simp
def Er:∀(u n:Nat)(l r:List Nat),n≠0->MU u n l=some r->r.map UInt8.ofNat=ka n++l.map UInt8.ofNat
 |0,_,_,_,_,h=>by cases h
 |u+1,n,l,r,a,h=>by
  unfold MU at h;rw[Fk]at h;by_cases e:n<10
  ·simp only[e,decide_true,X_]at h;subst h;rw[dr a,show n/10=0 by omega,cZ,show n%10=n by omega];simp[dg]
  ·simp only[e,decide_false]at h;rw[Er u _ _ _ O_ h,dr a];simp[dg]
def NC{a:Bool}{xs r:List Nat}(h:LY a (val xs)=some r):Bs (fmt (bv a xs))=eC r:=by
 unfold LY at h;have c:fmt (bv a xs)=r.map UInt8.ofNat:=by
  split at h
  ·rename_i e;cases h;have e:val xs=0:=Nat.eq_of_beq_eq_true e;cases a<;>simp[bv,e,fmt]<;>rfl
  ·rename_i e;have e:val xs≠0:=fun d=>by rw[d]at e;cases e
   split at h
   ·rename_i j i;cases h;have b:=Er _ _ _ _ e i;rw[List.map_nil,c_]at b;cases a with
    |false=>have:¬((val xs:Int)<0):=O_;simp[bv,fmt,e,this,b]
    |true=>have f:0<val xs:=O_;simp[bv,fmt,e,f,b]
   ·cases h
 rw[c];rfl
section
variable {P:Program}{g g':Nat->Option HG}{w0 w w':World}{h:Tr HB}{k:Nat}
def HR.below{h:Nat->Option HB}(a:HR g w0 h k w)(c:Below w.heap.size w w'):HR g w0 h k w':=
 a.world (c.mono a.bel.size) fun i b u d e f=>c.block _ ((a.blk i b u d f).lt e).1
def bY.val{f:FuncId}{b:Func}{args:List HV}{x:HV}(l:P.funcs[f]? =some b)(m:(b.name == "runtime.NumGoroutine")=false)(c:b.body.isSome=true)(H:∀g w0 w a,HR g w0 h.get k w->bi g args a-> ∃v,VR g x v/\Calls P f a.toArray w fun e w'=>e= .returned v/\Below w.heap.size w w'):bY P f args h k ⟨x,h,k⟩:=
 ⟨KK.refl _ _,fun g w0 w a d p=>by obtain⟨v,i,j⟩:=H g w0 w a d p;refine .inr ⟨aD l m c _ _,j.mono ?_⟩;rintro e w' ⟨rfl,c⟩;exact⟨v,rfl,g,fun _ _=>rfl,d.below c,i⟩⟩
def bY.ext{f:FuncId}{args:List HV}{x:HV}(H:∀g w0 w a,HR g w0 h.get k w->bi g args a-> ∃v,VR g x v/\(callFunc f a.toArray).run P w= .ok (.value v) w):bY P f args h k ⟨x,h,k⟩:=
 ⟨KK.refl _ _,fun g w0 w a b e=>by obtain⟨v,c,d⟩:=H g w0 w a b e;exact .inl ⟨v,w,d,g,fun _ _=>rfl,b,c⟩⟩
def DD:∀{l:List HV}{c:List Nat}{e:List Value},tK Q2 l=some c->bi g l e->e=c.map bP/\Wd c
 | [],c,e,a,d=>by cases a;rw[bi]at d;subst d;exact⟨rfl,Wd.nil⟩
 |x::l,c,e,a,d=>by
  obtain⟨v,r,rfl,j,m⟩:=d.cons_inv;unfold tK at a;split at a
  ·rename_i y b;split at a
   ·rename_i q i;cases a;obtain⟨rfl,p⟩:=DD i m;unfold Q2 at b;split at b
    ·rename_i n;split at b
     ·rename_i f;cases b;rw[j.v_inv];exact⟨rfl,Wd.cons (N_ f) p⟩
     ·cases b
    ·cases b
   ·cases a
  ·cases a
def vI{x:HV}{v:Value}{xs:List Nat}(r:HR g w0 h.get k w)(a:pY h x=some xs)(d:VR g x v):∃A n c,v= .slice A n c/\a7 w A n c xs:=by
 unfold pY at a;split at a
 ·cases a;rw[d.v_inv];exact⟨_,_,_,rfl,a7.nil w⟩
 ·split at a
  ·rename_i l p;obtain⟨u,y,m,rfl,q,j,_⟩:=d.s_inv;obtain⟨z,B,e,f,_,i⟩:=pp r p m;obtain⟨rfl,t⟩:=DD a e;exact⟨_,_,_,rfl,by simpa using f,q,j,t, .inr ⟨u.b,_,rfl,i⟩,by simp⟩
  ·cases a
 ·cases a
end
def K9{s b:List Nat}{h:Tr HB}{k:Nat}(i:Nat.blt (fh s) 4294967281=true):bY prog 148 [.z s, .z b] h k ⟨.v (.int .i64 (mN b s 0)),h,k⟩:=by
 refine bY.val func148 rfl rfl fun g w0 w q a l=>?_;obtain⟨v,r,rfl,c,d⟩:=l.cons_inv;obtain⟨p,rfl,f⟩:=d.one_inv;rw[c.z_inv,f.z_inv];refine⟨_,VR.vok rfl,?_⟩;obtain⟨m,j⟩:=(a.tb w a.bel).2.1;refine(Tryz.stringslite_Index (eC s) (eC b) m w (by rw[d8,<- bI];exact N_ i) j).mono ?_;rintro e w' ⟨rfl,rfl⟩;refine⟨?_,Below.refl _ _⟩;rw[vu];show _=Ending.returned (.int .i64 _);simp only[eC];split
 ·rename_i e;rw[e]
 ·simp
def nY{s:List Nat}{c:Nat}{h:Tr HB}{k:Nat}:bY prog 271 [.z s, .v (.int .u8 (.ofNat c))] h k ⟨.v (.int .i64 (pS c s 0)),h,k⟩:=by
 refine bY.ext fun g w0 w l i f=>?_;obtain⟨v,r,rfl,a,b⟩:=f.cons_inv;obtain⟨j,rfl,d⟩:=b.one_inv;rw[a.z_inv,d.v_inv];refine⟨_,VR.vok rfl,?_⟩;rw[run_callFunc_extern (P:=prog) func271 (by kernel_rfl) (by kernel_rfl) (by kernel_rfl) (e:=Extern.BytealgIndexByte.indexByte) (by kernel_rfl),Lib.run_indexByteString,R_,vf];congr 2;show Value.int .i64 (Lib.indexByte (List.map UInt8.ofNat s) (UInt8.ofNat c))=_;split
 ·rename_i e;rw[e]
 ·simp
def uu{s:List Nat}{c:Nat}{h:Tr HB}{k:Nat}:bY prog 212 [.z s, .v (.int .u8 (.ofNat c))] h k ⟨.v (.int .i64 (pb c s)),h,k⟩:=by refine bY.ext fun g w0 w l i f=>?_;obtain⟨v,r,rfl,a,b⟩:=f.cons_inv;obtain⟨j,rfl,d⟩:=b.one_inv;rw[a.z_inv,d.v_inv];refine⟨_,VR.vok rfl,?_⟩;rw[run_callFunc_extern (P:=prog) func212 (by kernel_rfl) (by kernel_rfl) (by kernel_rfl) (e:=Extern.BytealgCount.count) (by kernel_rfl),Lib.run_countString,R_,<- uZ];rfl
def BC{x:HV}{h:Tr HB}{k:Nat}:bY prog 204 [x] h k ⟨x,h,k⟩:=by refine bY.ext fun g w0 w d c b=>?_;obtain⟨v,rfl,a⟩:=b.one_inv;refine⟨v,a,?_⟩;rw[run_callFunc_extern (P:=prog) func204 (by kernel_rfl) (by kernel_rfl) (by kernel_rfl) (e:=Extern.AbiNoEscape.same) (by kernel_rfl)];rfl
def xL{n:Nat}{h:Tr HB}{k:Nat}(b:Nat.ble n 281474976710656=true):bY prog 205 [.v (.int .i64 (.ofNat n))] h k ⟨.s k 0 n 1 true,h.put k (.c [] 5 true),k+1⟩:=by
 refine⟨KK.new _ _ _,fun g w0 w vs hr hv=>?_⟩;obtain⟨v,rfl,f⟩:=hv.one_inv;rw[f.v_inv];have b:=N_ b;obtain⟨cs,i,j,a⟩:=Lib.run_makeNoZero (P:=prog) w #[3] 137 5 underlying137 n b;have a:=a (by simp[maxLen];omega);obtain⟨g',p,r,t,_⟩:=C5 (cs:=[]) (e:=5) (q:=true) (x:= .s k 0 n 1 true) (m:=⟨.s k 0 n 1 true,h.put k (.c [] 5 true),k+1⟩) (arr:=cs) (fz:=(0,0)) (d:=w.drew.drew.drawn) (v:= .slice (some ⟨w.heap.size,0,none⟩) n cs.size) hr rfl (fun _=>fun o x l=>by simp at l) (Nat.zero_le _) (sT.zero _) (by rw[VR];refine⟨_,cs.size,by unfold dH;rw[if_pos rfl],rfl,j,by simpa[maxLen]using a,?_⟩;show 0+cs.size*1=cs.size;omega)
 refine .inl ⟨.slice (some ⟨w.heap.size,0,none⟩) n cs.size,w.drew.drew.alloc (.cells cs 5),?_,g',p,r,t⟩;rw[run_callFunc_extern (P:=prog) func205 (by kernel_rfl) (by kernel_rfl) (by kernel_rfl) (e:=Extern.BytealgMakeNoZero.makeNoZero #[3] #[137]) (by kernel_rfl)];erw[i];rfl
def J0{j:Bool}{x:HV}{xs r:List Nat}{h:Tr HB}{k:Nat}(l:pY h x=some xs)(m:Nat.ble (fh xs) 1000=true)(p:LY j (val xs)=some r):bY prog 177 [.a [.v (.bool j),x]] h k ⟨.z r,h,k⟩:=by refine bY.val func177 rfl rfl fun g w0 w E b t=>?_;obtain⟨v,rfl,i⟩:=t.one_inv;obtain⟨B,rfl,q⟩:=i.a_inv;obtain⟨C,y,rfl,e,d⟩:=q.cons_inv;obtain⟨D,rfl,f⟩:=d.one_inv;rw[e.v_inv];obtain⟨A,n,c,rfl,u⟩:=vI b l f;refine⟨_,VR.zok,?_⟩;rw[<- NC p];exact yi _ j xs w ⟨A,n,c,rfl,u⟩ (by rw[<- bI];exact N_ m) (fun w' hb=>b.tb w' (b.bel.trans (hb.mono b.bel.size)))
def KV{b o n c:Nat}{q:Bool}{xs:List Nat}{h:Tr HB}{k:Nat}(f:pY h (.s b o n c q)=some xs)(i:Nat.ble n 2=true):bY prog 283 [.s b o n c q] h k ⟨.v (.int .u64 (.ofNat (val xs))),h,k⟩:=by refine bY.val func283 rfl rfl fun g w0 w x j l=>?_;obtain⟨v,rfl,a⟩:=l.one_inv;obtain⟨A,m,r,d,p⟩:=vI j f a;obtain⟨u,t,_,e,_⟩:=a.s_inv;rw[e]at d;cases d;subst e;exact⟨_,VR.vok rfl,n5 _ _ _ xs w p (N_ i)⟩
def Vi(a:List HV)(h:Tr HB)(k:Nat):Option HM:=match a with
 | [.z s, .z b]=>match Nat.blt (fh s) 4294967281 with
  |true=>some ⟨.v (.int .i64 (mN b s 0)),h,k⟩
  |false=>none
 |_=>none
def Qq{a:List HV}{h:Tr HB}{k:Nat}{m:HM}(b:Vi a h k=some m):bY prog 148 a h k m:=by
 unfold Vi at b;split at b
 ·split at b
  ·rename_i c;cases b;exact K9 c
  ·cases b
 ·cases b
def Vn(a:List HV)(h:Tr HB)(k:Nat):Option HM:=match a with
 | [.z s, .v (.int .u8 (.ofNat c))]=>some ⟨.v (.int .i64 (pS c s 0)),h,k⟩
 |_=>none
def RM{a:List HV}{h:Tr HB}{k:Nat}{m:HM}(b:Vn a h k=some m):bY prog 271 a h k m:=by
 unfold Vn at b;split at b
 ·cases b;exact nY
 ·cases b
def Ve(a:List HV)(h:Tr HB)(k:Nat):Option HM:=match a with
 | [.z s, .v (.int .u8 (.ofNat c))]=>some ⟨.v (.int .i64 (pb c s)),h,k⟩
 |_=>none
def Ro{a:List HV}{h:Tr HB}{k:Nat}{m:HM}(b:Ve a h k=some m):bY prog 212 a h k m:=by
 unfold Ve at b;split at b
 ·cases b;exact uu
 ·cases b
def U8(a:List HV)(h:Tr HB)(k:Nat):Option HM:=match a with
 | [x]=>some ⟨x,h,k⟩
 |_=>none
def Rm{a:List HV}{h:Tr HB}{k:Nat}{m:HM}(b:U8 a h k=some m):bY prog 204 a h k m:=by
 unfold U8 at b;split at b
 ·cases b;exact BC
 ·cases b
def U9(a:List HV)(h:Tr HB)(k:Nat):Option HM:=match a with
 | [.a [.v (.bool c),x]]=>match pY h x with
  |some b=>match Nat.ble (fh b) 1000,LY c (val b)with
   |true,some r=>some ⟨.z r,h,k⟩
   |_,_=>none
  |none=>none
 |_=>none
def RE{a:List HV}{h:Tr HB}{k:Nat}{m:HM}(b:U9 a h k=some m):bY prog 177 a h k m:=by
 unfold U9 at b;split at b
 ·split at b
  ·rename_i e;split at b
   ·rename_i c d;cases b;exact J0 e c d
   ·cases b
  ·cases b
 ·cases b
def Vc(a:List HV)(h:Tr HB)(k:Nat):Option HM:=match a with
 | [.s b o n c q]=>match pY h (.s b o n c q),Nat.ble n 2 with
  |some d,true=>some ⟨.v (.int .u64 (.ofNat (val d))),h,k⟩
  |_,_=>none
 |_=>none
def QV{a:List HV}{h:Tr HB}{k:Nat}{m:HM}(b:Vc a h k=some m):bY prog 283 a h k m:=by
 unfold Vc at b;split at b
 ·split at b
  ·rename_i d c;cases b;exact KV d c
  ·cases b
 ·cases b
def Vd(a:List HV)(h:Tr HB)(k:Nat):Option HM:=match a with
 | [.v (.int .i64 (.ofNat n))]=>match Nat.ble n 281474976710656 with
  |true=>some ⟨.s k 0 n 1 true,h.put k (.c [] 5 true),k+1⟩
  |false=>none
 |_=>none
def Ry{a:List HV}{h:Tr HB}{k:Nat}{m:HM}(b:Vd a h k=some m):bY prog 205 a h k m:=by
 unfold Vd at b;split at b
 ·split at b
  ·rename_i c;cases b;exact xL c
  ·cases b
 ·cases b
def XX(f:FuncId)(a:List HV)(h:Tr HB)(k:Nat):Option HM:=match Nat.beq f 148 with
 |true=>Vi a h k
 |false=>match Nat.beq f 271 with
 |true=>Vn a h k
 |false=>match Nat.beq f 212 with
 |true=>Ve a h k
 |false=>match Nat.beq f 204 with
 |true=>U8 a h k
 |false=>match Nat.beq f 177 with
 |true=>U9 a h k
 |false=>match Nat.beq f 283 with
 |true=>Vc a h k
 |false=>match Nat.beq f 205 with
 |true=>Vd a h k
 |false=>none
def Ql:wH prog XX:=by
 intro f a h k m b;unfold XX at b;split at b
 ·rename_i e;have e:=Nat.eq_of_beq_eq_true e;subst e;exact Qq b
 split at b
 ·rename_i e;have e:=Nat.eq_of_beq_eq_true e;subst e;exact RM b
 split at b
 ·rename_i e;have e:=Nat.eq_of_beq_eq_true e;subst e;exact Ro b
 split at b
 ·rename_i e;have e:=Nat.eq_of_beq_eq_true e;subst e;exact Rm b
 split at b
 ·rename_i e;have e:=Nat.eq_of_beq_eq_true e;subst e;exact RE b
 split at b
 ·rename_i e;have e:=Nat.eq_of_beq_eq_true e;subst e;exact QV b
 split at b
 ·rename_i e;have e:=Nat.eq_of_beq_eq_true e;subst e;exact Ry b
 cases b
def UT(i:Nat):Option HG:=match Nat.blt i hG with
 |true=>some ⟨i,0,0⟩
 |false=>none
def Vv{w:World}(a:lX w):HR UT w (Tr.l:Tr HB).get hG w where
 tb:=a
 bel:=Below.refl _ _
 nx i hi:=by unfold UT;rw[Fk,show decide (i<hG)=false from F_ O_]
 nh _ _:=rfl
 gl i hi:=⟨0,by unfold UT;rw[Fk,show decide (i<hG)=true from T_ hi]⟩
 blk _ _ _ h _:=by cases h
 inj _ _ _ _ _ _ h:=by cases h
noncomputable def h0:Tr HB × Nat:=match Sk GT (.l,hG)with
 |(h,k)=>((h.put 6 (.r [.o])).put 7 (.r [.o]),k)
def RQ{α:Type}:List (Nat × α)->Bool
 | []=>true
 |(j,_)::l=>(l.all fun p=>!(p.1 == j)) && RQ l
def yn{α:Type}:∀(l:List (Nat × α))(i:Nat)(x:α),RQ l=true->(i,x)∈l->ak l i=some x
 |(j,y)::l,i,x,a,h=>by
  unfold RQ at a;rw[B_]at a;show(match Nat.beq j i with|true=>some y|false=>ak l i)=some x;rcases f_.1 h with e|e
  ·cases e;rw[Nat.beq_refl]
  ·have b:(!(i == j))=true:=I_.1 a.1 _ e;have c:Nat.beq j i=false:=by
    cases hq:Nat.beq j i with
    |false=>rfl
    |true=>rw[Nat.eq_of_beq_eq_true hq]at b;simp at b
   rw[c];exact yn l i x a.2 e
def Uo:∀i a,(i,a)∈GT->i<hG/\ak GT i=some a:=by
 intro i a h;have b:GT.all (fun p=>decide (p.1<hG))=true:=by kernel_rfl
 exact⟨h_ (I_.1 b _ h),yn GT i a (by kernel_rfl) h⟩
def hr0{S:Nat->Prop}{w:World}(v:db S w):∃g,HR g w h0.1.get h0.2 w:=by
 obtain⟨g,d,u⟩:=KC v GT .l hG UT Uo (l_ _) (Vv v.1);obtain⟨_,⟨A,f,m⟩,B,j,p⟩:=(d.tb w d.bel).2;have t:∀e:Value,(e= .nilIface∨ ∃c b,e= .iface c b)->e.oneCell'=true:=by rintro e (rfl| ⟨c,b,rfl⟩)<;>rfl
 have a:∀(h:Tr HB)(k i:Nat)(e:Value),hG<=k->i<hG->HR g w h.get k w->w.cell? ⟨i,0,none⟩=some e->(e= .nilIface∨ ∃c b,e= .iface c b)->HR g w (h.put i (.r [.o])).get k w:=by
  intro h k i e F C z y E;obtain⟨n,D⟩:=z.gl i C;rw[cY];refine z.setRo O_ D ⟨World.block_lt_of_cell? w _ y,fun o x q=>?_⟩;cases o with
  |zero=>simp at q;subst q;exact⟨rfl,e,y,VR.oo (t e E)⟩
  |succ o=>simp at q
 exact⟨g,a _ _ _ B u D_ (a _ _ _ A u D_ d f m) j p⟩
def Ux{f:FuncId}{d:Func}(m:Tryz.prog.funcs[f]? =some d)(p:(d.name == "runtime.NumGoroutine")=false)(l:d.body.isSome=true){u:Nat}(a:On prog XX u h0.1 h0.2 f=some true):aa prog f [] (.one (dB true)):=by
 refine⟨aD m p l,fun S w D r B=>?_⟩;obtain⟨g,A⟩:=hr0 r;cases D with
 |cons _ _=>exact B.elim
 |nil=>
 unfold On at a;split at a
 ·rename_i b E F z;cases a;obtain⟨_,t⟩:=zU Ql (fun n c s x C y=>Lv Ql (by kernel_rfl) u n c s x C y) z;rcases t g w w [] A (bi.nil g)with⟨v,w',e,_⟩| ⟨_,q⟩
  ·rw[aD m p l]at e;cases e
  ·refine q.mono ?_;rintro e w' ⟨v,rfl,g',_,i,j⟩;rw[j.v_inv];exact⟨_,rfl,AV.M.val rfl,i.bel⟩
 ·cases a
set_option maxRecDepth 1000000 in
def ot:aa prog 11 [] (.one (dB true)):=Ux func11 rfl rfl (u:=1000000) (by kernel_rfl)
section
variable {P:Program}{T:TypeId->Option Ty}{n:Nat}{s:AS}
def ks{x y:Code}{Q:AX->AS->Prop}(σ:AS)(c:∀a,au a σ->fT P T n y Q a)(b:∀R:AX->AS->Prop,(∀a,au a σ->R .normal a)->R .ret=Q .ret->fT P T n x R s):fT P T n (.seq x y) Q s:=bH (b _ c rfl)
def H4{x y:Code}{Q:AX->AS->Prop}(σ:AS)(φ:Prop)(c:φ-> ∀a,au a σ->fT P T n y Q a)(b:∀R:AX->AS->Prop,(φ-> ∀a,au a σ->R .normal a)->R .ret=Q .ret->fT P T n x R s):fT P T n (.seq x y) Q s:=bH (b _ c rfl)
def au.trans{a b c:AS}(h:au a b)(e:au b c):au a c:=fun n d w0 x w m=>e n d w0 x w (h n d w0 x w m)
def MG.rename{S0:Nat->Prop}{w0:fw}{g:Nat->Nat}{a:Act}{w:World}(h:MG n S0 w0 g s a w){j j':Nat}{cs:List AV}(y:s.bx j=some cs)(R:ak s.b j'=none)(hw:cL j'=cL j)(O:iO j'=false)(F:cX j'=false):
 ∃g',MG n S0 w0 g' ⟨s.t,(j',some cs)::(j,none)::s.b⟩ a w/\(∀(m k e:Nat)(v:Value),TV.M (Own S0 g s) g s w (.own j m k e) v->TV.M (Own S0 g' ⟨s.t,(j',some cs)::(j,none)::s.b⟩) g' ⟨s.t,(j',some cs)::(j,none)::s.b⟩ w (.own j' m k e) v)/\ ∀i,i≠j'->g' i=g i:=by
 have Y:j'≠j:=fun e=>by subst e;obtain⟨x,G⟩:=AS.kn_of y;rw[R]at G;cases G
 have E:∀i,s.kn i->i≠j':=fun i⟨x,G⟩e=>by subst e;rw[R]at G;cases G
 have f:∀i ci,(AS.mk s.t ((j',some cs)::(j,none)::s.b)).bx i=some ci->(i=j'/\ci=cs)∨(i≠j'/\i≠j/\s.bx i=some ci):=fun i ci hi=>by
  by_cases e1:i=j'
  ·subst e1;rw[AS.bx_same]at hi;cases hi;exact .inl ⟨rfl,rfl⟩
  ·rw[AS.bx_ne _ s.t _ _ e1]at hi;by_cases p:i=j
   ·subst p;rw[AS.bx_dead]at hi;cases hi
   ·rw[AS.bx_ne _ s.t _ _ p]at hi;exact .inr ⟨e1,p,hi⟩
 have L:Own S0 (fun i=>if i=j' then g j else g i) (AS.mk s.t ((j',some cs)::(j,none)::s.b))=Own S0 g s:=by
  funext b;apply propext;constructor
  ·rintro(h0| ⟨i,ci,hi,e0⟩)
   ·exact .inl h0
   ·rcases f i ci hi with⟨rfl,rfl⟩| ⟨d,u,l⟩
    ·simp only[if_true]at e0;exact .inr ⟨j,ci,y,e0⟩
    ·simp only[d,if_false]at e0;exact .inr ⟨i,ci,l,e0⟩
  ·rintro(h0| ⟨i,ci,hi,e0⟩)
   ·exact .inl h0
   ·by_cases p:i=j
    ·subst p;exact .inr ⟨j',cs,AS.bx_same _ _ _ _,by simp only[if_true];exact e0⟩
    ·have d:=E i (AS.kn_of hi);refine .inr ⟨i,ci,?_,by simp only[d,if_false];exact e0⟩;rw[AS.bx_ne _ s.t _ _ d,AS.bx_ne _ s.t _ _ p];exact hi
 have H:jP s (AS.mk s.t ((j',some cs)::(j,none)::s.b)) g (fun i=>if i=j' then g j else g i) w w:=⟨fun z hz=>AS.kn_cons (t:=s.t) _ (AS.kn_cons (t:=s.t) _ hz),fun z cz hk hz=>by
  rcases f z cz hz with⟨e1,_⟩| ⟨d,u,l⟩
  ·exact absurd e1 (E z hk)
  ·exact⟨cz,l,l_ _,by simp only[d,if_false],fun a1 e1 h4=>⟨a1,h4,rfl⟩⟩⟩
 refine⟨fun i=>if i=j' then g j else g i,⟨fun i=>?_,fun i ci hi=>?_,fun i Q ci r hi N e0=>?_,h.grow,h.df.agree H,h.sz,h.cl,h.tg,fun k cs hk=>by rw[L];exact(h.gl k cs hk).agree (b7.refl _ _) (fun _ _ h=>h) H,fun i q ci d u hi=>by
  rcases f i ci hi with⟨e1,_⟩| ⟨l,h4,D⟩
  ·subst e1;rw[O]at d;cases d
  ·simp only[l,if_false];exact h.gp i q ci d u D,h.nk⟩,fun m k e v hm=>?_,fun i hi=>by simp only[hi,if_false]⟩
 ·rw[L];exact(h.tm i).agree (b7.refl _ _) (fun _ _ h=>h) H
 ·rw[L];rcases f i ci hi with⟨rfl,rfl⟩| ⟨d,u,l⟩
  ·simp only[if_true];obtain⟨d,I,e1,h4,D,W,_⟩:=h.bm j ci y;exact⟨d,I,e1,h4,D,fun X=>W (by rw[<- hw];exact X),fun Z=>absurd Z (by rw[F];decide),fun ht=>absurd (oC ht) (by rw[F];decide)⟩
  ·simp only[d,if_false];obtain⟨h4,D⟩:=h.bm i ci l;exact⟨h4,D.agree rfl (b7.refl _ _) (fun _ _ h=>h) H⟩
 ·rcases f i ci hi with⟨e1,_⟩| ⟨d,u,l⟩<;>rcases f Q r N with⟨A,_⟩| ⟨B,J,C⟩
  ·rw[e1,A]
  ·rw[if_pos e1,if_neg B]at e0;exact absurd (h.inj j Q cs r y C e0).symm J
  ·rw[if_neg d,if_pos A]at e0;exact absurd (h.inj i j ci cs l y e0) u
  ·rw[if_neg d,if_neg B]at e0;exact h.inj i Q ci r l C e0
 ·obtain⟨c,e1,p,S,U,V⟩:=hm.2 cs y;refine⟨⟨_,ap _ _ _⟩,fun ci hc=>?_⟩;rw[AS.bx_same]at hc;cases hc;simp only[if_true];exact⟨c,e1,p,S,U,V⟩
def MG.reslot{S0:Nat->Prop}{w0:fw}{g:Nat->Nat}{a:Act}{w:World}(h:MG n S0 w0 g s a w){q:Nat}{x:TV}(r:TV.M (Own S0 g s) g s w x (a.tmps.getD q Go.undef))(d:zx x=true)(e:zx (s.tv q)=true):MG n S0 w0 g ⟨(q,x)::s.t,s.b⟩ a w:=by
 refine⟨fun i=>?_,fun i f c=>?_,h.inj,h.grow,?_,h.sz,h.cl,h.tg,fun k j p=>(h.gl k j p).sameB rfl,h.gp,h.nk⟩
 ·by_cases c:q=i
  ·subst c;have e0:(AS.mk ((q,x)::s.t) s.b).tv q=x:=by simp[AS.tv,ap]
   rw[e0];exact r.sameB rfl
  ·have e0:(AS.mk ((q,x)::s.t) s.b).tv i=s.tv i:=by simp[AS.tv,az _ _ c]
   rw[e0];exact(h.tm i).sameB rfl
 ·obtain⟨l,m⟩:=h.bm i f c;exact⟨l,m.sameB rfl⟩
 ·by_cases c:q=DK
  ·have e0:(AS.mk ((q,x)::s.t) s.b).tv DK=x:=by rw[<- c];simp[AS.tv,ap]
   rw[e0];have h0:=h.df;rw[<- c]at h0;exact(AP.no d).2 ((AP.no e).1 h0)
  ·have e0:(AS.mk ((q,x)::s.t) s.b).tv DK=s.tv DK:=by simp[AS.tv,az _ _ c]
   rw[e0];exact h.df.sameB rfl
def a8{q j j' m k e:Nat}{cs:List AV}(i:s.tv q= .own j m k e)(r:s.bx j=some cs)(u:ak s.b j'=none)(v:cL j'=cL j)(d:iO j'=false:=by rfl)(c:cX j'=false:=by rfl):au s ⟨(q, .own j' m k e)::s.t,(j',some cs)::(j,none)::s.b⟩:=by rintro n x w0 a w ⟨g,h⟩;obtain⟨g',l,p,_⟩:=h.rename r u v d c;have f:=h.tm q;rw[i]at f;exact⟨g',l.reslot (p m k e _ f) rfl (by show zx (s.tv q)=true;rw[i];rfl)⟩
def aK{i off j j' m k e:Nat}{l cs:List AV}(f:cX i=true)(p:s.bx i=some l)(z:l[off]? =some (.ow j m k e))(F:s.bx j=some cs)(y:ak s.b j'=none)(G:cL j'=cL j)(d:Nat.beq i j=false)(r:iO j'=false:=by rfl)(q:cX j'=false:=by rfl):
 au s ⟨s.t,(i,some (l.set off (.ow j' m k e)))::(j',some cs)::(j,none)::s.b⟩:=by
 rintro n L w0 a w ⟨g,h⟩;have d:i≠j:=fun e=>by subst e;simp at d
 have c:i≠j':=fun e=>by subst e;obtain⟨x,A⟩:=AS.kn_of p;rw[y]at A;cases A
 obtain⟨g',C,D,E⟩:=h.rename F y G r q;obtain⟨_,B,e0,H,I,N,J,_⟩:=h.bm i l p;refine⟨g',C.recell (by rw[AS.bx_ne _ s.t _ _ c,AS.bx_ne _ s.t _ _ d];exact p) fun arr' e1 q1 v hlt hv=>?_⟩;rw[E i c,H]at q1;injection q1 with q1;injection q1 with q1 u;subst q1 u;exact⟨.ow (I.2 off _ v z hv).plain,fun _=>D m k e v (J f off _ v z hv)⟩
def jw{i off:Nat}{d:List AV}(j:s.bx i=some d)(p:d[off]? =some .nl):au s ⟨s.t,(i,some (d.set off (.sl 0 [])))::s.b⟩:=by rintro n x w0 a w ⟨g,h⟩;obtain⟨_,l,e0,r,u,_⟩:=h.bm i d j;refine⟨g,h.recell j fun f y c v m q=>?_⟩;rw[r]at c;injection c with c;injection c with c e;subst c e;have:=u.2 off _ v p q;cases this;exact⟨.emp (l_ _) D_ (fun _=>rfl),fun _=>trivial⟩
def eA{i off j m k e:Nat}{d cs:List AV}(c:cX i=true)(l:s.bx i=some d)(q:d[off]? =some (.ow j m k e))(p:s.bx j=some cs)(f:Nat.beq i j=false):au s ⟨s.t,(i,some (d.set off (.sl m cs)))::(j,none)::s.b⟩:=by rintro n r w0 a w ⟨g,h⟩;exact⟨g,h.freezeC c l q p (fun e=>by subst e;simp at f)⟩
end
section
variable {P:Program}{T:TypeId->Option Ty}{n:Nat}{ops:Array Oper}{id:Nat}{draw:Bool}{K:AS->Prop}{s:AS}{k:Nat}{o:Oper}{os:List Oper}{fps:List FP}
def MP{t:TypeId}{ty:Ty}{x:Operand}{i off:Nat}{cs:List AV}{a:AV}(v:cs[off]? =some a)(e:gd ops s o=some true)(f:o.op= .load t x)(m:T t=some ty)(p:ty.agg=false)(q:ty.size=1)(r:s.ev x= .box i off)(u:s.bx i=some cs)(j:aO n o.dst=true)(l:gO draw ops (aH ops o ⟨.d (.leaf a),none⟩ [i]) k fps=true)(h:aw P T n ops id draw K (k+1) os (s.eff o.dst ⟨.d (.leaf a),none⟩) (aH ops o ⟨.d (.leaf a),none⟩ [i]::fps))(b:cX i=false:=by rfl):aw P T n ops id draw K k (o::os) s fps:=by
 refine iw e ?_ j l h;obtain⟨c,A⟩:=G_.1 v;have y:Nat.ble (off+1) cs.length=true:=Nat.ble_eq_true_of_le c;have z:(cs.drop off).take 1=[a]:=by rw[List.drop_eq_getElem_cons c,A];rfl
 unfold fA;simp only[f,m,r,u,p,q,y,z,b];rfl
def Kr{t:TypeId}{ty:Ty}{x y:Operand}{i off:Nat}{cs cs':List AV}{a:AV}(u:off<cs.length)(v:dJ cs off [a]=cs')(e:gd ops s o=some true)(f:o.op= .store t x y)(h0:o.dst=none)(l:T t=some ty)(m:ty.size=1)(p:s.ev x= .box i off)(q:s.bx i=some cs)(b:JN (s.ev y)=some (.leaf a))(c:UQ i [a]=true)(j:gO draw ops (aH ops o ⟨.junk,some [(i,some cs')]⟩ [i]) k fps=true)(h:aw P T n ops id draw K (k+1) os (s.eff o.dst ⟨.junk,some [(i,some cs')]⟩) (aH ops o ⟨.junk,some [(i,some cs')]⟩ [i]::fps))(d:cX i=false:=by rfl):aw P T n ops id draw K k (o::os) s fps:=by refine iw e ?_ (by rw[h0];rfl) j h;have r:Nat.ble (off+1) cs.length=true:=Nat.ble_eq_true_of_le u;unfold fA;simp only[h0,f,l,p,q,m,r,b,DV.cells,c,v,d,Ng];rfl
end
def cx{t:TypeId}{x y:Operand}{a b:List UInt8}(h:a=b):mI .eql t x y (vL a) (vL b)=some (.bool true):=by rw[jj,T_ h]
def bA{t:TypeId}{x y:Operand}{a b:List UInt8}(h:a≠b):mI .eql t x y (vL a) (vL b)=some (.bool false):=by rw[jj,F_ h]
def eM{t:TypeId}{x y:Operand}{a b:List UInt8}(h:a≠b):mI .neq t x y (vL a) (vL b)=some (.bool true):=by rw[og,F_ h];rfl
def ee{t:TypeId}{x y:Operand}{a b:List UInt8}(h:a=b):mI .neq t x y (vL a) (vL b)=some (.bool false):=by rw[og,T_ h];rfl
section
variable {P:Program}{T:TypeId->Option Ty}{n:Nat}{ops:Array Oper}{id:Nat}{draw:Bool}{K:AS->Prop}{s:AS}{k:Nat}{o:Oper}{os:List Oper}{fps:List FP}
def IK(C:∀t d,T t=some d->bl P t d){t:TypeId}{ty:Ty}{x y:Operand}{l:List UInt8}{i:Nat}{ik:IntKind}(G:i<=l.length)(m:gd ops s o=some true)(b:o.op= .slice t x none (some y) none)(v:T t=some ty)(z:ty.isStr=true)(A:s.ev x= .d (.leaf (.val (vL l))))(B:s.ev y= .d (.leaf (.val (.int ik (i:Nat)))))(r:aO n o.dst=true)(u:gO draw ops (aH ops o ⟨.d (dL (l.take i)),none⟩ []) k fps=true)(h:aw P T n ops id draw K (k+1) os (s.eff o.dst ⟨.d (dL (l.take i)),none⟩) (aH ops o ⟨.d (dL (l.take i)),none⟩ []::fps)):aw P T n ops id draw K k (o::os) s fps:=by
 refine .run m (.gen fun H f _=>?_) r u h;have D:=(aP f (x:=x) (by simp[b,Op.operands])).trans A;have E:=(aP f (x:=y) (by simp[b,Op.operands])).trans B;have hu:=jv (C _ _ v) z;refine ar fun n F w0 g a w c=>⟨vL (l.take i),w,?_,Below.refl _ _,AV.M.val rfl⟩;unfold execOp;rw[b];have j:(Instr.sliceAt t (.string (Bs l)) none (some (.int ik i)) none).run P w= .ok (vL (l.take i)) w:=by refine H6 ?_;rw[run_slice_string_h w t (Bs l) hu ik i O_ (by rw[an];omega),jy];simp[vL]
 simp only[bn c D,bn c E,vL,Option.map_some,Option.map_none,Y_,j,R_];rfl
end
def dy(c:UInt8):Bool:=(decide (97<=c.toNat) && decide (c.toNat<=122)) || (decide (65<=c.toNat) && decide (c.toNat<=90))
def bC(c:UInt8):Bool:=decide (48<=c.toNat) && decide (c.toNat<=57)
def fF(c:UInt8):Bool:=dy c || bC c || decide (c.toNat=95)
def aT(p:UInt8->Bool)(s:List UInt8):Nat:=(s.takeWhile p).length
def gb(p:UInt8->Bool)(s:List UInt8):aT p s<=s.length:=by
 induction s with
 |nil=>exact l_ _
 |cons c r a=>
  unfold aT at *;rw[List.takeWhile_cons];split
  ·simpa using a
  ·simp
def nL{p:UInt8->Bool}:∀{s:List UInt8}{i:Nat},(∀(q:Nat)c,q<i->s[q]? =some c->p c=true)->(s[i]? =none/\i<=s.length∨ ∃c,s[i]? =some c/\p c=false)->aT p s=i
 | [],i,_,h=>by
  rcases h with⟨_,h⟩| ⟨c,h,_⟩
  ·simp at h;simp[aT,h]
  ·simp at h
 |a::s,0,_,h=>by
  rcases h with⟨h,_⟩| ⟨c,h,k⟩
  ·simp at h
  ·simp at h;subst h;simp[aT,List.takeWhile,k]
 |a::s,i+1,b,h=>by
  have h0:=b 0 a O_ rfl;have f:=nL (s:=s) (i:=i) (fun q c e d=>b (q+1) c O_ (by simpa using d)) (by simpa using h);unfold aT at *
  simp only[List.takeWhile,h0,List.length_cons];omega
def dF(f:FuncId):DV:= .leaf (.val (.func (.func f) #[] #[]))
def iW(c:UInt8):aa prog 38 [dN .u8 c.toNat] (.one (dB (dy c))):=by
 by_cases b:97<=c.toNat
 ·by_cases a:c.toNat<=122
  ·rw[show dy c=true by unfold dy;simp[b,a]];refine kU func38 ?_;refine iY ?_;refine Al ?_;exact am
  ·rw[show dy c=false by unfold dy;rw[F_ a,F_ (show ¬c.toNat<=90 by omega)];simp];refine kU func38 ?_;refine iY ?_;refine zH ?_;refine kO3 ?_;refine zH ?_;exact am
 ·by_cases a:65<=c.toNat
  ·by_cases d:c.toNat<=90
   ·rw[show dy c=true by unfold dy;simp[a,d]];refine kU func38 ?_;refine uX ?_;refine Al ?_;exact am
   ·rw[show dy c=false by unfold dy;rw[F_ b,F_ d];simp];refine kU func38 ?_;refine uX ?_;refine zH ?_;exact am
  ·rw[show dy c=false by unfold dy;rw[F_ b,F_ a];simp];refine kU func38 ?_;refine uX ?_;refine kE ?_;exact am
def mw(c:UInt8):aa prog 130 [dN .u8 c.toNat] (.one (dB (dy c))):=by
 by_cases b:97<=c.toNat
 ·by_cases a:c.toNat<=122
  ·rw[show dy c=true by unfold dy;simp[b,a]];refine kU func130 ?_;refine iY ?_;refine Al ?_;exact am
  ·rw[show dy c=false by unfold dy;rw[F_ a,F_ (show ¬c.toNat<=90 by omega)];simp];refine kU func130 ?_;refine iY ?_;refine zH ?_;refine kO3 ?_;refine zH ?_;exact am
 ·by_cases a:65<=c.toNat
  ·by_cases d:c.toNat<=90
   ·rw[show dy c=true by unfold dy;simp[a,d]];refine kU func130 ?_;refine uX ?_;refine Al ?_;exact am
   ·rw[show dy c=false by unfold dy;rw[F_ b,F_ d];simp];refine kU func130 ?_;refine uX ?_;refine zH ?_;exact am
  ·rw[show dy c=false by unfold dy;rw[F_ b,F_ a];simp];refine kU func130 ?_;refine uX ?_;refine kE ?_;exact am
def gF(c:UInt8):aa prog 83 [dN .u8 c.toNat] (.one (dB (bC c))):=by
 by_cases a:48<=c.toNat
 ·by_cases b:c.toNat<=57
  ·rw[show bC c=true by unfold bC;simp[a,b]];refine kU func83 ?_;refine iY ?_;refine Al ?_;exact am
  ·rw[show bC c=false by unfold bC;rw[F_ b];simp];refine kU func83 ?_;refine iY ?_;refine zH ?_;exact am
 ·rw[show bC c=false by unfold bC;rw[F_ a];simp];refine kU func83 ?_;refine iY ?_;refine kE ?_;exact am
def oA(c:UInt8):aa prog 131 [dN .u8 c.toNat] (.one (dB (bC c))):=by
 by_cases a:48<=c.toNat
 ·by_cases b:c.toNat<=57
  ·rw[show bC c=true by unfold bC;simp[a,b]];refine kU func131 ?_;refine iY ?_;refine Al ?_;exact am
  ·rw[show bC c=false by unfold bC;rw[F_ b];simp];refine kU func131 ?_;refine iY ?_;refine zH ?_;exact am
 ·rw[show bC c=false by unfold bC;rw[F_ a];simp];refine kU func131 ?_;refine iY ?_;refine kE ?_;exact am
def qU(c:UInt8):aa prog 40 [dN .u8 c.toNat] (.one (dB (fF c))):=by
 have c1:=iW c;have a:=gF c;unfold fF;cases h1:dy c
 ·rw[h1]at c1;cases h2:bC c
  ·rw[h2]at a;refine kU func40 ?_;refine pN ?_;refine kC a ?_;refine kO3 ?_;by_cases b:c.toNat=95
   ·refine kT ?_;rw[T_ b];exact am
   ·refine kE ?_;rw[F_ b];exact am
  ·rw[h2]at a;refine kU func40 ?_;refine pN ?_;refine kC a ?_;exact am
 ·rw[h1]at c1;refine kU func40 ?_;exact rV
def lK{fid:FuncId}{p:UInt8->Bool}(r:∀c:UInt8,aa prog fid [dN .u8 c.toNat] (.one (dB (p c))))(s:List UInt8)(v:s.length<=4611686018427387904):aa prog 39 [dL s,dF fid] (.one (dN .i64 (aT p s))):=by
 have u:=an s;refine kV func39 ?_;refine av Nat (fun i=>i<=s.length/\ ∀(q:Nat)c,q<i->s[q]? =some c->p c=true) (fun i=>⟨[(0, .d (dL s)),(1, .d (dF fid)),(4, .d (dN .i64 0)),(5, .d (dN .i64 i))],[]⟩) (fun i=>s.length-i) 0 ⟨Nat.zero_le _,fun q c h=>absurd h (Nat.not_lt_zero _)⟩
  kw ?_
 rintro i ⟨m,j⟩;refine kI ?_;refine kO3 ?_;by_cases a:i<s.length
 ·have l:s[i]? =some s[i]:=by simp[a]
  have b:=r s[i];refine kT ?_;refine kO4 ?_;refine bU ah (i:=i) (c:=s[i]) l rfl rfl rfl rfl rfl rfl rfl rfl ?_;cases hb:p s[i]
  ·rw[hb]at b;refine kQ b ?_;rw[nL j (.inr ⟨_,l,hb⟩)];exact co (T:=TT) rfl rfl
  ·rw[hb]at b;refine kQ b ?_;exact⟨i+1,⟨a,fun q c t f=>by
    by_cases e:q=i
    ·subst e;rw[l]at f;cases f;exact hb
    ·exact j q c O_ f⟩,by omega,weak ⟨rfl,rfl,rfl,aq O_ O_,trivial⟩ trivial rfl⟩
 ·refine kE ?_;refine kW ?_;rw[nL j (.inl ⟨List.getElem?_eq_none O_,m⟩)];exact co (T:=TT) rfl rfl
def jZ(s:List UInt8):Nat:=if s[aT bC s]? =some 46/\0<aT bC (s.drop (aT bC s+1))then aT bC s+1+aT bC (s.drop (aT bC s+1))else aT bC s
def yJ(s:List UInt8)(t:s.length<=4611686018427387903):aa prog 166 [dL s] (.one (dN .i64 (jZ s))):=by
 have r:=an s;have c1:=lK gF s O_;have u:=gb bC s;unfold jZ;generalize aT bC s=n at *
 by_cases j:n<s.length
 ·have hx:s[n]? =some s[n]:=by simp[j]
  by_cases a:s[n]=46
  ·have c2:=lK gF (s.drop (n+1)) (by rw[n_];omega);have l:=gb bC (s.drop (n+1));rw[n_]at l;generalize aT bC (s.drop (n+1))=m at *;have d:s[n]? =some 46:=by rw[hx,a]
   have b:s[n].toNat=46:=by rw[a];rfl
   by_cases f:0<m
   ·rw[if_pos ⟨d,f⟩];refine Eg ?_;refine MX ?_;refine I2 ?_;refine yg ?_;refine OL ?_;refine kT ?_;refine kG ?_;refine kO ?_;refine kJ ((n+1:Nat)) ?_;refine kO ?_;refine kJ ((n+1+m:Nat)) ?_;exact am
   ·rw[if_neg (fun h=>f h.2)];refine Eg ?_;refine MX ?_;refine I2 ?_;refine yg ?_;refine OL ?_;refine kE ?_;exact am
  ·have b:¬s[n].toNat=46:=fun e=>a (UInt8.toNat_inj.1 e);rw[if_neg (fun h=>by rw[hx]at h;exact a (Option.some.inj h.1))];refine Eg ?_;refine MX ?_;refine I2 ?_;refine kE ?_;exact am
 ·rw[if_neg (fun h=>by rw[List.getElem?_eq_none O_]at h;cases h.1)];refine Eg ?_;refine kO3 ?_;refine kE ?_;exact am
def jL(s:List UInt8)(c:UInt8):aa prog 168 [dL s,dN .u8 c.toNat] (.one (dN .i64 (Lib.indexByte s c))):=
 ⟨aD func168 rfl rfl,fun S w i j f=>by
  match i,f with
  | [v,u],⟨b,d,_⟩=>
   obtain rfl:=bc b;obtain rfl:=bc d;refine(Tryz.strings_IndexByte (Bs s) c.toNat w).mono ?_;rintro e w' ⟨rfl,rfl⟩;have a:Lib.indexByte (Bs s).data.toList ((c.toNat:Int).toNat.toUInt8)=Lib.indexByte s c:=by simp[Bs]
   rw[a];exact⟨_,rfl,AV.M.val rfl,Below.refl _ _⟩⟩
def ez:List UInt8->Nat->Nat
 | [],_=>0
 | [c],i=>if c=34 then i+1 else 0
 |c::d::r,i=>if c=34 then i+1 else if c.toNat<32 then 0 else if c=92 then(if Lib.indexByte [34,92,110] d<0 then 0 else ez r (i+2))else ez (d::r) (i+1)
def nH(s:List UInt8):Nat:=ez (s.drop 1) 1
def pL{r:List UInt8}{i:Nat}:ez (34::r) i=i+1:=by cases r<;>simp[ez]
def tc{c:UInt8}{r:List UInt8}{i:Nat}(h:c≠34)(a:c.toNat<32):ez (c::r) i=0:=by cases r<;>simp[ez,h,a]
def sE{c:UInt8}{i:Nat}(h:c≠34):ez [c] i=0:=by simp[ez,h]
def ov{d:UInt8}{r:List UInt8}{i:Nat}:ez (92::d::r) i=if Lib.indexByte [34,92,110] d<0 then 0 else ez r (i+2):=by simp[ez]
def rA{c:UInt8}{r:List UInt8}{i:Nat}(h:c≠34)(a:¬c.toNat<32)(b:c≠92):ez (c::r) i=ez r (i+1):=by
 cases r with
 |nil=>simp[ez,h]
 |cons d r=>simp[ez,h,a,b]
def dU{c:UInt8}{n:UInt8}(h:¬c=n):¬c.toNat=n.toNat:=fun e=>h (UInt8.toNat_inj.1 e)
def yq(s:List UInt8)(B:s.length<=4611686018427387903):aa prog 167 [dL s] (.one (dN .i64 (nH s))):=by
 have z:=an s;refine kV func167 ?_;refine av Nat (fun i=>1<=i/\(i<=s.length∨i=1)/\ez (s.drop i) i=nH s) (fun i=>⟨[(0, .d (dL s)),(2, .d (dN .i64 0)),(3, .d (dN .i64 i))],[]⟩) (fun i=>s.length+1-i) 1 ⟨l_ _, .inr rfl,rfl⟩
  kw ?_
 rintro i ⟨x,y,a⟩;refine kI ?_;refine kO3 ?_;by_cases m:i<s.length
 ·have hx:s[i]? =some s[i]:=by simp[m]
  rw[List.drop_eq_getElem_cons m]at a;generalize A:s[i]=c at *;refine yg ?_;refine Pf ?_;by_cases b:c=34
  ·have t:c.toNat=34:=by rw[b];rfl
   rw[b,pL]at a;refine kT ?_;refine yK ?_;rw[<- a];exact am
  ·have t:¬c.toNat=34:=dU b;refine Oy ?_;refine Pf ?_;by_cases l:c.toNat<32
   ·rw[tc b l]at a;refine kT ?_;rw[<- a];exact am
   ·refine Oy ?_;refine Pf ?_;by_cases f:c=92
    ·have u:c.toNat=92:=by rw[f];rfl
     refine kT ?_;refine yK ?_;refine kG ?_;refine kO3 ?_;by_cases v:i+1=s.length
     ·rw[List.drop_eq_nil_of_le O_,sE b]at a;refine kT ?_;rw[<- a];exact am
     ·have j:i+1<s.length:=O_;have hx2:s[i+1]? =some s[i+1]:=by simp[j]
      rw[List.drop_eq_getElem_cons j,f,ov]at a;generalize s[i+1]=d at *;refine kE ?_;refine kO3 ?_;refine B8 ?_;refine kC (jL [34,92,110] d) ?_;by_cases r:Lib.indexByte [34,92,110] d<0
      ·rw[if_pos r]at a;refine kB true ?_ ?_
       ·exact T_ r
       rw[<- a];exact am
      ·rw[if_neg r]at a;refine kB false ?_ ?_
       ·exact F_ r
       refine kW ?_;exact⟨i+2,⟨by omega, .inl O_,a⟩,by omega,weak ⟨rfl,rfl,aq O_ O_,trivial⟩ trivial rfl⟩
    ·have u:¬c.toNat=92:=dU f;rw[rA b l f]at a;refine kY ?_;exact⟨i+1,⟨by omega, .inl O_,a⟩,by omega,weak ⟨rfl,rfl,aq O_ O_,trivial⟩ trivial rfl⟩
 ·refine kE ?_;rw[List.drop_eq_nil_of_le O_,ez]at a;rw[<- a];exact am
def ie:List UInt8:=[43,45,42,47,40,41,91,93,123,125,44,58,59,61,46,60,62,64,35]
def uB(c:UInt8):Bool:=decide (0<=Lib.indexByte ie c)
def gx:List UInt8->Nat × Nat
 | []=>(0,0)
 |c::r=>if dy c then(1,aT fF (c::r))else if bC c then(2,jZ (c::r))else if c=34 then(3,nH (c::r))else if c=10 then(5,1)else if uB c then(4,1)else(0,0)
def FC(c:UInt8)(r:List UInt8)(f:(c::r).length<=4611686018427387903):aa prog 119 [dL (c::r)] (.tup [dN .i64 (gx (c::r)).1,dN .i64 (gx (c::r)).2]):=by
 have c1:=iW c;have c2:=gF c;cases h1:dy c
 ·rw[h1]at c1;cases h2:bC c
  ·rw[h2]at c2;by_cases a:c=34
   ·have j:c.toNat=34:=by rw[a];rfl
    rw[show gx (c::r)=(3,nH (c::r)) by rw[gx,h1,h2];simp[a]];refine y6 ?_;refine kG ?_;refine Aa ?_;refine kC (yq (c::r) f) ?_;exact am
   ·have j:¬c.toNat=34:=dU a;by_cases b:c=10
    ·have l:c.toNat=10:=by rw[b];rfl
     rw[show gx (c::r)=(5,1) by rw[gx,h1,h2];simp[a,b]];refine y6 ?_;refine kG ?_;refine kO ?_;refine kE ?_;refine kG ?_;refine kO ?_;refine kT ?_;exact am
    ·have l:¬c.toNat=10:=dU b;by_cases d:0<=Lib.indexByte ie c
     ·rw[show gx (c::r)=(4,1) by simp[gx,h1,h2,a,b,uB,d]];refine y6 ?_;refine kG ?_;refine kO ?_;refine kE ?_;refine kG ?_;refine tn ?_;refine kC (jL ie c) ?_;refine kB true ?_ ?_
      ·exact T_ d
      exact am
     ·rw[show gx (c::r)=(0,0) by simp[gx,h1,h2,a,b,uB,d]];refine y6 ?_;refine kG ?_;refine kO ?_;refine kE ?_;refine kG ?_;refine tn ?_;refine kC (jL ie c) ?_;refine kB false ?_ ?_
      ·exact F_ d
      exact am
  ·rw[h2]at c2;rw[show gx (c::r)=(2,jZ (c::r)) by simp[gx,h1,h2]];refine y6 ?_;refine kW ?_;refine kC (yJ (c::r) f) ?_;exact am
 ·rw[h1]at c1;rw[show gx (c::r)=(1,aT fF (c::r)) by simp[gx,h1]];refine kU func119 ?_;refine iY ?_;refine Lr ?_;refine pN ?_;refine ac (lK qU (c::r) O_) rfl rfl rfl rfl rfl rfl rfl ?_;exact am
end Go.Proofs.YtnchbpoopnjghaaGreatDoor
