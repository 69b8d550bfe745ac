/- Parts of a proof: contracts of the functions that the laws reach. -/
import Derived.Test.YtnchbpoopnjghaaGreatDoorRZ9
set_option maxHeartbeats 100000000
set_option linter.all false
open Go.Proofs.Tryz
namespace Go.Proofs.YtnchbpoopnjghaaGreatDoor
open Go.RowKit
section
variable {P:Program}{T:TypeId->Option Ty}{n:Nat}{ops:Array Oper}{id:Nat}{draw:Bool}{K:AS->Prop}{s:AS}{k:Nat}{o:Oper}{os:List Oper}{fps:List FP}
def GQ{t:TypeId}{ty:Ty}{a:Array (Nat × Operand)}{l:List (Nat × DV)}{cs:List AV}(u:bl P t ty)(b:ty.flds≠[])(m:gd ops s o=some true)(g:o.op= .build t a)(i:eE s a.toList=some l)(f:nI (wP ty) ty.zero l=some cs)(p:aO n o.dst=true)(q:gO draw ops (aH ops o ⟨.d (.agg cs),none⟩ []) k fps=true)(h:aw P T n ops id draw K (k+1) os (s.eff o.dst ⟨.d (.agg cs),none⟩) (aH ops o ⟨.d (.agg cs),none⟩ []::fps)):aw P T n ops id draw K k (o::os) s fps:=by
 refine .run m (.gen fun j e _=>?_) p q h;have c:eE j a.toList=some l:=by
  rw[<- i];have:∀x∈a.toList,j.ev x.2=s.ev x.2:=fun x v=>aP e (by rw[g];simp only[Op.operands];simp;exact⟨x.1,by simpa using v⟩);generalize a.toList=ps at this;clear i f;induction ps with
  |nil=>rfl
  |cons x r z=>simp only[eE];rw[this x S_,z fun y w=>this y (by simp[w])]
 exact qy u g b c f
end
def VI:Ty:=⟨true,5,88,[.val (.int .i64 0), .nl, .nl, .nl, .val (.int .i64 0)],[(0,1,false),(1,1,false),(2,1,false),(3,1,false),(4,1,false)],none,false,false,none⟩
def G3:bl prog 30 VI:=by have h:=ah 30 _ rfl;refine⟨h.size,h.bytes,h.und,⟨.agg #[.int .i64 0, .slice none 0 0, .slice none 0 0, .slice none 0 0, .int .i64 0],by kernel_rfl,fun S w=>?_⟩,rfl⟩;exact CM.cons (.val rfl) (CM.cons .nl (CM.cons .nl (CM.cons .nl (CM.cons (.val rfl) (CM.nil _ _)))))
def oQ(l:List Int):AV:=match l with
 | []=> .nl
 |a::r=> .ow 701 (a::r).length 1 3
def gw(l:List Int):Option (List AV):=match l with
 | []=>none
 |a::r=>some (bF (a::r))
def oR(l:List Int):AV:=match l with
 | []=> .nl
 |a::r=> .ow 703 (a::r).length 1 3
def UB(o:Option Cn):RV:=match o with
 |some c=> .tup [dC c,dN .i64 0]
 |none=> .tup [dC (oP 0),dN .i64 2]
def NN(l:List Rx):AV:=match l with
 | []=> .nl
 |a::r=> .ow 705 (a::r).length 7 40
def O6(l:List Rx):Option (List AV):=match l with
 | []=>none
 |a::r=>some (gc (a::r))
def y2:∀(l:List Rx)(x:Rx),gc (l++[x])=gc l++aR x
 | [],x=>by simp[gc]
 |a::r,x=>by rw[List.cons_append,gc,y2 r x,gc,e_]
def ro(l:List Rx)(x:Rx):NN (l++[x])= .ow 705 (l.length+1) 7 40:=by cases l<;>simp[NN]
def rH(l:List Rx)(x:Rx):O6 (l++[x])=some ((gc l).take (l.length*7)++aR x):=by have h:(gc l).take (l.length*7)=gc l:=K_ (Nat.le_of_eq (D7 l));rw[h,<- y2];cases l<;>simp[O6]
def vP(pf:PF)(t:L8):∀l:List L8,gn pf (l++[t])=(match gn pf l,pf t with
  |some b, .ok e=>some (b++[e])
  |_,_=>none)
 | []=>by rw[List.nil_append,gn,gn];cases pf t<;>rfl
 |a::r=>by
  rw[List.cons_append,gn,gn,vP pf t r];cases pf a with
  |error _=>rfl
  |ok x=>cases gn pf r<;>cases pf t<;>rfl
def yL(pf:PF){t:L8}{q:Nat × Int}(h:pf t= .error q):∀l:List L8,t∈l->gn pf l=none
 | [],b=>by cases b
 |a::r,b=>by
  rw[gn];rcases f_.1 b with rfl|b
  ·rw[h]
  ·cases pf a with
   |error _=>rfl
   |ok x=>simp only[yL pf h r b,Option.map_none]
def RH(s b:L8)(a:List L8)(k:Int)(i:Nat)(d:Cn):AS:=
 ⟨[(0, .d (dL s)),(5, .d (dL b)),(10, .box 801 0),(11, .d (dL (gt k))),(12, .d (dL (gJ k))),(53, .d (oT a)),(54, .d (dN .i64 a.length)),(55, .d (dN .i64 i)),(2, .box 0 0)],
  [(0,some (cC 0 [] [] [] 0)),(801,some [.val (.int .i64 k),oQ d.ps,oR d.cs, .nl, .val (.int .i64 d.s)]),(701,gw d.ps),(703,gw d.cs)]⟩
def iH(a:List Int)(z:Int):oQ (a++[z])= .ow 701 (a.length+1) 1 3:=by cases a<;>simp[oQ]
def iM(a:List Int)(z:Int):oR (a++[z])= .ow 703 (a.length+1) 1 3:=by cases a<;>simp[oR]
def dq(a:List Int)(z:Int):gw (a++[z])=some ((bF a).take (a.length*1)++[.val (.int .i64 z)]):=by
 have h:(bF a).take (a.length*1)=bF a:=by rw[o_];exact K_ (Nat.le_of_eq (Kj a))
 rw[h];cases a<;>simp[gw,bF]
def jT{b:L8}(c:b≠[]):∀n(s:L8),s.length<=n-> ∀w∈Lib.split s b,w.length<=s.length
 |0,s,f,w,a=>by
  rw[lD c]at a;have d:= @mU s b;split at a
  ·rename_i e;have:=kM c e;omega
  ·rw[d_.1 a];exact d.1
 |n+1,s,f,w,a=>by
  rw[lD c]at a;have d:= @mU s b;split at a
  ·rename_i e;have g:=kM c e;rcases f_.1 a with rfl|a
   ·exact d.1
   ·have:=jT c n _ O_ w a;omega
  ·rw[d_.1 a];exact d.1
def BK(s:L8)(hl:s.length<=65536)(pf:PF)(h:L8)(u:L8)(hb:Bool)(hc:Lib.cut s [32,61,32]=(h,u,hb))(n:L8)(f:List L8)(hw:Lib.split h [32]=n::f)(W:u≠[]-> ∀t∈Lib.split u [44,32],aa prog 35 [dL t] (gD (pf t)))(X:u≠[]-> ∀t∈Lib.split u [44,32],∀q v,pf t= .error (q,v)->v≠0)(d:Cn)(hd:f.foldl (mL (gY n)) (oP (gY n))=d)(O:Option Cn)(G:∀J,(if u=[]then some []else gn pf (Lib.split u [44,32]))=some J-> ∃tF eF,aa prog 25 [.agg (cC (gY n) d.ps d.cs (J.map rx) d.s)] (.tup [dL tF,dN .i64 eF])/\O=if eF=0/\tF=s then some ⟨gY n,d.ps,d.cs,J.map rx,d.s⟩else none)(H:(if u=[]then some []else gn pf (Lib.split u [44,32]))=none->O=none):
 aa prog 26 [dL s] (UB O):=by
 have F:=M0 s [32,61,32] O_;rw[hc]at F;have bj:h.length<=s.length/\u.length<=s.length:=by have:= @mU s [32,61,32];rw[hc]at this;exact this
 have cW:=yW h [32] O_ S_;rw[hw]at cW;have cK:=FE n;have hsz:=an s;have ad:∀w∈f,w.length<=65536:=fun w hm=>by have:=jT (b:=[32]) S_ h.length h (l_ _) w (by rw[hw];exact List.mem_cons_of_mem _ hm);omega
 have be:f.length<=1000000:=by have E:=lS (s:=h) (b:=[32]) S_;have L:=Lib.count_le h [32];rw[hw,List.length_cons]at E;omega
 have cD:=tA (gY n);unfold So at cK;generalize gY n=k at *;have Y:= @ii (n::f) 0 n rfl;refine kV func26 ?_;refine eR (T:=TT) rfl ?_ ?_
 ·exact F_ O_
 refine bB ?_;refine kW ?_;refine kQ F ?_;refine kQ cW ?_;refine aS (i:=0) (cs':=[.val (vL n)]) (Z_ _) Y (Z_ 0) rfl rfl rfl rfl rfl rfl rfl rfl ?_;refine kO ?_;refine kC cK ?_;refine kN ?_;refine kI ?_;refine kO ?_;refine GQ G3 (by simp[VI]) rfl rfl rfl rfl rfl rfl ?_;refine M3 801 ah rfl rfl rfl rfl rfl rfl rfl rfl rfl rfl ?_;refine kW ?_;refine kC cD ?_;refine kN ?_;obtain⟨dk,B,A,y,r⟩:=d;dsimp only at G;refine ks ⟨[(0, .d (dL s)),(5, .d (dL u)),(10, .box 801 0),(2, .box 0 0)],[(0,some (cC 0 [] [] [] 0)),(801,some [.val (.int .i64 k), .sl B.length (bF B), .sl A.length (bF A), .nl, .val (.int .i64 r)])]⟩ (fun s' hw=>?_) (fun R hR hret=>?_)
 ·clear F cW cK cD Y ad be hd;have cT:=yW u [44,32] O_ S_;have a9:(Lib.split u [44,32]).length<=65538:=by have E:=lS (s:=u) (b:=[44,32]) S_;have L:=Lib.count_le u [44,32];omega
  obtain⟨D,Q⟩:∃D,Lib.split u [44,32]=D:=⟨_,rfl⟩;rw[Q]at cT a9 W X G H;clear Q;refine GU (α:=List Ex) (fun J=>⟨[(0, .d (dL s)),(10, .box 801 0),(2, .box 0 0)],[(0,some (cC 0 [] [] [] 0)),(801,some (cC k B A (J.map rx) r))]⟩) (fun J=>(if u=[]then some []else gn pf D)=some J) (fun J I s2 bb=>?_) (fun R hR hret=>?_)
  ·obtain⟨tF,eF,cF,rfl⟩:=G J I;clear G H W X I cT;refine bH ?_;refine iU bb rfl ?_;refine kO ?_;refine kC cF ?_;refine kG ?_;refine kO ?_;by_cases he:eF=0
   ·refine kB false ?_ ?_
    ·exact(by simp[he])
    refine kO3 ?_;by_cases Q:tF=s
    ·rw[if_pos ⟨he,Q⟩];refine aj rfl rfl rfl rfl rfl rfl rfl (ee (a:=tF) (b:=s) Q) ?_;exact am
    ·rw[if_neg (fun h=>Q h.2)];refine aj rfl rfl rfl rfl rfl rfl rfl (eM (a:=tF) (b:=s) Q) ?_;exact am
   ·rw[if_neg (fun h=>he h.1)];refine kB true ?_ ?_
    ·exact(by simp[he])
    exact am
  ·refine qH ?_;refine kO ?_;by_cases U:u=[]
   ·rw[if_pos U]at hR;refine aj rfl rfl rfl rfl rfl rfl rfl (ee (a:=u) (b:=[]) U) ?_;refine kW ?_;exact hR [] rfl _ (au.trans (jw (i:=801) (off:=3) rfl rfl) kw)
   ·rw[if_neg U]at hR H
    replace W:=W U
    replace X:=X U
    refine aj rfl rfl rfl rfl rfl rfl rfl (eM (a:=u) (b:=[]) U) ?_;refine kW ?_;refine kQ cT ?_;refine av (Nat × List Ex) (fun x=>x.1<=D.length/\gn pf (D.take x.1)=some x.2/\x.2.length<=x.1) (fun x=>⟨[(0, .d (dL s)),(10, .box 801 0),(2, .box 0 0),(95, .d (oT D)),(96, .d (dN .i64 D.length)),(97, .d (dN .i64 x.1))],[(0,some (cC 0 [] [] [] 0)),(801,some [.val (.int .i64 k), .sl B.length (bF B), .sl A.length (bF A),NN (x.2.map rx), .val (.int .i64 r)]),(705,O6 (x.2.map rx))]⟩) (fun x=>D.length-x.1) (0,[]) ⟨Nat.zero_le _,rfl,l_ _⟩ kw ?_;rintro⟨i,J⟩ ⟨hi,I,a0⟩;dsimp only at hi I a0 ⊢;by_cases hlt:i<D.length
    ·obtain⟨t,hx⟩:∃t,D[i]? =some t:=⟨D[i],by simp[hlt]⟩;have hm:=M_ hx;have hat:=ii hx;have c1:=W t hm;have N:=vP pf t (D.take i);rw[<- bT hx,I]at N;cases hpt:pf t with
     |error q=>
      obtain⟨q,v⟩:=q;have hv:=X t hm q v hpt;rw[hpt]at c1;have hO:=H (yL pf hpt D hm);subst hO;clear G H W X cT N;cases J with
      |nil=>
       refine UF ?_;refine kG ?_;refine kO ?_;refine kB true ?_ ?_
       ·exact(by simp[hv])
       exact EE
      |cons e0 S=>
       refine UF ?_;refine kG ?_;refine kO ?_;refine kB true ?_ ?_
       ·exact(by simp[hv])
       exact EE
     |ok e=>
      rw[hpt]at N c1;have N:gn pf (D.take (i+1))=some (J++[e]):=N;have ag:(J++[e]).map rx=J.map rx++[rx e]:=S_;clear G H W X cT;obtain⟨o1,a1,a4,a2,a5,a3,n1,al,hX⟩:=aJ (rx e);have c1:aa prog 35 [dL t] (.tup [dR (rx e),dN .i64 0,dN .i64 0]):=c1;rw[show dR (rx e)= .agg (af o1 a1 a4 a2 a5 a3 n1 al) from congrArg DV.agg hX]at c1;cases J with
      |nil=>refine SH ?_;refine pN ?_;refine Pl ?_;refine⟨(i+1,[]++[e]),⟨hlt,N,Nat.succ_le_succ a0⟩,by dsimp only;omega,?_⟩;show au _ ⟨[(0, .d (dL s)),(10, .box 801 0),(2, .box 0 0),(95, .d (oT D)),(96, .d (dN .i64 D.length)),(97, .d (dN .i64 (i+1:Nat)))],[(0,some (cC 0 [] [] [] 0)),(801,some [.val (.int .i64 k), .sl B.length (bF B), .sl A.length (bF A),NN ((([]:List Ex)++[e]).map rx), .val (.int .i64 r)]),(705,O6 ((([]:List Ex)++[e]).map rx))]⟩;rw[ag,ro,rH,hX];exact au.trans (b:=⟨[(0, .d (dL s)),(10, .box 801 0),(2, .box 0 0),(95, .d (oT D)),(96, .d (dN .i64 D.length)),(97, .d (dN .i64 (i+1:Nat)))],[(0,some (cC 0 [] [] [] 0)),(801,some [.val (.int .i64 k), .sl B.length (bF B), .sl A.length (bF A), .ow 706 ((([]:List Ex).map rx).length+1) 7 40, .val (.int .i64 r)]),(706,some ((gc (([]:List Ex).map rx)).take ((([]:List Ex).map rx).length*7)++af o1 a1 a4 a2 a5 a3 n1 al))]⟩) (weak ⟨rfl,rfl,rfl,rfl,rfl,aq O_ O_,trivial⟩ ⟨rfl,rfl,rfl,trivial⟩ rfl) ((aK (i:=801) (off:=3) (j:=706) (j':=705) (m:=(([]:List Ex).map rx).length+1) (k:=7) (e:=40) rfl rfl rfl rfl rfl rfl rfl).trans kw)
      |cons e0 S=>
       have bk:((e0::S).map rx).length<=65538:=by rw[j_];omega
       refine SH ?_;refine pN ?_;refine fR 706 (m1:=((e0::S).map rx).length) (m2:=1) ah D_ (by show(((e0::S).map rx).length+1)*112<=_;omega) rfl rfl rfl rfl rfl rfl rfl rfl rfl rfl (.own rfl rfl) rfl rfl rfl rfl ?_;refine kW ?_;refine⟨(i+1,(e0::S)++[e]),⟨hlt,N,by rw[L_];exact Nat.succ_le_succ a0⟩,by dsimp only;omega,?_⟩;show au _ ⟨[(0, .d (dL s)),(10, .box 801 0),(2, .box 0 0),(95, .d (oT D)),(96, .d (dN .i64 D.length)),(97, .d (dN .i64 (i+1:Nat)))],[(0,some (cC 0 [] [] [] 0)),(801,some [.val (.int .i64 k), .sl B.length (bF B), .sl A.length (bF A),NN (((e0::S)++[e]).map rx), .val (.int .i64 r)]),(705,O6 (((e0::S)++[e]).map rx))]⟩;rw[ag,ro,rH,hX];exact au.trans (b:=⟨[(0, .d (dL s)),(10, .box 801 0),(2, .box 0 0),(95, .d (oT D)),(96, .d (dN .i64 D.length)),(97, .d (dN .i64 (i+1:Nat)))],[(0,some (cC 0 [] [] [] 0)),(801,some [.val (.int .i64 k), .sl B.length (bF B), .sl A.length (bF A), .ow 706 (((e0::S).map rx).length+1) 7 40, .val (.int .i64 r)]),(706,some ((gc ((e0::S).map rx)).take (((e0::S).map rx).length*7)++af o1 a1 a4 a2 a5 a3 n1 al))]⟩) (weak ⟨rfl,rfl,rfl,rfl,rfl,aq O_ O_,trivial⟩ ⟨rfl,rfl,rfl,trivial⟩ rfl) ((aK (i:=801) (off:=3) (j:=706) (j':=705) (m:=((e0::S).map rx).length+1) (k:=7) (e:=40) rfl rfl rfl rfl rfl rfl rfl).trans kw)
    ·rw[K_ O_]at I;clear G H W X cT;cases J with
     |nil=>refine kI ?_;refine kY ?_;exact hR [] I _ (au.trans (jw (i:=801) (off:=3) rfl rfl) kw)
     |cons e0 S=>refine kI ?_;refine kY ?_;exact hR (e0::S) I _ (au.trans (eA (i:=801) (off:=3) (j:=705) rfl rfl rfl rfl rfl) kw)
 ·refine kW ?_;refine Q7 (m:=f.length+1) (i:=1) (d:=f.length) ah (by show(fD (n::f)).length<=_;rw[zO];simp) O_ O_ rfl rfl rfl rfl rfl rfl rfl rfl ?_;refine kW ?_;refine av (Nat × Cn) (fun x=>x.1<=f.length/\(f.take x.1).foldl (mL k) (oP k)=x.2/\x.2.ps.length<=x.1/\x.2.cs.length<=x.1) (fun x=>RH s u f k x.1 x.2) (fun x=>f.length-x.1) (0,oP k) ⟨Nat.zero_le _,rfl,Nat.zero_le _,Nat.zero_le _⟩ kw ?_;rintro⟨i,d⟩ ⟨hi,C,l,g⟩;dsimp only at hi C l g ⊢;by_cases hlt:i<f.length
  ·obtain⟨w,hx⟩:∃w,f[i]? =some w:=⟨f[i],by simp[hlt]⟩;have hat:=ii hx;have bm:=ad w (M_ hx);have c1:=u7 112 w O_;have c2:=u7 99 w O_;obtain⟨dk,B,A,y,r⟩:=d;have c:(f.take (i+1)).foldl (mL k) (oP k)=mL k ⟨dk,B,A,y,r⟩ w:=by rw[bT hx,List.foldl_append,C];rfl
   dsimp only at l g;clear F cK cD cW Y ad W C;have ao:(∃z,m9 112 w=some z)∨(m9 112 w=none/\ ∃z,m9 99 w=some z)∨(m9 112 w=none/\m9 99 w=none/\w=gt k)∨(m9 112 w=none/\m9 99 w=none/\w≠gt k/\w=gJ k)∨(m9 112 w=none/\m9 99 w=none/\w≠gt k/\w≠gJ k):=by
    cases E:m9 112 w with
    |some z=>exact .inl ⟨z,rfl⟩
    |none=>cases L:m9 99 w with
     |some z=>exact .inr (.inl ⟨rfl,z,rfl⟩)
     |none=>
      by_cases V:w=gt k
      ·exact .inr (.inr (.inl ⟨rfl,rfl,V⟩))
      ·by_cases e2:w=gJ k
       ·exact .inr (.inr (.inr (.inl ⟨rfl,rfl,V,e2⟩)))
       ·exact .inr (.inr (.inr (.inr ⟨rfl,rfl,V,e2⟩)))
   rcases ao with⟨z,E⟩| ⟨E,z,L⟩| ⟨E,L,V⟩| ⟨E,L,V,e2⟩| ⟨E,L,V,e2⟩
   ·have Z:mL k ⟨dk,B,A,y,r⟩ w=⟨dk,B++[z],A,y,r⟩:=by unfold mL;rw[E]
    rw[Ez E,E]at c1;rw[Z]at c;rcases B with _| ⟨p0,pr⟩<;>rcases A with _| ⟨q0,qr⟩
    all_goals
     unfold RH;refine kI ?_;refine kX ?_;refine aS (i:=i) (cs':=[.val (vL w)]) hlt hat (Z_ 0) rfl rfl rfl rfl rfl rfl rfl rfl ?_;refine kW ?_;refine kQ c1 ?_
    ·refine NR ?_;refine⟨(i+1,⟨dk,([])++[z],[],y,r⟩),⟨hlt,c,by dsimp only at *;rw[L_];exact Nat.succ_le_succ l,Nat.le_succ_of_le g⟩,by dsimp only;omega,?_⟩;show au _ ⟨[(0, .d (dL s)),(5, .d (dL u)),(10, .box 801 0),(11, .d (dL (gt k))),(12, .d (dL (gJ k))),(53, .d (oT f)),(54, .d (dN .i64 f.length)),(55, .d (dN .i64 (i+1:Nat))),(2, .box 0 0)],[(0,some (cC 0 [] [] [] 0)),(801,some [.val (.int .i64 k),oQ (([])++[z]),oR ([]), .nl, .val (.int .i64 r)]),(701,gw (([])++[z])),(703,gw ([]))]⟩;rw[iH,dq];exact au.trans (b:=⟨[(0, .d (dL s)),(5, .d (dL u)),(10, .box 801 0),(11, .d (dL (gt k))),(12, .d (dL (gJ k))),(53, .d (oT f)),(54, .d (dN .i64 f.length)),(55, .d (dN .i64 (i+1:Nat))),(2, .box 0 0)],[(0,some (cC 0 [] [] [] 0)),(801,some [.val (.int .i64 k), .ow 702 (([]:List Int).length+1) 1 3,oR ([]), .nl, .val (.int .i64 r)]),(702,some ((bF ([])).take (([]:List Int).length*1)++[.val (.int .i64 z)])),(703,gw ([]))]⟩) (weak ⟨rfl,rfl,rfl,rfl,rfl,rfl,rfl,aq O_ O_,rfl,trivial⟩ ⟨rfl,rfl,rfl,trivial⟩ rfl) ((aK (i:=801) (off:=1) (j:=702) (j':=701) (m:=([]:List Int).length+1) (k:=1) (e:=3) rfl rfl rfl rfl rfl rfl rfl).trans kw)
    ·refine NR ?_;refine⟨(i+1,⟨dk,([])++[z],q0::qr,y,r⟩),⟨hlt,c,by dsimp only at *;rw[L_];exact Nat.succ_le_succ l,Nat.le_succ_of_le g⟩,by dsimp only;omega,?_⟩;show au _ ⟨[(0, .d (dL s)),(5, .d (dL u)),(10, .box 801 0),(11, .d (dL (gt k))),(12, .d (dL (gJ k))),(53, .d (oT f)),(54, .d (dN .i64 f.length)),(55, .d (dN .i64 (i+1:Nat))),(2, .box 0 0)],[(0,some (cC 0 [] [] [] 0)),(801,some [.val (.int .i64 k),oQ (([])++[z]),oR (q0::qr), .nl, .val (.int .i64 r)]),(701,gw (([])++[z])),(703,gw (q0::qr))]⟩;rw[iH,dq];exact au.trans (b:=⟨[(0, .d (dL s)),(5, .d (dL u)),(10, .box 801 0),(11, .d (dL (gt k))),(12, .d (dL (gJ k))),(53, .d (oT f)),(54, .d (dN .i64 f.length)),(55, .d (dN .i64 (i+1:Nat))),(2, .box 0 0)],[(0,some (cC 0 [] [] [] 0)),(801,some [.val (.int .i64 k), .ow 702 (([]:List Int).length+1) 1 3,oR (q0::qr), .nl, .val (.int .i64 r)]),(702,some ((bF ([])).take (([]:List Int).length*1)++[.val (.int .i64 z)])),(703,gw (q0::qr))]⟩) (weak ⟨rfl,rfl,rfl,rfl,rfl,rfl,rfl,aq O_ O_,rfl,trivial⟩ ⟨rfl,rfl,rfl,rfl,trivial⟩ rfl) ((aK (i:=801) (off:=1) (j:=702) (j':=701) (m:=([]:List Int).length+1) (k:=1) (e:=3) rfl rfl rfl rfl rfl rfl rfl).trans kw)
    ·refine Qj ?_;refine⟨(i+1,⟨dk,(p0::pr)++[z],[],y,r⟩),⟨hlt,c,by dsimp only at *;rw[L_];exact Nat.succ_le_succ l,Nat.le_succ_of_le g⟩,by dsimp only;omega,?_⟩;show au _ ⟨[(0, .d (dL s)),(5, .d (dL u)),(10, .box 801 0),(11, .d (dL (gt k))),(12, .d (dL (gJ k))),(53, .d (oT f)),(54, .d (dN .i64 f.length)),(55, .d (dN .i64 (i+1:Nat))),(2, .box 0 0)],[(0,some (cC 0 [] [] [] 0)),(801,some [.val (.int .i64 k),oQ ((p0::pr)++[z]),oR ([]), .nl, .val (.int .i64 r)]),(701,gw ((p0::pr)++[z])),(703,gw ([]))]⟩;rw[iH,dq];exact au.trans (b:=⟨[(0, .d (dL s)),(5, .d (dL u)),(10, .box 801 0),(11, .d (dL (gt k))),(12, .d (dL (gJ k))),(53, .d (oT f)),(54, .d (dN .i64 f.length)),(55, .d (dN .i64 (i+1:Nat))),(2, .box 0 0)],[(0,some (cC 0 [] [] [] 0)),(801,some [.val (.int .i64 k), .ow 702 ((p0::pr:List Int).length+1) 1 3,oR ([]), .nl, .val (.int .i64 r)]),(702,some ((bF (p0::pr)).take ((p0::pr:List Int).length*1)++[.val (.int .i64 z)])),(703,gw ([]))]⟩) (weak ⟨rfl,rfl,rfl,rfl,rfl,rfl,rfl,aq O_ O_,rfl,trivial⟩ ⟨rfl,rfl,rfl,trivial⟩ rfl) ((aK (i:=801) (off:=1) (j:=702) (j':=701) (m:=(p0::pr:List Int).length+1) (k:=1) (e:=3) rfl rfl rfl rfl rfl rfl rfl).trans kw)
    ·refine Qj ?_;refine⟨(i+1,⟨dk,(p0::pr)++[z],q0::qr,y,r⟩),⟨hlt,c,by dsimp only at *;rw[L_];exact Nat.succ_le_succ l,Nat.le_succ_of_le g⟩,by dsimp only;omega,?_⟩;show au _ ⟨[(0, .d (dL s)),(5, .d (dL u)),(10, .box 801 0),(11, .d (dL (gt k))),(12, .d (dL (gJ k))),(53, .d (oT f)),(54, .d (dN .i64 f.length)),(55, .d (dN .i64 (i+1:Nat))),(2, .box 0 0)],[(0,some (cC 0 [] [] [] 0)),(801,some [.val (.int .i64 k),oQ ((p0::pr)++[z]),oR (q0::qr), .nl, .val (.int .i64 r)]),(701,gw ((p0::pr)++[z])),(703,gw (q0::qr))]⟩;rw[iH,dq];exact au.trans (b:=⟨[(0, .d (dL s)),(5, .d (dL u)),(10, .box 801 0),(11, .d (dL (gt k))),(12, .d (dL (gJ k))),(53, .d (oT f)),(54, .d (dN .i64 f.length)),(55, .d (dN .i64 (i+1:Nat))),(2, .box 0 0)],[(0,some (cC 0 [] [] [] 0)),(801,some [.val (.int .i64 k), .ow 702 ((p0::pr:List Int).length+1) 1 3,oR (q0::qr), .nl, .val (.int .i64 r)]),(702,some ((bF (p0::pr)).take ((p0::pr:List Int).length*1)++[.val (.int .i64 z)])),(703,gw (q0::qr))]⟩) (weak ⟨rfl,rfl,rfl,rfl,rfl,rfl,rfl,aq O_ O_,rfl,trivial⟩ ⟨rfl,rfl,rfl,rfl,trivial⟩ rfl) ((aK (i:=801) (off:=1) (j:=702) (j':=701) (m:=(p0::pr:List Int).length+1) (k:=1) (e:=3) rfl rfl rfl rfl rfl rfl rfl).trans kw)
   ·have Z:mL k ⟨dk,B,A,y,r⟩ w=⟨dk,B,A++[z],y,r⟩:=by unfold mL;rw[E,L]
    rw[E]at c1;rw[Ez L,L]at c2;rw[Z]at c;generalize Gh 112 w=z1 at *;rcases B with _| ⟨p0,pr⟩<;>rcases A with _| ⟨q0,qr⟩
    all_goals
     unfold RH;refine kI ?_;refine kX ?_;refine aS (i:=i) (cs':=[.val (vL w)]) hlt hat (Z_ 0) rfl rfl rfl rfl rfl rfl rfl rfl ?_;refine kW ?_;refine kQ c1 ?_;refine kQ c2 ?_
    ·refine PU ?_;refine⟨(i+1,⟨dk,[],([])++[z],y,r⟩),⟨hlt,c,Nat.le_succ_of_le l,by dsimp only at *;rw[L_];exact Nat.succ_le_succ g⟩,by dsimp only;omega,?_⟩;show au _ ⟨[(0, .d (dL s)),(5, .d (dL u)),(10, .box 801 0),(11, .d (dL (gt k))),(12, .d (dL (gJ k))),(53, .d (oT f)),(54, .d (dN .i64 f.length)),(55, .d (dN .i64 (i+1:Nat))),(2, .box 0 0)],[(0,some (cC 0 [] [] [] 0)),(801,some [.val (.int .i64 k),oQ ([]),oR (([])++[z]), .nl, .val (.int .i64 r)]),(701,gw ([])),(703,gw (([])++[z]))]⟩;rw[iM,dq];exact au.trans (b:=⟨[(0, .d (dL s)),(5, .d (dL u)),(10, .box 801 0),(11, .d (dL (gt k))),(12, .d (dL (gJ k))),(53, .d (oT f)),(54, .d (dN .i64 f.length)),(55, .d (dN .i64 (i+1:Nat))),(2, .box 0 0)],[(0,some (cC 0 [] [] [] 0)),(801,some [.val (.int .i64 k),oQ ([]), .ow 704 (([]:List Int).length+1) 1 3, .nl, .val (.int .i64 r)]),(704,some ((bF ([])).take (([]:List Int).length*1)++[.val (.int .i64 z)])),(701,gw ([]))]⟩) (weak ⟨rfl,rfl,rfl,rfl,rfl,rfl,rfl,aq O_ O_,rfl,trivial⟩ ⟨rfl,rfl,rfl,trivial⟩ rfl) ((aK (i:=801) (off:=2) (j:=704) (j':=703) (m:=([]:List Int).length+1) (k:=1) (e:=3) rfl rfl rfl rfl rfl rfl rfl).trans kw)
    ·refine P1 ?_;refine⟨(i+1,⟨dk,[],(q0::qr)++[z],y,r⟩),⟨hlt,c,Nat.le_succ_of_le l,by dsimp only at *;rw[L_];exact Nat.succ_le_succ g⟩,by dsimp only;omega,?_⟩;show au _ ⟨[(0, .d (dL s)),(5, .d (dL u)),(10, .box 801 0),(11, .d (dL (gt k))),(12, .d (dL (gJ k))),(53, .d (oT f)),(54, .d (dN .i64 f.length)),(55, .d (dN .i64 (i+1:Nat))),(2, .box 0 0)],[(0,some (cC 0 [] [] [] 0)),(801,some [.val (.int .i64 k),oQ ([]),oR ((q0::qr)++[z]), .nl, .val (.int .i64 r)]),(701,gw ([])),(703,gw ((q0::qr)++[z]))]⟩;rw[iM,dq];exact au.trans (b:=⟨[(0, .d (dL s)),(5, .d (dL u)),(10, .box 801 0),(11, .d (dL (gt k))),(12, .d (dL (gJ k))),(53, .d (oT f)),(54, .d (dN .i64 f.length)),(55, .d (dN .i64 (i+1:Nat))),(2, .box 0 0)],[(0,some (cC 0 [] [] [] 0)),(801,some [.val (.int .i64 k),oQ ([]), .ow 704 ((q0::qr:List Int).length+1) 1 3, .nl, .val (.int .i64 r)]),(704,some ((bF (q0::qr)).take ((q0::qr:List Int).length*1)++[.val (.int .i64 z)])),(701,gw ([]))]⟩) (weak ⟨rfl,rfl,rfl,rfl,rfl,rfl,rfl,aq O_ O_,rfl,trivial⟩ ⟨rfl,rfl,rfl,trivial⟩ rfl) ((aK (i:=801) (off:=2) (j:=704) (j':=703) (m:=(q0::qr:List Int).length+1) (k:=1) (e:=3) rfl rfl rfl rfl rfl rfl rfl).trans kw)
    ·refine PU ?_;refine⟨(i+1,⟨dk,p0::pr,([])++[z],y,r⟩),⟨hlt,c,Nat.le_succ_of_le l,by dsimp only at *;rw[L_];exact Nat.succ_le_succ g⟩,by dsimp only;omega,?_⟩;show au _ ⟨[(0, .d (dL s)),(5, .d (dL u)),(10, .box 801 0),(11, .d (dL (gt k))),(12, .d (dL (gJ k))),(53, .d (oT f)),(54, .d (dN .i64 f.length)),(55, .d (dN .i64 (i+1:Nat))),(2, .box 0 0)],[(0,some (cC 0 [] [] [] 0)),(801,some [.val (.int .i64 k),oQ (p0::pr),oR (([])++[z]), .nl, .val (.int .i64 r)]),(701,gw (p0::pr)),(703,gw (([])++[z]))]⟩;rw[iM,dq];exact au.trans (b:=⟨[(0, .d (dL s)),(5, .d (dL u)),(10, .box 801 0),(11, .d (dL (gt k))),(12, .d (dL (gJ k))),(53, .d (oT f)),(54, .d (dN .i64 f.length)),(55, .d (dN .i64 (i+1:Nat))),(2, .box 0 0)],[(0,some (cC 0 [] [] [] 0)),(801,some [.val (.int .i64 k),oQ (p0::pr), .ow 704 (([]:List Int).length+1) 1 3, .nl, .val (.int .i64 r)]),(704,some ((bF ([])).take (([]:List Int).length*1)++[.val (.int .i64 z)])),(701,gw (p0::pr))]⟩) (weak ⟨rfl,rfl,rfl,rfl,rfl,rfl,rfl,aq O_ O_,rfl,trivial⟩ ⟨rfl,rfl,rfl,rfl,trivial⟩ rfl) ((aK (i:=801) (off:=2) (j:=704) (j':=703) (m:=([]:List Int).length+1) (k:=1) (e:=3) rfl rfl rfl rfl rfl rfl rfl).trans kw)
    ·refine P1 ?_;refine⟨(i+1,⟨dk,p0::pr,(q0::qr)++[z],y,r⟩),⟨hlt,c,Nat.le_succ_of_le l,by dsimp only at *;rw[L_];exact Nat.succ_le_succ g⟩,by dsimp only;omega,?_⟩;show au _ ⟨[(0, .d (dL s)),(5, .d (dL u)),(10, .box 801 0),(11, .d (dL (gt k))),(12, .d (dL (gJ k))),(53, .d (oT f)),(54, .d (dN .i64 f.length)),(55, .d (dN .i64 (i+1:Nat))),(2, .box 0 0)],[(0,some (cC 0 [] [] [] 0)),(801,some [.val (.int .i64 k),oQ (p0::pr),oR ((q0::qr)++[z]), .nl, .val (.int .i64 r)]),(701,gw (p0::pr)),(703,gw ((q0::qr)++[z]))]⟩;rw[iM,dq];exact au.trans (b:=⟨[(0, .d (dL s)),(5, .d (dL u)),(10, .box 801 0),(11, .d (dL (gt k))),(12, .d (dL (gJ k))),(53, .d (oT f)),(54, .d (dN .i64 f.length)),(55, .d (dN .i64 (i+1:Nat))),(2, .box 0 0)],[(0,some (cC 0 [] [] [] 0)),(801,some [.val (.int .i64 k),oQ (p0::pr), .ow 704 ((q0::qr:List Int).length+1) 1 3, .nl, .val (.int .i64 r)]),(704,some ((bF (q0::qr)).take ((q0::qr:List Int).length*1)++[.val (.int .i64 z)])),(701,gw (p0::pr))]⟩) (weak ⟨rfl,rfl,rfl,rfl,rfl,rfl,rfl,aq O_ O_,rfl,trivial⟩ ⟨rfl,rfl,rfl,rfl,trivial⟩ rfl) ((aK (i:=801) (off:=2) (j:=704) (j':=703) (m:=(q0::qr:List Int).length+1) (k:=1) (e:=3) rfl rfl rfl rfl rfl rfl rfl).trans kw)
   ·have Z:mL k ⟨dk,B,A,y,r⟩ w=⟨dk,B,A,y,1⟩:=by unfold mL;rw[E,L];exact if_pos V
    rw[E]at c1;rw[L]at c2;rw[Z]at c;generalize Gh 112 w=z1 at *;generalize Gh 99 w=z2 at *;rcases B with _| ⟨p0,pr⟩<;>rcases A with _| ⟨q0,qr⟩
    all_goals
     unfold RH;refine kI ?_;refine kX ?_;refine aS (i:=i) (cs':=[.val (vL w)]) hlt hat (Z_ 0) rfl rfl rfl rfl rfl rfl rfl rfl ?_;refine kW ?_;refine kQ c1 ?_;refine kC c2 ?_;iterate 2 refine kG ?_
     refine kO2 ?_;refine aj rfl rfl rfl rfl rfl rfl rfl (cx (a:=w) (b:=gt k) V) ?_;refine kW ?_
    ·exact⟨(i+1,⟨dk,[],[],y,1⟩),⟨hlt,c,Nat.le_succ_of_le l,Nat.le_succ_of_le g⟩,by dsimp only;omega,weak ⟨rfl,rfl,rfl,rfl,rfl,rfl,rfl,aq O_ O_,rfl,trivial⟩ ⟨rfl,rfl,trivial⟩ rfl⟩
    ·exact⟨(i+1,⟨dk,[],q0::qr,y,1⟩),⟨hlt,c,Nat.le_succ_of_le l,Nat.le_succ_of_le g⟩,by dsimp only;omega,weak ⟨rfl,rfl,rfl,rfl,rfl,rfl,rfl,aq O_ O_,rfl,trivial⟩ ⟨rfl,rfl,rfl,trivial⟩ rfl⟩
    ·exact⟨(i+1,⟨dk,p0::pr,[],y,1⟩),⟨hlt,c,Nat.le_succ_of_le l,Nat.le_succ_of_le g⟩,by dsimp only;omega,weak ⟨rfl,rfl,rfl,rfl,rfl,rfl,rfl,aq O_ O_,rfl,trivial⟩ ⟨rfl,rfl,rfl,trivial⟩ rfl⟩
    ·exact⟨(i+1,⟨dk,p0::pr,q0::qr,y,1⟩),⟨hlt,c,Nat.le_succ_of_le l,Nat.le_succ_of_le g⟩,by dsimp only;omega,weak ⟨rfl,rfl,rfl,rfl,rfl,rfl,rfl,aq O_ O_,rfl,trivial⟩ ⟨rfl,rfl,rfl,rfl,trivial⟩ rfl⟩
   ·have Z:mL k ⟨dk,B,A,y,r⟩ w=⟨dk,B,A,y,(-1)⟩:=by unfold mL;rw[E,L];exact(if_neg V).trans (if_pos e2)
    rw[E]at c1;rw[L]at c2;rw[Z]at c;generalize Gh 112 w=z1 at *;generalize Gh 99 w=z2 at *;rcases B with _| ⟨p0,pr⟩<;>rcases A with _| ⟨q0,qr⟩
    all_goals
     unfold RH;refine kI ?_;refine kX ?_;refine aS (i:=i) (cs':=[.val (vL w)]) hlt hat (Z_ 0) rfl rfl rfl rfl rfl rfl rfl rfl ?_;refine kW ?_;refine kQ c1 ?_;refine kC c2 ?_;iterate 2 refine kG ?_
     refine kO2 ?_;refine aj rfl rfl rfl rfl rfl rfl rfl (bA (a:=w) (b:=gt k) V) ?_;refine kG ?_;refine kO2 ?_;refine aj rfl rfl rfl rfl rfl rfl rfl (cx (a:=w) (b:=gJ k) e2) ?_;refine kW ?_
    ·exact⟨(i+1,⟨dk,[],[],y,(-1)⟩),⟨hlt,c,Nat.le_succ_of_le l,Nat.le_succ_of_le g⟩,by dsimp only;omega,weak ⟨rfl,rfl,rfl,rfl,rfl,rfl,rfl,aq O_ O_,rfl,trivial⟩ ⟨rfl,rfl,trivial⟩ rfl⟩
    ·exact⟨(i+1,⟨dk,[],q0::qr,y,(-1)⟩),⟨hlt,c,Nat.le_succ_of_le l,Nat.le_succ_of_le g⟩,by dsimp only;omega,weak ⟨rfl,rfl,rfl,rfl,rfl,rfl,rfl,aq O_ O_,rfl,trivial⟩ ⟨rfl,rfl,rfl,trivial⟩ rfl⟩
    ·exact⟨(i+1,⟨dk,p0::pr,[],y,(-1)⟩),⟨hlt,c,Nat.le_succ_of_le l,Nat.le_succ_of_le g⟩,by dsimp only;omega,weak ⟨rfl,rfl,rfl,rfl,rfl,rfl,rfl,aq O_ O_,rfl,trivial⟩ ⟨rfl,rfl,rfl,trivial⟩ rfl⟩
    ·exact⟨(i+1,⟨dk,p0::pr,q0::qr,y,(-1)⟩),⟨hlt,c,Nat.le_succ_of_le l,Nat.le_succ_of_le g⟩,by dsimp only;omega,weak ⟨rfl,rfl,rfl,rfl,rfl,rfl,rfl,aq O_ O_,rfl,trivial⟩ ⟨rfl,rfl,rfl,rfl,trivial⟩ rfl⟩
   ·have Z:mL k ⟨dk,B,A,y,r⟩ w=⟨dk,B,A,y,r⟩:=by unfold mL;rw[E,L];exact(if_neg V).trans (if_neg e2)
    rw[E]at c1;rw[L]at c2;rw[Z]at c;generalize Gh 112 w=z1 at *;generalize Gh 99 w=z2 at *;rcases B with _| ⟨p0,pr⟩<;>rcases A with _| ⟨q0,qr⟩
    all_goals
     unfold RH;refine kI ?_;refine kX ?_;refine aS (i:=i) (cs':=[.val (vL w)]) hlt hat (Z_ 0) rfl rfl rfl rfl rfl rfl rfl rfl ?_;refine kW ?_;refine kQ c1 ?_;refine kC c2 ?_;iterate 2 refine kG ?_
     refine kO2 ?_;refine aj rfl rfl rfl rfl rfl rfl rfl (bA (a:=w) (b:=gt k) V) ?_;refine kG ?_;refine kO2 ?_;refine aj rfl rfl rfl rfl rfl rfl rfl (bA (a:=w) (b:=gJ k) e2) ?_;refine kW ?_
    ·exact⟨(i+1,⟨dk,[],[],y,r⟩),⟨hlt,c,Nat.le_succ_of_le l,Nat.le_succ_of_le g⟩,by dsimp only;omega,weak ⟨rfl,rfl,rfl,rfl,rfl,rfl,rfl,aq O_ O_,rfl,trivial⟩ ⟨rfl,rfl,trivial⟩ rfl⟩
    ·exact⟨(i+1,⟨dk,[],q0::qr,y,r⟩),⟨hlt,c,Nat.le_succ_of_le l,Nat.le_succ_of_le g⟩,by dsimp only;omega,weak ⟨rfl,rfl,rfl,rfl,rfl,rfl,rfl,aq O_ O_,rfl,trivial⟩ ⟨rfl,rfl,rfl,trivial⟩ rfl⟩
    ·exact⟨(i+1,⟨dk,p0::pr,[],y,r⟩),⟨hlt,c,Nat.le_succ_of_le l,Nat.le_succ_of_le g⟩,by dsimp only;omega,weak ⟨rfl,rfl,rfl,rfl,rfl,rfl,rfl,aq O_ O_,rfl,trivial⟩ ⟨rfl,rfl,rfl,trivial⟩ rfl⟩
    ·exact⟨(i+1,⟨dk,p0::pr,q0::qr,y,r⟩),⟨hlt,c,Nat.le_succ_of_le l,Nat.le_succ_of_le g⟩,by dsimp only;omega,weak ⟨rfl,rfl,rfl,rfl,rfl,rfl,rfl,aq O_ O_,rfl,trivial⟩ ⟨rfl,rfl,rfl,rfl,trivial⟩ rfl⟩
  ·rw[K_ O_,hd]at C;subst C;clear F cK cD cW Y ad W X G H hd;rcases B with _| ⟨p0,pr⟩<;>rcases A with _| ⟨q0,qr⟩
   all_goals
    unfold RH;refine kI ?_;refine kY ?_
   ·exact PX
   ·exact Po
   ·exact Pj
   ·exact OK
section
variable {P:Program}{T:TypeId->Option Ty}{n:Nat}{ops:Array Oper}{id:Nat}{draw:Bool}{K:AS->Prop}{s:AS}{k:Nat}{o:Oper}{os:List Oper}{fps:List FP}
def Cb{z:Int}(h0:0<=z)(b:z<128):Utf8.encode z=Bs [UInt8.ofNat z.toNat]:=by
 have a:Utf8.valid z=true:=by unfold Utf8.valid;simp;omega
 unfold Utf8.encode;simp only[a,if_true];rw[if_pos O_];rfl
def S7(m:∀t d,T t=some d->bl P t d){t j:TypeId}{ty b:Ty}{x:Operand}{q:IntKind}{z:Int}{c:UInt8}(i:0<=z/\z<128/\UInt8.ofNat z.toNat=c)(p:gd ops s o=some true)(l:o.op= .convert t j x)(v:T t=some ty)(y:T j=some b)(e:b.isStr=true)(f:s.ev x= .d (.leaf (.val (.int q z))))(r:aO n o.dst=true)(u:gO draw ops (aH ops o ⟨.d (dL [c]),none⟩ []) k fps=true)(h:aw P T n ops id draw K (k+1) os (s.eff o.dst ⟨.d (dL [c]),none⟩) (aH ops o ⟨.d (dL [c]),none⟩ []::fps)):aw P T n ops id draw K k (o::os) s fps:=by refine .run p (.gen fun G C _=>?_) r u h;have E:=(aP C (x:=x) (by simp[l,Op.operands])).trans f;have D:=jv (m _ _ y) e;obtain⟨d,B,_⟩:=(m _ _ v).und;refine ar fun n F H g a w A=>⟨vL [c],w,?_,Below.refl _ _,AV.M.val rfl⟩;unfold execOp;rw[l];simp only[bn A E,Y_,run_convert_int_string w t j q z (by rw[B];rfl) D,R_,Cb i.1 i.2.1,i.2.2];rfl
end
def Ih{n a:Nat}{t:L8}(c:(t=[]/\a=n)∨(t≠[]/\fmt n=ka a++t))(h:t=[]∨0<a):fmt n=ka (a/10)++dg (a%10)::t:=by
 have b:0<a->ka a=ka (a/10)++[dg (a%10)]:=fun h=>dr O_;rcases c with⟨rfl,rfl⟩| ⟨e,d⟩
 ·by_cases h0:a=0
  ·subst h0;rw[cZ];rfl
  ·rw[<- c_ (ka (a/10)++_),e_];have:fmt (a:Int)=ka a:=by unfold fmt;rw[if_neg O_,if_neg O_];rfl
   rw[this,b O_];simp
 ·rw[d,b (h.resolve_left e)];simp
def mj{z:Int}(h0:0<=z)(l:z<200):aa prog 67 [dN .i64 z] (.one (dL (fmt z))):=by
 have u:=lN h0 l;obtain⟨n,rfl⟩:=Int.eq_ofNat_of_zero_le h0;refine kV func67 ?_;refine av (Nat × L8) (fun p=>p.1<=n/\((p.2=[]/\p.1=n)∨(p.2≠[]/\fmt n=ka p.1++p.2))) (fun p=>⟨[(0, .d (dN .i64 p.1)),(3, .d (dL p.2))],[]⟩) (fun p=>p.1+(if p.2=[]then 1 else 0)) (n,[]) ⟨l_ _, .inl ⟨rfl,rfl⟩⟩ kw ?_;rintro⟨a,t⟩ ⟨ha,i⟩;dsimp only at ha i ⊢;have j:a%10<10:=Nat.mod_lt _ D_;have hst:=Ih i;by_cases g:t=[]
 ·have hst:=hst (.inl g);have f:=congrArg List.length hst;rw[L_,List.length_cons]at f;refine kI ?_;refine kO ?_;refine aj rfl rfl rfl rfl rfl rfl rfl (cx (a:=t) (b:=[]) g) ?_;refine Us ?_;rw[if_pos g,if_neg S_];omega
 ·by_cases m:0<a
  ·have hst:=hst (.inr m);have f:=congrArg List.length hst;rw[L_,List.length_cons]at f;refine kI ?_;refine kO ?_;refine aj rfl rfl rfl rfl rfl rfl rfl (bA (a:=t) (b:=[]) g) ?_;refine kO2 ?_;refine kT ?_;refine Us ?_;rw[if_neg g,if_neg S_];omega
  ·have r:fmt n=t:=by
    rcases i with⟨h,_⟩| ⟨_,h⟩
    ·exact absurd h g
    ·rw[h,show a=0 by omega,cZ];rfl
   refine kI ?_;refine kO ?_;refine aj rfl rfl rfl rfl rfl rfl rfl (bA (a:=t) (b:=[]) g) ?_;refine kO2 ?_;refine kY ?_;rw[r];exact co (T:=TT) rfl rfl
def rf(l:List L8):L8:=l.flatMap fun w=>32::w
def Dj(x:L8):∀l:List L8,Lib.join (x::l) [32]=x++rf l:=by
 intro l;induction l generalizing x with
 |nil=>rw[Lib.join_one];simp[rf]
 |cons y r a=>rw[ij,a y];simp[rf]
def Df(a b:List L8):rf (a++b)=rf a++rf b:=by simp[rf]
def xi{m:Nat}:∀{l:List L8},(∀w∈l,w.length<=m)->(rf l).length<=(m+1)*l.length
 | [],_=>l_ _
 |w::l,h=>by
  have b:=h w S_;have c:=xi (l:=l) fun w a=>h w (by simp[a]);have e:rf (w::l)=32::w++rf l:=by simp[rf]
  rw[e,L_,List.length_cons,List.length_cons,Nat.mul_add];omega
def Ek{m:Nat}:∀(b a:List L8),(∀t∈b,t.length<=m)->(xZ (a++b)).length<=(xZ a).length+(m+3)*b.length
 | [],a,_=>by rw[c_];exact l_ _
 |u::b,a,h=>by
  have e:=h u S_;have c:=Ek b (a++[u]) fun t d=>h t (by simp[d]);rw[nw,L_,L_,e_]at c;have f:(if a=[]then [32,61,32]else [44,32]:L8).length<=3:=by split <;>simp
  rw[List.length_cons,Nat.mul_add];simp only[List.cons_append,List.nil_append]at c;omega
def G0(k:Int):(gt k).length<=7/\(gJ k).length<=7:=by unfold gt gJ;constructor <;>split <;>simp
def IQ(a:L8)(A:List L8)(w:L8):a++rf (A++[w])=(a++rf A)++32::w:=by simp[rf]
def tJ{z:Int}(h:0<=z/\z<200):(mA z).length<=4/\(qR z).length<=4:=by have:=lN h.1 h.2;unfold mA qR;simp;omega
def zK{c:Cn}{r:Kd}(h:NB c r 200 200)(tx:Rx->L8)(Z:∀x∈c.vs,aa prog 68 [dR x] (.one (dL (tx x))))(hlen:(Et r c (c.vs.map tx)).length<=65536):aa prog 27 [dC c] (.one (dL (Et r c (c.vs.map tx)))):=by
 have hd:=ru h.k;have al:=h.pl;have ag:=h.cl;have ao:=h.vl;have E:=wa c.k;rw[h.k]at E;have D:=h.s;have F:=h.p;have J:=h.c;clear h;obtain⟨k,f,g,vs,s⟩:=c;obtain⟨A,O,L,N,S,Q,I⟩:=r;dsimp only at *;unfold Et at hlen ⊢;have hW:Lib.join (BG ⟨A,O,L,N,S,Q,I⟩ ⟨k,f,g,vs,s⟩) [32]=A++rf (f.map mA++g.map qR++q7 ⟨k,f,g,vs,s⟩):=Dj _ _;rw[hW]at hlen ⊢;clear hW;show aa prog _ [.agg (cC k f g vs s)] _;have E:aa prog 31 [dN .i64 k] (.tup [.agg [.val (vL A), .val (.int .i64 O), .val (.int .i64 L), .val (.int .i64 N), .val (.int .i64 S), .val (.int .i64 Q), .val (.bool I)],dB true]):=E;refine kV func27 ?_;refine kQ E ?_;refine av (Nat × L8) (fun x=>x.1<=f.length/\x.2=A++rf ((f.take x.1).map mA)) (fun x=>⟨[(1, .box 0 0),(3, .box 1006 0),(5, .d (dL x.2)),(6, .d (dN .i64 x.1))],[(0,some (cC k f g vs s)),(1006,some [.val (vL A), .val (.int .i64 O), .val (.int .i64 L), .val (.int .i64 N), .val (.int .i64 S), .val (.int .i64 Q), .val (.bool I)])]⟩) (fun x=>f.length-x.1) (0,A) ⟨Nat.zero_le _,by simp[rf]⟩ kw ?_;rintro⟨i,u⟩ ⟨B,j⟩;dsimp only at B j ⊢;refine kI ?_;refine kO4 ?_;by_cases hlt:i<f.length
 ·refine kT ?_;have v:=F _ (List.getElem_mem hlt);have hat:=bd (Q_ hlt);have hu2:u++([32,112]++fmt f[i])=A++rf ((f.take (i+1)).map mA):=by rw[j,bT (Q_ hlt),List.map_append,Df,e_];simp[rf,mA]
  have H:u.length<=20+5*i:=by
   have:=xi (m:=4) (l:=(f.take i).map mA) fun w hw=>by obtain⟨z,v,rfl⟩:=List.mem_map.1 hw;exact(tJ (F z (List.mem_of_mem_take v))).1
   rw[j_,U_]at this;rw[j,L_];omega
  have X:=lN v.1 v.2;generalize f[i]=z at *;have V:=mj v.1 v.2;refine My ?_;refine kO ?_;refine kC V ?_;refine aj rfl rfl rfl rfl rfl rfl rfl (aA (a:=[32,112]) (b:=fmt z) (by simp;omega)) ?_;refine aj rfl rfl rfl rfl rfl rfl rfl (aA (a:=u) (b:=[32,112]++fmt z) (by simp;omega)) ?_;refine kW ?_;exact⟨(i+1,u++([32,112]++fmt z)),⟨hlt,hu2⟩,by dsimp only;omega,weak ⟨rfl,rfl,rfl,aq O_ O_,trivial⟩ ⟨rfl,rfl,trivial⟩ rfl⟩
 refine kE ?_;rw[K_ O_]at j;refine kW ?_;refine av (Nat × L8) (fun x=>x.1<=g.length/\x.2=A++rf (f.map mA++(g.take x.1).map qR)) (fun x=>⟨[(1, .box 0 0),(3, .box 1006 0),(5, .d (dL x.2)),(7, .d (dN .i64 x.1))],[(0,some (cC k f g vs s)),(1006,some [.val (vL A), .val (.int .i64 O), .val (.int .i64 L), .val (.int .i64 N), .val (.int .i64 S), .val (.int .i64 Q), .val (.bool I)])]⟩) (fun x=>g.length-x.1) (0,u) ⟨Nat.zero_le _,by simpa using j⟩ kw ?_;clear hlt B j i u;rintro⟨i,u⟩ ⟨B,j⟩;dsimp only at B j ⊢;have H:u.length<=40+5*i:=by
  have:=xi (m:=4) (l:=f.map mA++(g.take i).map qR) fun w hw=>by
   rcases List.mem_append.1 hw with hw|hw
   ·obtain⟨z,v,rfl⟩:=List.mem_map.1 hw;exact(tJ (F z v)).1
   ·obtain⟨z,v,rfl⟩:=List.mem_map.1 hw;exact(tJ (J z (List.mem_of_mem_take v))).2
  rw[L_,j_,j_,U_]at this;rw[j,L_];omega
 refine kI ?_;refine kO4 ?_;by_cases hlt:i<g.length
 ·refine kT ?_;have v:=J _ (List.getElem_mem hlt);have hat:=bd (Q_ hlt);have hu2:u++([32,99]++fmt g[i])=A++rf (f.map mA++(g.take (i+1)).map qR):=by rw[j,bT (Q_ hlt),List.map_append,<- e_ (f.map mA),Df _ (List.map qR [g[i]]),e_];simp[rf,qR]
  have X:=lN v.1 v.2;generalize g[i]=z at *;have V:=mj v.1 v.2;refine My ?_;refine kO ?_;refine kC V ?_;refine aj rfl rfl rfl rfl rfl rfl rfl (aA (a:=[32,99]) (b:=fmt z) (by simp;omega)) ?_;refine aj rfl rfl rfl rfl rfl rfl rfl (aA (a:=u) (b:=[32,99]++fmt z) (by simp;omega)) ?_;refine kW ?_;exact⟨(i+1,u++([32,99]++fmt z)),⟨hlt,hu2⟩,by dsimp only;omega,weak ⟨rfl,rfl,rfl,aq O_ O_,trivial⟩ ⟨rfl,rfl,trivial⟩ rfl⟩
 refine kE ?_;rw[K_ O_]at j;refine kG ?_;refine kN ?_;refine ks ⟨[(1, .box 0 0),(5, .d (dL (A++rf (f.map mA++g.map qR++q7 ⟨k,f,g,vs,s⟩))))],[(0,some (cC k f g vs s))]⟩ (fun s' hw=>?_) (fun R y G=>?_)
 ·clear j H hlt B E F J D;clear i u;generalize A++rf (f.map mA++g.map qR++q7 ⟨k,f,g,vs,s⟩)=W at *;refine qH ?_;refine kW ?_;refine av (Nat × L8) (fun x=>x.1<=vs.length/\x.2=W++xZ ((vs.take x.1).map tx)) (fun x=>⟨[(1, .box 0 0),(5, .d (dL x.2)),(9, .d (dN .i64 x.1))],[(0,some (cC k f g vs s))]⟩) (fun x=>vs.length-x.1) (0,W) ⟨Nat.zero_le _,by simp[xZ]⟩ kw ?_;rintro⟨i,u⟩ ⟨B,j⟩;dsimp only at B j ⊢;refine kI ?_;refine kO4 ?_;by_cases hlt:i<vs.length
  ·refine kT ?_;obtain⟨x,Y⟩:∃x,vs[i]? =some x:=⟨vs[i],by simp[hlt]⟩;have U:=Z x (M_ Y);have hat:=fO vs i x Y;have hu2:(u++(if i=0 then [32,61,32]else [44,32]))++tx x=W++xZ ((vs.take (i+1)).map tx):=by rw[bT Y,List.map_append,List.map_cons,List.map_nil,nw,j,e_,e_];exact PE
   have ad:u.length+(tx x).length<=65536:=by exact PB
   obtain⟨o1,na1,xs1,nb1,ys1,nm1,n1',cs1,hX⟩:=aJ x;rw[show dR x= .agg (af o1 na1 xs1 nb1 ys1 nm1 n1' cs1) from congrArg DV.agg hX]at U;rw[hX]at hat;generalize tx x=t at *
   by_cases h0:i=0
   ·rw[if_pos h0]at hu2;refine kG ?_;refine kO ?_;refine kB true ?_ ?_
    ·exact(by simp[h0])
    refine kG ?_;refine kO ?_;refine aj rfl rfl rfl rfl rfl rfl rfl (aA (a:=u) (b:=[32,61,32]) (by simp;omega)) ?_;refine kW ?_;refine Lg ?_;refine kO ?_;refine kC U ?_;refine aj rfl rfl rfl rfl rfl rfl rfl (aA (a:=u++[32,61,32]) (b:=t) (by simp;omega)) ?_;refine kW ?_;exact⟨(i+1,(u++[32,61,32])++t),⟨hlt,hu2⟩,by dsimp only;omega,weak ⟨rfl,rfl,aq O_ O_,trivial⟩ ⟨rfl,trivial⟩ rfl⟩
   ·rw[if_neg h0]at hu2;refine kG ?_;refine kO ?_;refine kB false ?_ ?_
    ·exact(by simp[h0])
    refine kG ?_;refine kO ?_;refine aj rfl rfl rfl rfl rfl rfl rfl (aA (a:=u) (b:=[44,32]) (by simp;omega)) ?_;refine kW ?_;refine Lg ?_;refine kO ?_;refine kC U ?_;refine aj rfl rfl rfl rfl rfl rfl rfl (aA (a:=u++[44,32]) (b:=t) (by simp;omega)) ?_;refine kW ?_;exact⟨(i+1,(u++[44,32])++t),⟨hlt,hu2⟩,by dsimp only;omega,weak ⟨rfl,rfl,aq O_ O_,trivial⟩ ⟨rfl,trivial⟩ rfl⟩
  ·refine kE ?_;rw[K_ O_]at j;refine j9 ?_;rw[j];rfl
 ·clear G hlen F J Z E;cases I with
  |false=>
   obtain rfl:s=0:=by unfold xY at D;simpa using D
   rw[show f.map mA++g.map qR++q7 ⟨k,f,g,vs,0⟩=f.map mA++g.map qR from c_ _,<- j]at y;refine kW ?_;exact y _ kw
  |true=>
   have D:s=1∨s= -1:=by unfold xY at D;simpa using D
   rcases D with rfl|rfl
   ·rw[show q7 ⟨k,f,g,vs,1⟩=[gt k] from rfl,IQ,<- j]at y;unfold gt at y;refine kW ?_;refine fH rfl (fun C=>?_) (fun C=>?_)
    ·rw[if_pos (h_ C)]at y;refine kW ?_;refine aS (i:=1) (cs':=[.val (vL [32,111,117,116,115,105,100,101])]) D_ (@ii [[32,105,110,115,105,100,101],[32,111,117,116,115,105,100,101]] 1 _ rfl) (Z_ 0) rfl rfl rfl rfl rfl rfl rfl rfl ?_;refine kO ?_;refine aj rfl rfl rfl rfl rfl rfl rfl (aA (a:=u) (b:=[32,111,117,116,115,105,100,101]) (by simp;omega)) ?_;refine kW ?_;exact y _ kw
    ·rw[if_neg (of_decide_eq_false C)]at y;refine kW ?_;refine aS (i:=1) (cs':=[.val (vL [32,108,101,102,116])]) D_ (@ii [[32,114,105,103,104,116],[32,108,101,102,116]] 1 _ rfl) (Z_ 0) rfl rfl rfl rfl rfl rfl rfl rfl ?_;refine kO ?_;refine aj rfl rfl rfl rfl rfl rfl rfl (aA (a:=u) (b:=[32,108,101,102,116]) (by simp;omega)) ?_;refine kW ?_;exact y _ kw
   ·rw[show q7 ⟨k,f,g,vs,(-1)⟩=[gJ k] from rfl,IQ,<- j]at y;unfold gJ at y;refine kW ?_;refine fH rfl (fun C=>?_) (fun C=>?_)
    ·rw[if_pos (h_ C)]at y;refine kW ?_;refine aS (i:=0) (cs':=[.val (vL [32,105,110,115,105,100,101])]) D_ (@ii [[32,105,110,115,105,100,101],[32,111,117,116,115,105,100,101]] 0 _ rfl) (Z_ 0) rfl rfl rfl rfl rfl rfl rfl rfl ?_;refine kO ?_;refine aj rfl rfl rfl rfl rfl rfl rfl (aA (a:=u) (b:=[32,105,110,115,105,100,101]) (by simp;omega)) ?_;refine kW ?_;exact y _ kw
    ·rw[if_neg (of_decide_eq_false C)]at y;refine kW ?_;refine aS (i:=0) (cs':=[.val (vL [32,114,105,103,104,116])]) D_ (@ii [[32,114,105,103,104,116],[32,108,101,102,116]] 0 _ rfl) (Z_ 0) rfl rfl rfl rfl rfl rfl rfl rfl ?_;refine kO ?_;refine aj rfl rfl rfl rfl rfl rfl rfl (aA (a:=u) (b:=[32,114,105,103,104,116]) (by simp;omega)) ?_;refine kW ?_;exact y _ kw
def EU{s b:L8}{i:Nat}(_h:i+b.length<=s.length):Lib.occAt s b i=decide ((s.take (i+b.length)).drop i=b):=by
 unfold Lib.occAt;have a:(s.take (i+b.length)).drop i=(s.drop i).take b.length:=by rw[List.drop_take,Nat.add_sub_cancel_left]
 rw[a];cases hq:b.isPrefixOf (s.drop i)with
 |true=>have:=List.prefix_iff_eq_take.1 (List.isPrefixOf_iff_prefix.1 hq);exact(T_ this.symm).symm
 |false=>refine(F_ fun c=>?_).symm;have:b <+:s.drop i:=List.prefix_iff_eq_take.2 c.symm;rw[List.isPrefixOf_iff_prefix.2 this]at hq;cases hq
def Js{s b:L8}{i:Nat}(h:s.length<i+b.length)(a:b≠[]):Lib.occAt s b i=false:=by
 unfold Lib.occAt;cases hq:b.isPrefixOf (s.drop i)with
 |false=>rfl
 |true=>have:=(List.isPrefixOf_iff_prefix.1 hq).length_le;have:=List.length_pos_iff.2 a;rw[n_]at *;omega
def jJ(s b:L8)(x:s.length<=65536)(u:b≠[])(v:b.length<=100):aa prog 71 [dL s,dL b] (.tup [dL (Lib.cut s b).1,dL (Lib.cut s b).2.1,dB (Lib.cut s b).2.2]):=by
 have y:=an s;have hsb:=an b;refine kV func71 ?_;refine av Nat (fun i=>i<=s.length+1/\ ∀j,j<i->Lib.occAt s b j=false) (fun i=>⟨[(0, .d (dL s)),(1, .d (dL b)),(7, .d (dN .i64 i))],[]⟩) (fun i=>s.length+1-i) 0 ⟨Nat.zero_le _,fun j hj=>absurd hj (Nat.not_lt_zero j)⟩ kw ?_;rintro i ⟨w,g⟩;by_cases f:i+b.length<=s.length
 ·have c:=EU f;refine kI ?_;refine kO3 ?_;refine Mn ?_;refine kO2 ?_;refine kT ?_;refine kG ?_;refine kO5 ?_;refine Mn ?_;refine ve ah (l:=s) (i:=i) (j:=i+b.length) O_ f rfl rfl rfl rfl rfl rfl rfl rfl rfl ?_;refine kO ?_;by_cases m:(s.take (i+b.length)).drop i=b
  ·rw[T_ m]at c;have t:Lib.cut s b=(s.take i,s.drop (i+b.length),true):=De (Lib.index_first O_ c g);rw[t];refine aj rfl rfl rfl rfl rfl rfl rfl (cx (a:=(s.take (i+b.length)).drop i) (b:=b) m) ?_;refine kG ?_;refine kO2 ?_;refine mg ah (j:=i) O_ rfl rfl rfl rfl rfl rfl rfl rfl ?_;refine kO4 ?_;refine Mn ?_;refine qW ah (i:=i+b.length) f rfl rfl rfl rfl rfl rfl rfl rfl ?_;exact am
  ·rw[F_ m]at c;refine aj rfl rfl rfl rfl rfl rfl rfl (bA (a:=(s.take (i+b.length)).drop i) (b:=b) m) ?_;refine kW ?_;refine⟨i+1,⟨by omega,fun j hj=>?_⟩,by omega,weak ⟨rfl,rfl,aq O_ O_,trivial⟩ trivial rfl⟩;rcases Nat.lt_succ_iff_lt_or_eq.1 hj with r|rfl
   ·exact g j r
   ·exact c
 ·have t:Lib.cut s b=(s,[],false):=yD (Lib.index_none fun j hj=>by
   by_cases r:j<i
   ·exact g j r
   ·exact Js O_ u)
  rw[t];refine kI ?_;refine kO3 ?_;refine Mn ?_;refine kO2 ?_;refine kE ?_;exact am
def Ky{n j:Nat}{t:L8}{c:UInt8}(h:t[j]? =some c):AL n (t.drop j)=if bC c=false∨1000<n then -1 else AL (10*n+dv c) (t.drop (j+1)):=by
 have a:=(G_.1 h).1;have:t.drop j=c::t.drop (j+1):=by rw[List.drop_eq_getElem_cons a,(G_.1 h).2]
 rw[this,AL]
def uM(x:UInt8)(t:L8)(B:t.length<=65536):aa prog 72 [dL (x::t)] (.one (dN .i64 (AL 0 t))):=by
 have A:=an (x::t);rw[List.length_cons]at A;refine kV func72 ?_;refine av (Nat × Nat) (fun p=>p.1<=t.length/\p.2<=10009/\AL 0 t=AL p.2 (t.drop p.1)) (fun p=>⟨[(0, .d (dL (x::t))),(3, .d (dN .i64 p.2)),(4, .d (dN .i64 (p.1+1:Nat)))],[]⟩) (fun p=>t.length-p.1) (0,0) ⟨Nat.zero_le _,Nat.zero_le _,rfl⟩ kw ?_;rintro⟨j,n⟩ ⟨y,z,a⟩;dsimp only at y z a ⊢;by_cases g:j<t.length
 ·obtain⟨c,m⟩:∃c,t[j]? =some c:=⟨t[j],by simp[g]⟩;have hc1:(x::t)[j+1]? =some c:=by simpa using m
  rw[Ky m]at a;refine kI ?_;refine kO3 ?_;refine yg ?_;refine Jq ?_;by_cases r:c.toNat<48
  ·have f:bC c=false:=by unfold bC;rw[F_ O_];rfl
   rw[if_pos (.inl f)]at a;rw[a];refine kT ?_;exact am
  ·refine kE ?_;refine kO3 ?_;refine Jq ?_;by_cases u:57<c.toNat
   ·have f:bC c=false:=by unfold bC;rw[F_ (p:=c.toNat<=57) O_];simp
    rw[if_pos (.inl f)]at a;rw[a];refine kT ?_;exact am
   ·have f:bC c=true:=by unfold bC;rw[T_ (p:=48<=c.toNat) O_,T_ (p:=c.toNat<=57) O_];rfl
    have w:dv c<=9:=by unfold dv;omega
    have v:dv c=c.toNat-48:=rfl;refine kE ?_;refine kO3 ?_;by_cases b:1000<n
    ·rw[if_pos (.inr b)]at a;rw[a];refine kT ?_;exact am
    ·rw[if_neg (by rw[f];simp;omega)]at a;refine kE ?_;refine kG ?_;refine kO ?_;refine kJ ((10*n:Nat)) ?_;refine kO2 ?_;refine Jq ?_;refine bW (v':= .int .u8 ((dv c:Nat))) rfl rfl rfl rfl ?_ ?_
     ·exact congrArg (Value.int .u8) (by show IntKind.u8.wrap ((c.toNat:Int)-48)=_;rw[IntWalk.u8_in _ O_];omega)
     refine bW (v':= .int .i64 ((dv c:Nat))) rfl rfl rfl rfl ?_ ?_
     ·exact congrArg (Value.int .i64) (by show IntKind.i64.wrap ((dv c:Nat):Int)=_;rw[IntWalk.i64_in _ O_])
     refine kJ ((10*n+dv c:Nat)) ?_;refine kW ?_;exact⟨(j+1,10*n+dv c),⟨g,by dsimp only;omega,a⟩,by dsimp only;omega,weak ⟨rfl,rfl,aq O_ O_,trivial⟩ trivial rfl⟩
 ·have e:t.drop j=[]:=List.drop_of_length_le O_;rw[e]at a;have a:AL 0 t=n:=a;rw[a];refine kI ?_;refine kO3 ?_;refine kE ?_;exact am
section
variable {P:Program}{T:TypeId->Option Ty}{n:Nat}{ops:Array Oper}{id:Nat}{draw:Bool}{K:AS->Prop}{s:AS}{k:Nat}{o:Oper}{os:List Oper}{fps:List FP}
def IR(j':Nat){t:TypeId}{ty:Ty}{d:Nat}(l:bl P t ty)(f:gd ops s o=some true)(q:o.op= .alloc t)(m:o.dst=some d)(p:ak s.b j'=none)(c:iO j'=false)(e:im j'=false)(j:ir ty.zero=true)(g:aO n o.dst=true)(i:gO draw ops (aH ops o ⟨.box j' 0,some [(j',some ty.zero)]⟩ [j']) k fps=true)(h:aw P T n ops id draw K (k+1) os (s.eff o.dst ⟨.box j' 0,some [(j',some ty.zero)]⟩) (aH ops o ⟨.box j' 0,some [(j',some ty.zero)]⟩ [j']::fps)):aw P T n ops id draw K k (o::os) s fps:=
 .run f (.gen fun _ _ a=>kx l q m ⟨(a j' S_).trans p,c⟩ j (fun h=>by rw[e]at h;cases h)) g i h
end
def AF(b:L8)(a:Bool)(c:L8):List L8:=if a=true then Lib.split c b else []
def zD{b d w c:L8}{a:Bool}(e:b≠[])(h:Lib.cut d b=(w,c,a)):AF b true d=w::AF b a c:=by unfold AF;rw[if_pos rfl,lD e,h];cases a<;>rfl
def Dt(a:Bool)(b:L8):Nat:=if a=true then b.length+1 else 0
def yN{b a w d:L8}{c:Bool}(g:b≠[])(h:Lib.cut a b=(w,d,c)):Dt c d<Dt true a/\w.length<=a.length/\d.length<=a.length:=by
 have e:= @mU a b;rw[h]at e;refine⟨?_,e⟩;cases c with
 |false=>unfold Dt;simp
 |true=>have f:=kM g (s:=a) (by rw[h]);rw[h]at f;unfold Dt;simpa using f
def Sl(d:Cn):L8->Cn
 | []=>d
 |x::t=>if x=112 then { d with ps:=d.ps++[AL 0 t] }else if x=99 then { d with cs:=d.cs++[AL 0 t] }else d
def xj(d:Cn){w:L8}(a:w≠[108,101,102,116])(b:w≠[111,117,116,115,105,100,101])(c:w≠[114,105,103,104,116])(e:w≠[105,110,115,105,100,101]):jn d w=Sl d w:=by
 have h:jn d w=if w=gt 0∨w=gt 17 then { d with s:=1 }else if w=gJ 0∨w=gJ 17 then { d with s:= -1 }else Sl d w:=by cases w<;>rfl
 rw[h,if_neg (fun h=>h.elim a b),if_neg (fun h=>h.elim c e)]
def UZ(s e:L8)(c:Bool)(k:Int)(b:L8)(a:Bool)(d:Cn):AS:=
 ⟨[(0, .d (dL s)),(4, .box 801 0),(6, .d (dL e)),(7, .d (dB c)),(9, .d (dL b)),(10, .d (dB a)),(2, .box 0 0)],
  [(0,some (cC 0 [] [] [] 0)),(801,some [.val (.int .i64 k),oQ d.ps,oR d.cs, .nl, .val (.int .i64 d.s)]),(701,gw d.ps),(703,gw d.cs)]⟩
def Tf(s e:L8)(b:Bool)(k:Int)(a cs:List Int)(c:Int)(vs:List Rx):AS:=
 ⟨[(0, .d (dL s)),(4, .box 801 0),(6, .d (dL e)),(7, .d (dB b)),(2, .box 0 0)],
  [(0,some (cC 0 [] [] [] 0)),(801,some [.val (.int .i64 k), .sl a.length (bF a), .sl cs.length (bF cs),NN vs, .val (.int .i64 c)]),(705,O6 vs)]⟩
def wi(s:L8)(hl:s.length<=300)(h v:L8)(y:Bool)(hc:Lib.cut s [32,61,32]=(h,v,y))(n r:L8)(Q:Bool)(hn:Lib.cut h [32]=(n,r,Q))(g:L8->Rx)(hP:∀t:L8,t.length<=300-> ∃p c:Int,aa prog 73 [dL t] (.tup [dR (g t),dN .i64 p,dN .i64 c]))(d:Cn)(hd:(AF [32] Q r).foldl jn (oP (gY n))=d)(vs:List Rx)(J:(AF [44,32] y v).map g=vs)(vd:Bool)(hV:aa prog 18 [.agg (cC (gY n) d.ps d.cs vs d.s),dN .i64 200,dN .i64 200] (.one (dB vd)))(tx:L8)(hT:vd=true->aa prog 27 [.agg (cC (gY n) d.ps d.cs vs d.s)] (.one (dL tx))):
 aa prog 29 [dL s] (UB (if vd=true/\tx=s then some ⟨gY n,d.ps,d.cs,vs,d.s⟩else none)):=by
 have H:=jJ s [32,61,32] O_ S_ D_;rw[hc]at H;have a3:h.length<=s.length/\v.length<=s.length:=by have:= @mU s [32,61,32];rw[hc]at this;exact this
 have cW:=jJ h [32] O_ S_ D_;rw[hn]at cW;have ag:r.length<=h.length:=by have:=(@mU h [32]).2;rw[hn]at this;exact this
 have cK:=zz n;unfold So at cK;generalize gY n=k at *;have hsz:=an s;refine kV func29 ?_;refine eR (T:=TT) rfl ?_ ?_
 ·exact F_ O_
 refine bB ?_;refine kI ?_;refine IR 801 G3 rfl rfl rfl rfl rfl rfl rfl rfl rfl ?_;refine kW ?_;refine kQ H ?_;refine kQ cW ?_;refine kC cK ?_;refine kN ?_;obtain⟨dk,F,E,X,N⟩:=d;dsimp only at hV hT ⊢;refine ks ⟨[(0, .d (dL s)),(4, .box 801 0),(6, .d (dL v)),(7, .d (dB y)),(2, .box 0 0)],[(0,some (cC 0 [] [] [] 0)),(801,some [.val (.int .i64 k), .sl F.length (bF F), .sl E.length (bF E), .nl, .val (.int .i64 N)])]⟩ (fun s' hw=>?_) (fun R hR ad=>?_)
 ·clear H cW cK hd;refine ks ⟨[(0, .d (dL s)),(4, .box 801 0),(2, .box 0 0)],[(0,some (cC 0 [] [] [] 0)),(801,some (cC k F E vs N))]⟩ (fun s2 a1=>?_) (fun R hR ad=>?_)
  ·clear hP J;refine bH ?_;refine iU a1 rfl ?_;refine kO ?_;refine kC hV ?_;cases vd with
   |false=>rw[if_neg S_];exact am
   |true=>
    refine kO3 ?_;refine kC ((hT rfl)) ?_;refine kO ?_;by_cases O:tx=s
    ·rw[if_pos ⟨rfl,O⟩];refine aj rfl rfl rfl rfl rfl rfl rfl (ee (a:=tx) (b:=s) O) ?_;exact am
    ·rw[if_neg (fun h=>O h.2)];refine aj rfl rfl rfl rfl rfl rfl rfl (eM (a:=tx) (b:=s) O) ?_;exact am
  ·clear hV hT;refine av (L8 × Bool × List Rx) (fun x=>x.2.2++(AF [44,32] x.2.1 x.1).map g=vs/\x.1.length<=300/\x.2.2.length+Dt x.2.1 x.1<=301) (fun x=>Tf s x.1 x.2.1 k F E N x.2.2) (fun x=>Dt x.2.1 x.1) (v,y,[]) ⟨by simpa using J,by dsimp only;omega,by have:Dt y v<=v.length+1:=(by unfold Dt;split <;>omega);simp only[List.length_nil];omega⟩ (au.trans hw kw) ?_;rintro⟨v,y,es⟩ ⟨C,a0,ao⟩;dsimp only at C a0 ao ⊢;cases y with
   |true=>
    obtain⟨⟨w,D,A⟩,B⟩:∃q,Lib.cut v [44,32]=q:=⟨_,rfl⟩;have cU:=jJ v [44,32] O_ S_ D_;rw[B]at cU;have hm:=yN S_ B;rw[zD S_ B]at C;obtain⟨pw,ew,cP⟩:=hP w O_;have al:es++[g w]++(AF [44,32] A D).map g=vs:=by rw[<- C];simp
    have I:(es++[g w]).length+Dt A D<=301:=by rw[L_];simp only[List.length_cons,List.length_nil];omega
    generalize g w=xw at *;obtain⟨o1,S,Y,U,Z,V,n1,G,hX⟩:=aJ xw;rw[show dR xw= .agg (af o1 S Y U Z V n1 G) from congrArg DV.agg hX]at cP;clear hP C J;have a2:A=true∨A=false:=by cases A<;>simp
    rcases es with _| ⟨e0,L⟩
    ·unfold Tf;refine kW ?_;refine kQ cU ?_;refine kQ cP ?_;refine Pl ?_;refine⟨(D,A,([]:List Rx)++[xw]),⟨al,by dsimp only;omega,I⟩,hm.1,?_⟩;show au _ ⟨[(0, .d (dL s)),(4, .box 801 0),(6, .d (dL D)),(7, .d (dB A)),(2, .box 0 0)],[(0,some (cC 0 [] [] [] 0)),(801,some [.val (.int .i64 k), .sl F.length (bF F), .sl E.length (bF E),NN (([]:List Rx)++[xw]), .val (.int .i64 N)]),(705,O6 (([]:List Rx)++[xw]))]⟩;rw[ro,rH,hX];exact au.trans (b:=⟨[(0, .d (dL s)),(4, .box 801 0),(6, .d (dL D)),(7, .d (dB A)),(2, .box 0 0)],[(0,some (cC 0 [] [] [] 0)),(801,some [.val (.int .i64 k), .sl F.length (bF F), .sl E.length (bF E), .ow 706 (([]:List Rx).length+1) 7 40, .val (.int .i64 N)]),(706,some ((gc ([]:List Rx)).take (([]:List Rx).length*7)++af o1 S Y U Z V n1 G))]⟩) kw ((aK (i:=801) (off:=3) (j:=706) (j':=705) (m:=([]:List Rx).length+1) (k:=7) (e:=40) rfl rfl rfl rfl rfl rfl rfl).trans kw)
    ·unfold Tf;refine kW ?_;refine kQ cU ?_;refine kQ cP ?_;refine fR 706 (m1:=(e0::L).length) (m2:=1) ah D_ (by show((e0::L).length+1)*112<=_;rw[L_]at I;simp only[List.length_cons,List.length_nil]at I ⊢;omega) rfl rfl rfl rfl rfl rfl rfl rfl rfl rfl (.own rfl rfl) rfl rfl rfl rfl ?_;refine kW ?_;refine⟨(D,A,(e0::L)++[xw]),⟨al,by dsimp only;omega,I⟩,hm.1,?_⟩;show au _ ⟨[(0, .d (dL s)),(4, .box 801 0),(6, .d (dL D)),(7, .d (dB A)),(2, .box 0 0)],[(0,some (cC 0 [] [] [] 0)),(801,some [.val (.int .i64 k), .sl F.length (bF F), .sl E.length (bF E),NN ((e0::L)++[xw]), .val (.int .i64 N)]),(705,O6 ((e0::L)++[xw]))]⟩;rw[ro,rH,hX];exact au.trans (b:=⟨[(0, .d (dL s)),(4, .box 801 0),(6, .d (dL D)),(7, .d (dB A)),(2, .box 0 0)],[(0,some (cC 0 [] [] [] 0)),(801,some [.val (.int .i64 k), .sl F.length (bF F), .sl E.length (bF E), .ow 706 ((e0::L).length+1) 7 40, .val (.int .i64 N)]),(706,some ((gc (e0::L)).take ((e0::L).length*7)++af o1 S Y U Z V n1 G))]⟩) kw ((aK (i:=801) (off:=3) (j:=706) (j':=705) (m:=(e0::L).length+1) (k:=7) (e:=40) rfl rfl rfl rfl rfl rfl rfl).trans kw)
   |false=>
    have C:es=vs:=by have e0:AF [44,32] false v=[]:=rfl;rw[e0]at C;simpa using C
    subst C;clear hP J;rcases es with _| ⟨e0,L⟩
    ·unfold Tf;refine kW ?_;exact hR _ (au.trans (jw (i:=801) (off:=3) rfl rfl) kw)
    ·unfold Tf;refine kW ?_;exact hR _ (au.trans (eA (i:=801) (off:=3) (j:=705) rfl rfl rfl rfl rfl) kw)
 ·clear H cW cK hP J hV hT;refine av (L8 × Bool × Cn) (fun x=>(AF [32] x.2.1 x.1).foldl jn x.2.2=⟨dk,F,E,X,N⟩/\x.1.length<=300/\x.2.2.ps.length+x.2.2.cs.length+Dt x.2.1 x.1<=301) (fun x=>UZ s v y k x.1 x.2.1 x.2.2) (fun x=>Dt x.2.1 x.1) (r,Q,oP k) ⟨hd,by dsimp only;omega,by have:Dt Q r<=r.length+1:=(by unfold Dt;split <;>omega);show 0+0+Dt Q r<=301;omega⟩ kw ?_;rintro⟨r,Q,d⟩ ⟨hfold,ag,u⟩;dsimp only at hfold ag u ⊢;cases Q with
  |true=>
   clear hR hd hn;obtain⟨⟨w,rest',mo'⟩,B⟩:∃q,Lib.cut r [32]=q:=⟨_,rfl⟩;have cU:=jJ r [32] O_ S_ D_;rw[B]at cU;have hm:=yN S_ B;rw[zD S_ B,List.foldl_cons]at hfold;obtain⟨k1,W,G,vs1,sd1'⟩:=d;dsimp only at u;rcases w with _| ⟨x,t⟩
   ·have hfold:(AF [32] mo' rest').foldl jn ⟨k1,W,G,vs1,sd1'⟩=⟨dk,F,E,X,N⟩:=hfold;clear B;rcases W with _| ⟨p0,pr⟩<;>rcases G with _| ⟨q0,qr⟩
    all_goals
     unfold UZ;refine kW ?_;refine kC cU ?_;refine kG ?_;refine kO ?_;refine aj rfl rfl rfl rfl rfl rfl rfl (bA (a:=[]) (b:=[108,101,102,116]) D_) ?_;refine kO2 ?_;refine aj rfl rfl rfl rfl rfl rfl rfl (bA (a:=[]) (b:=[111,117,116,115,105,100,101]) D_) ?_;refine kG ?_;refine kO ?_;refine aj rfl rfl rfl rfl rfl rfl rfl (bA (a:=[]) (b:=[114,105,103,104,116]) D_) ?_;refine kO2 ?_;refine aj rfl rfl rfl rfl rfl rfl rfl (bA (a:=[]) (b:=[105,110,115,105,100,101]) D_) ?_;refine kG ?_;refine kO ?_;refine aj rfl rfl rfl rfl rfl rfl rfl (ee (a:=[]) (b:=[]) rfl) ?_;refine kG ?_;refine kO ?_;refine aj rfl rfl rfl rfl rfl rfl rfl (ee (a:=[]) (b:=[]) rfl) ?_;refine kW ?_
    ·exact O7
    ·exact Qi
    ·exact NX
    ·exact Pc
   ·have cN:=uM x t (by have:=hm.2.1;simp only[List.length_cons]at this;omega);obtain⟨z,hz⟩:∃z,AL 0 t=z:=⟨_,rfl⟩;rw[hz]at cN;clear B;rcases W with _| ⟨p0,pr⟩<;>rcases G with _| ⟨q0,qr⟩
    ·refine Dr ?_;by_cases e1:x::t=[108,101,102,116]
     ·have f:jn ⟨k1,[],[],vs1,sd1'⟩ (x::t)=⟨k1,[],[],vs1,1⟩:=by rw[e1];rfl
      rw[f]at hfold;refine MO ?_;exact O5
     refine M9 ?_;by_cases e2:x::t=[111,117,116,115,105,100,101]
     ·have f:jn ⟨k1,[],[],vs1,sd1'⟩ (x::t)=⟨k1,[],[],vs1,1⟩:=by rw[e2];rfl
      rw[f]at hfold;refine Mg ?_;exact O5
     refine LC ?_;by_cases e3:x::t=[114,105,103,104,116]
     ·have f:jn ⟨k1,[],[],vs1,sd1'⟩ (x::t)=⟨k1,[],[],vs1,(-1)⟩:=by rw[e3];rfl
      rw[f]at hfold;refine Mx ?_;exact NK
     refine Mp ?_;by_cases e4:x::t=[105,110,115,105,100,101]
     ·have f:jn ⟨k1,[],[],vs1,sd1'⟩ (x::t)=⟨k1,[],[],vs1,(-1)⟩:=by rw[e4];rfl
      rw[f]at hfold;refine Ma ?_;exact NK
     refine K7 ?_;have f:=xj ⟨k1,[],[],vs1,sd1'⟩ e1 e2 e3 e4;rw[f]at hfold;clear f;dsimp only[Sl]at hfold;rw[hz]at hfold;refine x7 ?_;by_cases h1:x=112
     ·rw[if_pos h1]at hfold;refine Nu ?_;refine PD ?_;refine⟨(rest',mo',⟨k1,([])++[z],[],vs1,sd1'⟩),⟨hfold,by dsimp only;omega,by have:=hm.1;simp only[L_,List.length_cons,List.length_nil]at u ⊢;omega⟩,hm.1,?_⟩;show au _ ⟨[(0, .d (dL s)),(4, .box 801 0),(6, .d (dL v)),(7, .d (dB y)),(9, .d (dL rest')),(10, .d (dB mo')),(2, .box 0 0)],[(0,some (cC 0 [] [] [] 0)),(801,some [.val (.int .i64 k),oQ (([]:List Int)++[z]),oR [], .nl, .val (.int .i64 sd1')]),(701,gw (([]:List Int)++[z])),(703,gw [])]⟩;exact au.trans (b:=⟨[(0, .d (dL s)),(4, .box 801 0),(6, .d (dL v)),(7, .d (dB y)),(9, .d (dL rest')),(10, .d (dB mo')),(2, .box 0 0)],[(0,some (cC 0 [] [] [] 0)),(801,some [.val (.int .i64 k), .ow 702 (([]:List Int).length+1) 1 3,oR [], .nl, .val (.int .i64 sd1')]),(702,some ((bF ([]:List Int)).take (([]:List Int).length*1)++[.val (.int .i64 z)]))]⟩) kw ((aK (i:=801) (off:=1) (j:=702) (j':=701) (m:=([]:List Int).length+1) (k:=1) (e:=3) rfl rfl rfl rfl rfl rfl rfl).trans (by rw[iH,dq];exact weak ⟨rfl,rfl,rfl,rfl,rfl,rfl,rfl,trivial⟩ ⟨rfl,rfl,rfl,trivial⟩ rfl))
     rw[if_neg h1]at hfold;refine Dh ?_;refine x7 ?_;by_cases h2:x=99
     ·rw[if_pos h2]at hfold;refine Nl ?_;refine Oz ?_;refine⟨(rest',mo',⟨k1,[],([])++[z],vs1,sd1'⟩),⟨hfold,by dsimp only;omega,by have:=hm.1;simp only[L_,List.length_cons,List.length_nil]at u ⊢;omega⟩,hm.1,?_⟩;show au _ ⟨[(0, .d (dL s)),(4, .box 801 0),(6, .d (dL v)),(7, .d (dB y)),(9, .d (dL rest')),(10, .d (dB mo')),(2, .box 0 0)],[(0,some (cC 0 [] [] [] 0)),(801,some [.val (.int .i64 k),oQ [],oR (([]:List Int)++[z]), .nl, .val (.int .i64 sd1')]),(701,gw []),(703,gw (([]:List Int)++[z]))]⟩;exact au.trans (b:=⟨[(0, .d (dL s)),(4, .box 801 0),(6, .d (dL v)),(7, .d (dB y)),(9, .d (dL rest')),(10, .d (dB mo')),(2, .box 0 0)],[(0,some (cC 0 [] [] [] 0)),(801,some [.val (.int .i64 k),oQ [], .ow 704 (([]:List Int).length+1) 1 3, .nl, .val (.int .i64 sd1')]),(704,some ((bF ([]:List Int)).take (([]:List Int).length*1)++[.val (.int .i64 z)]))]⟩) kw ((aK (i:=801) (off:=2) (j:=704) (j':=703) (m:=([]:List Int).length+1) (k:=1) (e:=3) rfl rfl rfl rfl rfl rfl rfl).trans (by rw[iM,dq];exact weak ⟨rfl,rfl,rfl,rfl,rfl,rfl,rfl,trivial⟩ ⟨rfl,rfl,rfl,trivial⟩ rfl))
     rw[if_neg h2]at hfold;refine Ec ?_;exact O7
    ·refine Dr ?_;by_cases e1:x::t=[108,101,102,116]
     ·have f:jn ⟨k1,[],q0::qr,vs1,sd1'⟩ (x::t)=⟨k1,[],q0::qr,vs1,1⟩:=by rw[e1];rfl
      rw[f]at hfold;refine MO ?_;exact O8
     refine M9 ?_;by_cases e2:x::t=[111,117,116,115,105,100,101]
     ·have f:jn ⟨k1,[],q0::qr,vs1,sd1'⟩ (x::t)=⟨k1,[],q0::qr,vs1,1⟩:=by rw[e2];rfl
      rw[f]at hfold;refine Mg ?_;exact O8
     refine LC ?_;by_cases e3:x::t=[114,105,103,104,116]
     ·have f:jn ⟨k1,[],q0::qr,vs1,sd1'⟩ (x::t)=⟨k1,[],q0::qr,vs1,(-1)⟩:=by rw[e3];rfl
      rw[f]at hfold;refine Mx ?_;exact Qe
     refine Mp ?_;by_cases e4:x::t=[105,110,115,105,100,101]
     ·have f:jn ⟨k1,[],q0::qr,vs1,sd1'⟩ (x::t)=⟨k1,[],q0::qr,vs1,(-1)⟩:=by rw[e4];rfl
      rw[f]at hfold;refine Ma ?_;exact Qe
     refine K7 ?_;have f:=xj ⟨k1,[],q0::qr,vs1,sd1'⟩ e1 e2 e3 e4;rw[f]at hfold;clear f;dsimp only[Sl]at hfold;rw[hz]at hfold;refine x7 ?_;by_cases h1:x=112
     ·rw[if_pos h1]at hfold;refine Nu ?_;refine PD ?_;refine⟨(rest',mo',⟨k1,([])++[z],q0::qr,vs1,sd1'⟩),⟨hfold,by dsimp only;omega,by have:=hm.1;simp only[L_,List.length_cons,List.length_nil]at u ⊢;omega⟩,hm.1,?_⟩;show au _ ⟨[(0, .d (dL s)),(4, .box 801 0),(6, .d (dL v)),(7, .d (dB y)),(9, .d (dL rest')),(10, .d (dB mo')),(2, .box 0 0)],[(0,some (cC 0 [] [] [] 0)),(801,some [.val (.int .i64 k),oQ (([]:List Int)++[z]),oR (q0::qr), .nl, .val (.int .i64 sd1')]),(701,gw (([]:List Int)++[z])),(703,gw (q0::qr))]⟩;exact au.trans (b:=⟨[(0, .d (dL s)),(4, .box 801 0),(6, .d (dL v)),(7, .d (dB y)),(9, .d (dL rest')),(10, .d (dB mo')),(2, .box 0 0)],[(0,some (cC 0 [] [] [] 0)),(801,some [.val (.int .i64 k), .ow 702 (([]:List Int).length+1) 1 3,oR (q0::qr), .nl, .val (.int .i64 sd1')]),(702,some ((bF ([]:List Int)).take (([]:List Int).length*1)++[.val (.int .i64 z)])),(703,gw (q0::qr))]⟩) kw ((aK (i:=801) (off:=1) (j:=702) (j':=701) (m:=([]:List Int).length+1) (k:=1) (e:=3) rfl rfl rfl rfl rfl rfl rfl).trans (by rw[iH,dq];exact weak ⟨rfl,rfl,rfl,rfl,rfl,rfl,rfl,trivial⟩ ⟨rfl,rfl,rfl,rfl,trivial⟩ rfl))
     rw[if_neg h1]at hfold;refine Dh ?_;refine x7 ?_;by_cases h2:x=99
     ·rw[if_pos h2]at hfold;refine Nl ?_;refine fR 704 (m1:=(q0::qr).length) (m2:=1) ah D_ (by show((q0::qr:List Int).length+1)*8<=_;simp only[List.length_cons]at u ⊢;omega) rfl rfl rfl rfl rfl rfl rfl rfl rfl rfl (.own rfl rfl) rfl rfl rfl rfl ?_;refine kW ?_;refine⟨(rest',mo',⟨k1,[],(q0::qr)++[z],vs1,sd1'⟩),⟨hfold,by dsimp only;omega,by have:=hm.1;simp only[L_,List.length_cons,List.length_nil]at u ⊢;omega⟩,hm.1,?_⟩;show au _ ⟨[(0, .d (dL s)),(4, .box 801 0),(6, .d (dL v)),(7, .d (dB y)),(9, .d (dL rest')),(10, .d (dB mo')),(2, .box 0 0)],[(0,some (cC 0 [] [] [] 0)),(801,some [.val (.int .i64 k),oQ [],oR ((q0::qr:List Int)++[z]), .nl, .val (.int .i64 sd1')]),(701,gw []),(703,gw ((q0::qr:List Int)++[z]))]⟩;exact au.trans (b:=⟨[(0, .d (dL s)),(4, .box 801 0),(6, .d (dL v)),(7, .d (dB y)),(9, .d (dL rest')),(10, .d (dB mo')),(2, .box 0 0)],[(0,some (cC 0 [] [] [] 0)),(801,some [.val (.int .i64 k),oQ [], .ow 704 ((q0::qr:List Int).length+1) 1 3, .nl, .val (.int .i64 sd1')]),(704,some ((bF (q0::qr:List Int)).take ((q0::qr:List Int).length*1)++[.val (.int .i64 z)]))]⟩) kw ((aK (i:=801) (off:=2) (j:=704) (j':=703) (m:=(q0::qr:List Int).length+1) (k:=1) (e:=3) rfl rfl rfl rfl rfl rfl rfl).trans (by rw[iM,dq];exact weak ⟨rfl,rfl,rfl,rfl,rfl,rfl,rfl,trivial⟩ ⟨rfl,rfl,rfl,trivial⟩ rfl))
     rw[if_neg h2]at hfold;refine Ec ?_;exact Qi
    ·refine Dr ?_;by_cases e1:x::t=[108,101,102,116]
     ·have f:jn ⟨k1,p0::pr,[],vs1,sd1'⟩ (x::t)=⟨k1,p0::pr,[],vs1,1⟩:=by rw[e1];rfl
      rw[f]at hfold;refine MO ?_;exact Oi
     refine M9 ?_;by_cases e2:x::t=[111,117,116,115,105,100,101]
     ·have f:jn ⟨k1,p0::pr,[],vs1,sd1'⟩ (x::t)=⟨k1,p0::pr,[],vs1,1⟩:=by rw[e2];rfl
      rw[f]at hfold;refine Mg ?_;exact Oi
     refine LC ?_;by_cases e3:x::t=[114,105,103,104,116]
     ·have f:jn ⟨k1,p0::pr,[],vs1,sd1'⟩ (x::t)=⟨k1,p0::pr,[],vs1,(-1)⟩:=by rw[e3];rfl
      rw[f]at hfold;refine Mx ?_;exact Pk
     refine Mp ?_;by_cases e4:x::t=[105,110,115,105,100,101]
     ·have f:jn ⟨k1,p0::pr,[],vs1,sd1'⟩ (x::t)=⟨k1,p0::pr,[],vs1,(-1)⟩:=by rw[e4];rfl
      rw[f]at hfold;refine Ma ?_;exact Pk
     refine K7 ?_;have f:=xj ⟨k1,p0::pr,[],vs1,sd1'⟩ e1 e2 e3 e4;rw[f]at hfold;clear f;dsimp only[Sl]at hfold;rw[hz]at hfold;refine x7 ?_;by_cases h1:x=112
     ·rw[if_pos h1]at hfold;refine Nu ?_;refine fR 702 (m1:=(p0::pr).length) (m2:=1) ah D_ (by show((p0::pr:List Int).length+1)*8<=_;simp only[List.length_cons]at u ⊢;omega) rfl rfl rfl rfl rfl rfl rfl rfl rfl rfl (.own rfl rfl) rfl rfl rfl rfl ?_;refine kW ?_;refine⟨(rest',mo',⟨k1,(p0::pr)++[z],[],vs1,sd1'⟩),⟨hfold,by dsimp only;omega,by have:=hm.1;simp only[L_,List.length_cons,List.length_nil]at u ⊢;omega⟩,hm.1,?_⟩;show au _ ⟨[(0, .d (dL s)),(4, .box 801 0),(6, .d (dL v)),(7, .d (dB y)),(9, .d (dL rest')),(10, .d (dB mo')),(2, .box 0 0)],[(0,some (cC 0 [] [] [] 0)),(801,some [.val (.int .i64 k),oQ ((p0::pr:List Int)++[z]),oR [], .nl, .val (.int .i64 sd1')]),(701,gw ((p0::pr:List Int)++[z])),(703,gw [])]⟩;exact au.trans (b:=⟨[(0, .d (dL s)),(4, .box 801 0),(6, .d (dL v)),(7, .d (dB y)),(9, .d (dL rest')),(10, .d (dB mo')),(2, .box 0 0)],[(0,some (cC 0 [] [] [] 0)),(801,some [.val (.int .i64 k), .ow 702 ((p0::pr:List Int).length+1) 1 3,oR [], .nl, .val (.int .i64 sd1')]),(702,some ((bF (p0::pr:List Int)).take ((p0::pr:List Int).length*1)++[.val (.int .i64 z)]))]⟩) kw ((aK (i:=801) (off:=1) (j:=702) (j':=701) (m:=(p0::pr:List Int).length+1) (k:=1) (e:=3) rfl rfl rfl rfl rfl rfl rfl).trans (by rw[iH,dq];exact weak ⟨rfl,rfl,rfl,rfl,rfl,rfl,rfl,trivial⟩ ⟨rfl,rfl,rfl,trivial⟩ rfl))
     rw[if_neg h1]at hfold;refine Dh ?_;refine x7 ?_;by_cases h2:x=99
     ·rw[if_pos h2]at hfold;refine Nl ?_;refine Oz ?_;refine⟨(rest',mo',⟨k1,p0::pr,([])++[z],vs1,sd1'⟩),⟨hfold,by dsimp only;omega,by have:=hm.1;simp only[L_,List.length_cons,List.length_nil]at u ⊢;omega⟩,hm.1,?_⟩;show au _ ⟨[(0, .d (dL s)),(4, .box 801 0),(6, .d (dL v)),(7, .d (dB y)),(9, .d (dL rest')),(10, .d (dB mo')),(2, .box 0 0)],[(0,some (cC 0 [] [] [] 0)),(801,some [.val (.int .i64 k),oQ (p0::pr),oR (([]:List Int)++[z]), .nl, .val (.int .i64 sd1')]),(701,gw (p0::pr)),(703,gw (([]:List Int)++[z]))]⟩;exact au.trans (b:=⟨[(0, .d (dL s)),(4, .box 801 0),(6, .d (dL v)),(7, .d (dB y)),(9, .d (dL rest')),(10, .d (dB mo')),(2, .box 0 0)],[(0,some (cC 0 [] [] [] 0)),(801,some [.val (.int .i64 k),oQ (p0::pr), .ow 704 (([]:List Int).length+1) 1 3, .nl, .val (.int .i64 sd1')]),(704,some ((bF ([]:List Int)).take (([]:List Int).length*1)++[.val (.int .i64 z)])),(701,gw (p0::pr))]⟩) kw ((aK (i:=801) (off:=2) (j:=704) (j':=703) (m:=([]:List Int).length+1) (k:=1) (e:=3) rfl rfl rfl rfl rfl rfl rfl).trans (by rw[iM,dq];exact weak ⟨rfl,rfl,rfl,rfl,rfl,rfl,rfl,trivial⟩ ⟨rfl,rfl,rfl,rfl,trivial⟩ rfl))
     rw[if_neg h2]at hfold;refine Ec ?_;exact NX
    ·refine Dr ?_;by_cases e1:x::t=[108,101,102,116]
     ·have f:jn ⟨k1,p0::pr,q0::qr,vs1,sd1'⟩ (x::t)=⟨k1,p0::pr,q0::qr,vs1,1⟩:=by rw[e1];rfl
      rw[f]at hfold;refine MO ?_;exact O9
     refine M9 ?_;by_cases e2:x::t=[111,117,116,115,105,100,101]
     ·have f:jn ⟨k1,p0::pr,q0::qr,vs1,sd1'⟩ (x::t)=⟨k1,p0::pr,q0::qr,vs1,1⟩:=by rw[e2];rfl
      rw[f]at hfold;refine Mg ?_;exact O9
     refine LC ?_;by_cases e3:x::t=[114,105,103,104,116]
     ·have f:jn ⟨k1,p0::pr,q0::qr,vs1,sd1'⟩ (x::t)=⟨k1,p0::pr,q0::qr,vs1,(-1)⟩:=by rw[e3];rfl
      rw[f]at hfold;refine Mx ?_;exact Pa
     refine Mp ?_;by_cases e4:x::t=[105,110,115,105,100,101]
     ·have f:jn ⟨k1,p0::pr,q0::qr,vs1,sd1'⟩ (x::t)=⟨k1,p0::pr,q0::qr,vs1,(-1)⟩:=by rw[e4];rfl
      rw[f]at hfold;refine Ma ?_;exact Pa
     refine K7 ?_;have f:=xj ⟨k1,p0::pr,q0::qr,vs1,sd1'⟩ e1 e2 e3 e4;rw[f]at hfold;clear f;dsimp only[Sl]at hfold;rw[hz]at hfold;refine x7 ?_;by_cases h1:x=112
     ·rw[if_pos h1]at hfold;refine Nu ?_;refine fR 702 (m1:=(p0::pr).length) (m2:=1) ah D_ (by show((p0::pr:List Int).length+1)*8<=_;simp only[List.length_cons]at u ⊢;omega) rfl rfl rfl rfl rfl rfl rfl rfl rfl rfl (.own rfl rfl) rfl rfl rfl rfl ?_;refine kW ?_;refine⟨(rest',mo',⟨k1,(p0::pr)++[z],q0::qr,vs1,sd1'⟩),⟨hfold,by dsimp only;omega,by have:=hm.1;simp only[L_,List.length_cons,List.length_nil]at u ⊢;omega⟩,hm.1,?_⟩;show au _ ⟨[(0, .d (dL s)),(4, .box 801 0),(6, .d (dL v)),(7, .d (dB y)),(9, .d (dL rest')),(10, .d (dB mo')),(2, .box 0 0)],[(0,some (cC 0 [] [] [] 0)),(801,some [.val (.int .i64 k),oQ ((p0::pr:List Int)++[z]),oR (q0::qr), .nl, .val (.int .i64 sd1')]),(701,gw ((p0::pr:List Int)++[z])),(703,gw (q0::qr))]⟩;exact au.trans (b:=⟨[(0, .d (dL s)),(4, .box 801 0),(6, .d (dL v)),(7, .d (dB y)),(9, .d (dL rest')),(10, .d (dB mo')),(2, .box 0 0)],[(0,some (cC 0 [] [] [] 0)),(801,some [.val (.int .i64 k), .ow 702 ((p0::pr:List Int).length+1) 1 3,oR (q0::qr), .nl, .val (.int .i64 sd1')]),(702,some ((bF (p0::pr:List Int)).take ((p0::pr:List Int).length*1)++[.val (.int .i64 z)])),(703,gw (q0::qr))]⟩) kw ((aK (i:=801) (off:=1) (j:=702) (j':=701) (m:=(p0::pr:List Int).length+1) (k:=1) (e:=3) rfl rfl rfl rfl rfl rfl rfl).trans (by rw[iH,dq];exact weak ⟨rfl,rfl,rfl,rfl,rfl,rfl,rfl,trivial⟩ ⟨rfl,rfl,rfl,rfl,trivial⟩ rfl))
     rw[if_neg h1]at hfold;refine Dh ?_;refine x7 ?_;by_cases h2:x=99
     ·rw[if_pos h2]at hfold;refine Nl ?_;refine fR 704 (m1:=(q0::qr).length) (m2:=1) ah D_ (by show((q0::qr:List Int).length+1)*8<=_;simp only[List.length_cons]at u ⊢;omega) rfl rfl rfl rfl rfl rfl rfl rfl rfl rfl (.own rfl rfl) rfl rfl rfl rfl ?_;refine kW ?_;refine⟨(rest',mo',⟨k1,p0::pr,(q0::qr)++[z],vs1,sd1'⟩),⟨hfold,by dsimp only;omega,by have:=hm.1;simp only[L_,List.length_cons,List.length_nil]at u ⊢;omega⟩,hm.1,?_⟩;show au _ ⟨[(0, .d (dL s)),(4, .box 801 0),(6, .d (dL v)),(7, .d (dB y)),(9, .d (dL rest')),(10, .d (dB mo')),(2, .box 0 0)],[(0,some (cC 0 [] [] [] 0)),(801,some [.val (.int .i64 k),oQ (p0::pr),oR ((q0::qr:List Int)++[z]), .nl, .val (.int .i64 sd1')]),(701,gw (p0::pr)),(703,gw ((q0::qr:List Int)++[z]))]⟩;exact au.trans (b:=⟨[(0, .d (dL s)),(4, .box 801 0),(6, .d (dL v)),(7, .d (dB y)),(9, .d (dL rest')),(10, .d (dB mo')),(2, .box 0 0)],[(0,some (cC 0 [] [] [] 0)),(801,some [.val (.int .i64 k),oQ (p0::pr), .ow 704 ((q0::qr:List Int).length+1) 1 3, .nl, .val (.int .i64 sd1')]),(704,some ((bF (q0::qr:List Int)).take ((q0::qr:List Int).length*1)++[.val (.int .i64 z)])),(701,gw (p0::pr))]⟩) kw ((aK (i:=801) (off:=2) (j:=704) (j':=703) (m:=(q0::qr:List Int).length+1) (k:=1) (e:=3) rfl rfl rfl rfl rfl rfl rfl).trans (by rw[iM,dq];exact weak ⟨rfl,rfl,rfl,rfl,rfl,rfl,rfl,trivial⟩ ⟨rfl,rfl,rfl,rfl,trivial⟩ rfl))
     rw[if_neg h2]at hfold;refine Ec ?_;exact Pc
  |false=>
   have hfold:d=⟨dk,F,E,X,N⟩:=hfold;subst hfold;clear hd hn;rcases F with _| ⟨p0,pr⟩<;>rcases E with _| ⟨q0,qr⟩
   all_goals
    unfold UZ;refine kW ?_
   ·exact PX
   ·exact Po
   ·exact Pj
   ·exact OK
structure Sm (x:Rx):Prop where
 wd:vY x
 lm:K4 x
 sz:jx x<=450
 lw:P8 x
def Ub:Sm z7:=⟨by unfold z7;constructor <;>first|exact Wd.nil|(intro x a;cases a)|simp, .mk S_ S_ S_ (fun x a=>by cases a),by decide,TJ⟩
def T7(k:Int)(c:Cn)(w:L8):(mL k c w).k=c.k/\(mL k c w).ps.length<=c.ps.length+1/\(mL k c w).cs.length<=c.cs.length+1:=by
 unfold mL;split
 ·simp
 ·split
  ·simp
  ·split
   ·simp
   ·split <;>simp
def Ue(c:Cn)(w:L8):(jn c w).k=c.k/\(jn c w).ps.length<=c.ps.length+1/\(jn c w).cs.length<=c.cs.length+1:=by
 unfold jn;split
 ·simp
 ·split
  ·simp
  ·split
   ·simp
   ·split
    ·simp
    ·split <;>simp
def BE{f:Cn->L8->Cn}(b:∀c w,(f c w).k=c.k/\(f c w).ps.length<=c.ps.length+1/\(f c w).cs.length<=c.cs.length+1):∀(a:List L8)(c:Cn),(a.foldl f c).k=c.k/\(a.foldl f c).ps.length<=c.ps.length+a.length/\(a.foldl f c).cs.length<=c.cs.length+a.length
 | [],_=>⟨rfl,l_ _,l_ _⟩
 |w::a,c=>by have d:=BE b a (f c w);have e:=b c w;rw[List.foldl_cons,List.length_cons];exact⟨d.1.trans e.1,by omega,by omega⟩
def GO{e:Ex}(d:gR e)(c:pZ (rx e)<=40)(f:(aF e 0).length<=65536):fY (aF e 0)= .ok e:=by obtain⟨T,a,_,b⟩:=Ag d c f;unfold fY;rw[a];exact b
def G1{s:List UInt8}(w:s.length<=300){e:Ex}(h:fY s= .ok e):gR e/\vY (rx e)/\jx (rx e)<=301/\pZ (rx e)<=40:=by
 have x:=gQ (s.length+1) s 0 [] (m_ _);have l:∀(T:List Tk)(b:Int)(E:Nat),Rv T->(∀t∈T,t.2.1.length<=65536)->T.length<=301->l0 T b E= .ok e->gR e/\vY (rx e)/\jx (rx e)<=301/\pZ (rx e)<=40:=fun T b E m j hlen c=>by
  unfold l0 at c;split at c
  ·rename_i A t r p;split at c
   ·cases c
   ·split at c
    ·cases c
    ·split at c
     ·rename_i v;cases c;have a:=jr _ _ _ _ _ j (fun _ _ h=>by cases h) p;have:=a.2.2;dsimp only at this;exact⟨qu _ _ _ _ _ m (fun _ _ h=>by cases h) p,a.1,by omega,v⟩
     ·cases c
  ·cases c
  ·cases c
 have m:∀(u:List UInt8)(T:List Tk)(E:Nat),u.length<=300->dw (u.length+1) u 0 []= .ok T->Rv T/\(∀t∈T,t.2.1.length<=65536)/\T.length<=301:=fun u T E B j=>by have d:=gQ (u.length+1) u 0 [] (m_ _);rw[j]at d;obtain⟨y,_,f,g⟩:=d;rw[List.nil_append]at f;subst f;have q:=jf _ _ _ _ _ j;simp only[List.length_nil]at q;exact⟨fun t i=>⟨wG _ _ _ _ _ j (fun t i=>by cases i) t i,fun _=>V_ (g.s t i) O_⟩,fun t i=>V_ (g.s t i) O_,by omega⟩
 unfold fY at h;cases hR:dw (s.length+1) s 0 []with
 |ok T=>rw[hR]at h;obtain⟨d,f,g⟩:=m s T 0 w hR;exact l T 0 s.length d f g h
 |error z=>
  obtain⟨a,b⟩:=z;rw[hR]at h;dsimp only at h;cases hR2:dw ((s.take a).length+1) (s.take a) 0 []with
  |ok T=>rw[hR2]at h;obtain⟨d,f,g⟩:=m (s.take a) T 0 (by rw[U_];omega) hR2;exact l T b a d f g h
  |error z=>rw[hR2]at h;cases h
def KL{t:L8}(d:t.length<=300):Sm (ML fY t):=by
 unfold ML;cases h:fY t with
 |ok e=>obtain⟨a,b,c,_⟩:=G1 d h;exact⟨b,gR.lm e a,V_ c D_,gR.lw e a⟩
 |error z=>exact Ub
def UP(C:Cn)(t:L8):Prop:=aa prog 25 [dC C] (.tup [dL t,dN .i64 0])/\aa prog 27 [dC C] (.one (dL t))/\ ∃(r:Kd)(a:List Ex),NB C r 200 200/\C.vs=a.map rx/\(∀e∈a,gR e/\fY (aF e 0)= .ok e)/\t=Et r C (a.map fun e=>aF e 0)
def Rr{C:Cn}(i:∀x∈C.vs,Sm x)(N:AM C 200 200=true):∃t,UP C t:=by
 obtain⟨r,h⟩:=Ld.1 N;have W:∀x∈C.vs,∃e,x=rx e/\gR e:=fun x a=>QJ (i x a).wd (i x a).lm (h.v x a);obtain⟨g,f⟩:∃g:Rx->Ex,∀x∈C.vs,x=rx (g x)/\gR (g x):=by
  classical
  refine⟨fun x=>if q:∃e,x=rx e/\gR e then q.choose else .nam [],fun x a=>?_⟩;have q:=W x a;simp only[dif_pos q];exact q.choose_spec
 have B:∀x∈C.vs,pZ x<=40:=fun x a=>by
  have:=h.v x a;unfold qj at this;split at this
  ·split at this
   ·assumption
   ·cases this
  ·cases this
 have D:C.vs=(C.vs.map g).map rx:=by
  rw[List.map_map];conv=>lhs;rw[<- List.map_id C.vs]
  exact List.map_congr_left fun x a=>(f x a).1
 have G:C.vs.map (fun x=>aF (g x) 0)=(C.vs.map g).map fun e=>aF e 0:=by rw[List.map_map];rfl
 have b:∀x∈C.vs,aa prog 63 [dR x] (.tup [dL (aF (g x) 0),dN .i64 0])/\aa prog 68 [dR x] (.one (dL (aF (g x) 0)))/\fY (aF (g x) 0)= .ok (g x)/\(aF (g x) 0).length<=30150:=fun x a=>by obtain⟨O,j⟩:=f x a;have A:=B x a;have hgd:=i x a;have hsz:=hgd.sz;have I:=hgd.wd;generalize g x=e at *;subst O;have U:=zr e j 0;have E:(aF e 0).length<=30150:=V_ U O_;obtain⟨u,_,_,_⟩:=MZ j I O_ A;exact⟨u,iG e j O_,GO j A O_,E⟩
 have hlen:(Et r C (C.vs.map fun x=>aF (g x) 0)).length<=65536:=by
  have A:=ru h.k;have F:=h.pl;have y:=h.cl;have H:=h.vl;have u:=Ek (m:=30150) (C.vs.map fun x=>aF (g x) 0) [] fun t V=>by obtain⟨x,a,rfl⟩:=List.mem_map.1 V;exact(b x a).2.2.2
  rw[List.nil_append,j_]at u;have h0:(xZ []).length=0:=rfl;have Q:=xi (m:=7) (l:=C.ps.map mA++C.cs.map qR++q7 C) fun w d=>by
   rcases List.mem_append.1 d with d|d
   ·rcases List.mem_append.1 d with d|d
    ·obtain⟨z,J,rfl⟩:=List.mem_map.1 d;exact V_ (tJ (h.p z J)).1 D_
    ·obtain⟨z,J,rfl⟩:=List.mem_map.1 d;exact V_ (tJ (h.c z J)).2 D_
   ·unfold q7 at d;split at d
    ·rw[d_.1 d];exact(G0 _).1
    ·split at d
     ·rw[d_.1 d];exact(G0 _).2
     ·cases d
  have X:(q7 C).length<=1:=by unfold q7;split;exact l_ _;split;exact l_ _;exact Nat.zero_le _
  rw[L_,L_,j_,j_]at Q;unfold Et;rw[L_,show Lib.join (BG r C) [32]=r.nm++rf (C.ps.map mA++C.cs.map qR++q7 C) from Dj _ _,L_];omega
 have H:=h.vl;have R:=ru h.k;have F:=h.pl;have y:=h.cl;have L:=rU C 200 200 O_ O_ O_ fun x a=>qX x (i x a).wd (i x a).lm (by have:=(i x a).sz;omega);rw[N]at L;refine⟨_,wI h (fun x=>aF (g x) 0) L (fun x a=>(b x a).1) hlen O_,zK h (fun x=>aF (g x) 0) (fun x a=>(b x a).2.1) hlen,r,C.vs.map g,h,D,fun e S=>?_,by rw[G]⟩;obtain⟨x,a,rfl⟩:=List.mem_map.1 S;exact⟨(f x a).2,(b x a).2.2.1⟩
def vU:∀l:List Rx,s8 l l=true
 | []=>rfl
 |x::r=>by rw[s8,Jm,vU r];rfl
open Classical in
noncomputable def Lo(C:Cn):L8:=if h:∃t,UP C t then h.choose else []
def JS{C:Cn}(a:∀x∈C.vs,Sm x)(b:AM C 200 200=true):UP C (Lo C):=by have h:=Rr a b;unfold Lo;rw[dif_pos h];exact h.choose_spec
def x9{pf:PF}:∀{c:List L8}{b:List Ex},gn pf c=some b-> ∀e∈b,∃t∈c,pf t= .ok e
 | [],b,h,e,a=>by cases h;cases a
 |t::c,b,h,e,a=>by
  rw[gn]at h;split at h
  ·rename_i x g;cases hr:gn pf c with
   |none=>rw[hr]at h;cases h
   |some l=>
    rw[hr]at h;cases h;rcases f_.1 a with rfl|a
    ·exact⟨t,by simp,g⟩
    ·obtain⟨i,d,f⟩:=x9 hr e a;exact⟨i,by simp[d],f⟩
  ·cases h
def Ay{pf:PF}:∀{b:List L8}{a:List Ex},gn pf b=some a->a.length=b.length
 | [],a,h=>by cases h;rfl
 |t::b,a,h=>by
  rw[gn]at h;split at h
  ·cases hr:gn pf b with
   |none=>rw[hr]at h;cases h
   |some l=>rw[hr]at h;cases h;simp[Ay hr]
  ·cases h
def Lf{h n a:L8}{b:Bool}(c:Lib.cut h [32]=(n,a,b)):Lib.split h [32]=n::AF [32] b a:=by rw[lD S_,c];unfold AF;cases b<;>rfl
def Az{s b:L8}(a:b≠[])(c:s.length<=300):(Lib.split s b).length<=302/\ ∀w∈Lib.split s b,w.length<=300:=by have e:=lS (s:=s) a;have f:=Lib.count_le s b;exact⟨by omega,fun w d=>V_ (jT a s.length s (l_ _) w d) c⟩
def BB(s:L8)(hl:s.length<=300):∃O:Option Cn,aa prog 26 [dL s] (UB O)/\aa prog 29 [dL s] (UB O)/\ ∀C,O=some C->aa prog 28 [dC C,dC C] (.one (dB true)):=by
 obtain⟨⟨h,F,hb⟩,hc⟩:∃q,Lib.cut s [32,61,32]=q:=⟨_,rfl⟩;obtain⟨⟨n,J,mo⟩,hn⟩:∃q,Lib.cut h [32]=q:=⟨_,rfl⟩;have bk:h.length<=s.length/\F.length<=s.length:=by have:= @mU s [32,61,32];rw[hc]at this;exact this
 have hw:=Lf hn;obtain⟨ao,_⟩:=Az (s:=h) (b:=[32]) S_ O_;rw[hw,List.length_cons]at ao;obtain⟨a5,B⟩:=Az (s:=F) (b:=[44,32]) S_ O_;obtain⟨l,a0⟩:∃l,AF [32] mo J=l:=⟨_,rfl⟩;rw[a0]at hw ao;have Q:=BE (T7 (gY n)) l (oP (gY n));have R:=BE Ue l (oP (gY n));have G:∀t:L8,t.length<=300->aa prog 35 [dL t] (gD (fY t))/\aa prog 73 [dL t] (gD (fY t)):=fun t f=>RG t O_;obtain⟨L,E⟩:∃L,(AF [44,32] hb F).map (ML fY)=L:=⟨_,rfl⟩;have al:LF fY s=⟨gY n,(l.foldl jn (oP (gY n))).ps,(l.foldl jn (oP (gY n))).cs,L,(l.foldl jn (oP (gY n))).s⟩:=by unfold LF;rw[hc];dsimp only;rw[hw,US,<- E,show(l.foldl jn (oP (gY n))).k=gY n from R.1];unfold AF;cases hb<;>rfl
 have i:MA fY s=(if F=[]then some []else gn fY (Lib.split F [44,32])).map fun X=>(⟨gY n,(l.foldl (mL (gY n)) (oP (gY n))).ps,(l.foldl (mL (gY n)) (oP (gY n))).cs,X.map rx,(l.foldl (mL (gY n)) (oP (gY n))).s⟩,X):=by unfold MA;rw[hc];dsimp only;rw[hw,UV,show(l.foldl (mL (gY n)) (oP (gY n))).k=gY n from Q.1]
 generalize a1:l.foldl (mL (gY n)) (oP (gY n))=dP at *;generalize a2:l.foldl jn (oP (gY n))=dR0 at *;obtain⟨C,V⟩:∃C,(⟨gY n,dR0.ps,dR0.cs,L,dR0.s⟩:Cn)=C:=⟨_,rfl⟩;have bb:L.length<=302:=by
  rw[<- E,j_];unfold AF;split
  ·exact a5
  ·simp
 have W:∀x∈L,Sm x:=fun x j=>by
  rw[<- E]at j;obtain⟨t,f,rfl⟩:=List.mem_map.1 j;unfold AF at f;split at f
  ·exact KL (B t f)
  ·cases f
 have m:C.vs=L:=by rw[<- V]
 have be:C.ps.length<=301/\C.cs.length<=301:=by rw[<- V];have a:=R.2.1;have b:=R.2.2;simp only[oP,List.length_nil]at a b;exact⟨by show dR0.ps.length<=301;omega,by show dR0.cs.length<=301;omega⟩
 have hV:aa prog 18 [dC C,dN .i64 200,dN .i64 200] (.one (dB (AM C 200 200))):=xQ C 200 200 O_ O_ (by rw[m];omega) fun x j=>by rw[m]at j;exact oL x (W x j).wd (W x j).lm (by have:=(W x j).sz;omega)
 have hT:AM C 200 200=true->UP C (Lo C):=fun A=>JS (fun x j=>W x (by rw[m]at j;exact j)) A;have cR:aa prog 29 [dL s] (UB (if AM C 200 200=true/\Lo C=s then some C else none)):=by
  have:=wi s hl h F hb hc n J mo hn (ML fY) (fun t f=>by
   have:=(G t f).2;unfold ML;cases hq:fY t with
   |ok e=>rw[hq]at this;exact⟨0,0,this⟩
   |error z=>obtain⟨p,c⟩:=z;rw[hq]at this;exact⟨p,c,this⟩) dR0 (by rw[a0];exact a2) L E (AM C 200 200) (by rw[<- V]at hV ⊢;exact hV) (Lo C) (fun A=>by have:=(hT A).2.1;rw[<- V]at this ⊢;exact this)
  rw[V]at this;exact this
 have hE:AM C 200 200=true->aa prog 28 [dC C,dC C] (.one (dB true)):=fun _=>by
  have:=oh C C O_ O_ (by rw[m];omega) fun x j y hy=>uk x (W x (by rw[m]at j;exact j)).lw y (W y (by rw[m]at hy;exact hy)).lw;have e:SY C C=true:=by unfold SY;rw[vU];simp
  rwa[e]at this
 refine⟨_,?_,cR,fun C' N=>?_⟩
 rotate_left
 ·split at N
  ·rename_i hh;cases N;exact hE hh.1
  ·cases N
 refine BK s O_ fY h F hb hc n l hw (fun _ t f=>(G t (B t f)).1) (fun _ t f q v hq=>Lj (by have:=B t f;omega) hq) dP a1 _ (fun X g=>?_) (fun a3=>?_)
 ·rw[g,Option.map_some]at i;obtain⟨D,Z⟩:∃D,(⟨gY n,dP.ps,dP.cs,X.map rx,dP.s⟩:Cn)=D:=⟨_,rfl⟩;rw[Z]at i ⊢;have ad:D.vs=X.map rx:=by rw[<- Z]
  have w:∀x∈D.vs,Sm x:=fun x j=>by
   rw[ad]at j;obtain⟨e,he,rfl⟩:=List.mem_map.1 j;by_cases u:F=[]
   ·rw[if_pos u]at g;cases g;cases he
   ·rw[if_neg u]at g;obtain⟨t,f,a4⟩:=x9 g e he;have:=KL (B t f);unfold ML at this;rw[a4]at this;exact this
  have bj:D.ps.length<=301/\D.cs.length<=301:=by rw[<- Z];have a:=Q.2.1;have b:=Q.2.2;simp only[oP,List.length_nil]at a b;exact⟨by show dP.ps.length<=301;omega,by show dP.cs.length<=301;omega⟩
  have ag:D.vs.length<=1000000:=by
   rw[ad,j_];by_cases u:F=[]
   ·rw[if_pos u]at g;cases g;simp
   ·rw[if_neg u]at g;have:=Ay g;omega
  cases A:AM D 200 200 with
  |false=>have c3:=rU D 200 200 O_ O_ ag fun x hm=>qX x (w x hm).wd (w x hm).lm (by have:=(w x hm).sz;omega);rw[A]at c3;refine⟨[],1,by have:=wB c3;rw[<- Z]at this;exact this,?_⟩;rw[if_neg (c:=((1:Int)=0/\([]:L8)=s)) (fun h=>absurd h.1 D_),if_neg];rintro⟨S,U⟩;obtain⟨_,_,r,Y,k1,k2,H,I⟩:=hT S;rw[U]at I;have d:=(lQ (pf:=fY) k1 k2 (fun e he=>(H e he).1) (fun e he=>(H e he).2)).1;rw[<- I,i]at d;have:D=C:=(Prod.mk.inj (Option.some.inj d)).1;rw[this,S]at A;cases A
  |true=>
   have hI:=JS w A;obtain⟨k0,_,r,Y,k1,k2,H,I⟩:=hI;refine⟨Lo D,0,by rw[<- Z]at k0 ⊢;exact k0,?_⟩;by_cases f:Lo D=s
   ·rw[if_pos (c:=((0:Int)=0/\Lo D=s)) ⟨rfl,f⟩];rw[f]at I;have d:=(lQ (pf:=fY) k1 k2 (fun e he=>(H e he).1) (fun e he=>(H e he).2)).2;rw[<- I,al,V]at d;subst d;rw[if_pos ⟨A,f⟩]
   ·rw[if_neg (c:=((0:Int)=0/\Lo D=s)) (fun h=>f h.2),if_neg];rintro⟨S,U⟩;obtain⟨_,_,r',a9,q1,q2,q3,q4⟩:=hT S;rw[U]at q4;have d:=(lQ (pf:=fY) q1 q2 (fun e he=>(q3 e he).1) (fun e he=>(q3 e he).2)).1;rw[<- q4,i]at d;have:D=C:=(Prod.mk.inj (Option.some.inj d)).1;rw[this]at f;exact f U
 ·rw[if_neg];rintro⟨S,U⟩;obtain⟨_,_,r,Y,k1,k2,H,I⟩:=hT S;rw[U]at I;have d:=(lQ (pf:=fY) k1 k2 (fun e he=>(H e he).1) (fun e he=>(H e he).2)).1;rw[<- I,i,a3]at d;cases d
end Go.Proofs.YtnchbpoopnjghaaGreatDoor
