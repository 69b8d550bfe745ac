/- Parts of a proof: contracts of the functions that the laws reach. -/
import Derived.Test.YtnchbpoopnjghaaGreatDoorQZ12
set_option maxHeartbeats 100000000
set_option linter.all false
open Go.Proofs.Tryz
namespace Go.Proofs.YtnchbpoopnjghaaGreatDoor
open Go.RowKit
section
variable {P:Program} {T:TypeId->Option Ty} {n:Nat} {ops:Array Oper} {id:Nat} {draw:Bool} {K:AS->Prop} {s:AS} {k:Nat} {o:Oper} {os:List Oper} {fps:List FP}
theorem UR {x y:Operand} {ts:Array TypeId} {a b m:Int} (hm:min a b=m) (h1:gd ops s o=some true) (h2:o.op= .call ⟨.builtin .min,#[x,y],ts⟩) (h7:s.ev x= .d (dN .i64 a)) (h8:s.ev y= .d (dN .i64 b))
 (h3:aL n o.dst=true) (h4:fg draw ops (aA ops o ⟨.d (dN .i64 m),none⟩ []) k fps=true) (h:ar P T n ops id draw K (k+1) os (s.eff o.dst ⟨.d (dN .i64 m),none⟩) (aA ops o ⟨.d (dN .i64 m),none⟩ []::fps)):ar P T n ops id draw K k (o::os) s fps:=by
 subst hm;refine .run h1 (.gen fun s2 ht _=>?_) h3 h4 h;have hx:=(aw ht (x:=x) (by simp[h2,Op.operands,Call.operands])).trans h7;have hy:=(aw ht (x:=y) (by simp[h2,Op.operands,Call.operands])).trans h8;refine ak fun n S0 w0 g a' w hM=>⟨.int .i64 (min a b),w,?_,Below.refl _ _,AV.M.val rfl⟩
 have hm:(Builtin.min2 (.int .i64 a) (.int .i64 b)).run P w= .ok (.int .i64 (min a b)) w:=by
  have e:min a b=if b<a then b else a:=by split <;>omega
  rw[e];rfl
 simp[execOp,h2,resolve,invoke,builtin,Builtin.min_,a7 hM hx,a7 hM hy,Y_,hm]
end
def lG (l:List Nat):List AV:=l.map fun n:Nat=>AV.val (.int .i64 n)
def GM (l:List Nat):DV:= .leaf (.sl l.length (lG l))
theorem Hu (l:List Nat):(lG l).length=l.length:=j_ ..
theorem zE {l:List Nat} {i b:Nat} (h:l[i]? =some b):∀(j:Nat) (a:AV),[AV.val (.int .i64 b)][j]? =some a->(lG l)[i*1+j]? =some a:=by
 intro j a hj
 match j,hj with
 |0,hj=>rw[o_,Nat.add_zero,lG,List.getElem?_map,h];exact hj
def GO (l:Tb) (bs:List Nat) (n:L8):Nat:=if il l n<l.length then bs.getD (il l n) 0 else 0
def AE (l:Tb):Nat->List Nat
 |0=>List.replicate l.length 0
 |k+1=>l.map fun p=>l6 (ri l k) p.2
theorem Cr (b:L8->Nat) (x:Rx):l6 b x<=1048576:=by
 obtain⟨op,na,xs,nb,ys,nm,args⟩:=x
 simp only[l6]
 exact Nat.min_le_right _ _
theorem qI (l:Tb) (k:Nat):(AE l k).length=l.length:=by cases k<;>simp[AE]
theorem So (l:Tb) (k:Nat):∀x∈AE l k,x<=1048576:=by
 cases k with
 |zero=>intro x hx;have:=(List.mem_replicate.1 hx).2;omega
 |succ k=>intro x hx;obtain⟨p,_,rfl⟩:=List.mem_map.1 hx;exact Cr _ _
theorem RJ (l:Tb) (k:Nat):GO l (AE l k)=ri l k:=by
 funext n
 unfold GO;cases k with
 |zero=>
  split
  ·rw[AE,H_,List.getElem?_replicate];split <;>rfl
  ·rfl
 |succ k=>
  rw[ri]
  split
  ·rename_i h
   obtain⟨p,hp,_⟩:=wG h;rw[AE,H_,List.getElem?_map];unfold NR;rw[hp];rfl
  ·rfl
theorem E3 {b:L8->Nat} {args:List Rx} {i:Nat} {x:Rx} (h:args[i]? =some x):jO b (args.take (i+1))=jO b (args.take i)+l6 b x:=by
 rw[aT h];generalize args.take i=l
 induction l with
 |nil=>simp[jO]
 |cons y r ih=>simp only[List.cons_append,jO,ih];omega
theorem C3 (b:L8->Nat):∀l:List Rx,jO b l<=1048576*l.length
 | []=>l_ _
 |x::r=>by have:=Cr b x;have:=C3 b r;simp only[jO,List.length_cons];omega
theorem FB (l:Tb) (bs:List Nat) (hbl:bs.length=l.length) (hb:∀x∈bs,x<=1048576) (hl:l.length<=1000):∀x,Ds x->f8 x<=1000000->aa Tryz.prog 54 [dR x,da l,GM bs] (.one (dN .i64 (l6 (GO l bs) x))):=by
 refine eM fun op na xs nb ys nm args ih hm hs=>?_
 obtain⟨hx1,hy1,hn1,hm1⟩:xs.length<=510/\ys.length<=510/\nm.length<=65536/\ ∀x∈args,Ds x:=by cases hm with|mk a b c d=>exact⟨a,b,c,d⟩
 rw[f8]at hs;have hge:=mQ args;have cf:=qU l nm O_
 have hih:∀(i:Nat) (x:Rx),args[i]? =some x->aa Tryz.prog 54 [dR x,da l,GM bs] (.one (dN .i64 (l6 (GO l bs) x))):=fun i x hi=>ih x (M_ hi) (hm1 x (M_ hi)) (by
  have:∀(l:List Rx) (i:Nat),l[i]? =some x->f8 x<=eQ l:=by
   intro l
   induction l with
   |nil=>intro i h;simp at h
   |cons y r ih=>intro i h;cases i with
    |zero=>simp at h;subst h;simp[eQ]
    |succ i=>have:=ih i (by simpa using h);simp only[eQ];omega
  have:=this args i hi
  omega)
 rw[l6];have hsl:=C3 (GO l bs);have htk:= @E3 (GO l bs) args
 have hbf:GO l bs nm<=1048576:=by
  unfold GO
  split
  ·rw[H_]
   cases h:bs[il l nm]? with
   |none=>exact Nat.zero_le _
   |some x=>exact hb x (M_ h)
  ·exact Nat.zero_le _
 have hfI:(uh l nm= -1/\GO l bs nm=0)∨ ∃(k:Nat) (b:Nat),uh l nm=k/\bs[k]? =some b/\GO l bs nm=b:=by
  unfold uh GO
  split
  ·rename_i h
   have h2:il l nm<bs.length:=O_
   exact .inr ⟨_,bs[il l nm],rfl,by simp[h2],by rw[H_,Q_ h2];rfl⟩
  ·exact .inl ⟨rfl,rfl⟩
 generalize GO l bs=wf at *;generalize uh l nm=f at *;obtain⟨B0,hB0⟩:∃B0,1+32*(xs.length+ys.length)+(if nm=[]then 0 else 32)+wf nm=B0:=⟨_,rfl⟩;rw[hB0];have hB0le:B0<=1100000:=by rw[<- hB0];split <;>omega
 show aa Tryz.prog _ [.agg (ab op na xs nb ys nm args.length (fG args)),_,_] _;refine kU func54 ?_
 iterate 2 refine kG ?_
 iterate 10 refine kO ?_
 refine kJ ((xs.length+ys.length:Nat)) ?_;refine kJ ((32*(xs.length+ys.length):Nat)) ?_;refine kJ ((1+32*(xs.length+ys.length):Nat)) ?_;refine kN ?_;refine lL ⟨[(1, .d (da l)),(2, .d (GM bs)),(3, .box 0 0),(7, .d (dN .i64 (1+32*(xs.length+ys.length)+(if nm=[]then 0 else 32):Nat)))],[(0,some (ab op na xs nb ys nm args.length (fG args)))]⟩ (fun s' hw=>?_) (fun R hR _=>?_)
 case refine_2=>
  refine kI ?_
  refine kO2 ?_
  by_cases hn:nm=[]
  ·rw[if_pos hn]at hR
   refine ax rfl rfl rfl rfl rfl rfl rfl (kf (a:=nm) (b:=[]) hn) ?_;refine kW ?_;exact hR _ kw
  ·rw[if_neg hn]at hR
   refine ax rfl rfl rfl rfl rfl rfl rfl (mS (a:=nm) (b:=[]) hn) ?_;refine wq ?_;refine kI ?_;refine kO ?_;refine kJ ((1+32*(xs.length+ys.length)+32:Nat)) ?_;refine kW ?_;exact hR _ kw
 refine bu (T:=TT) ?_;refine dh hw rfl ?_;generalize(1+32*(xs.length+ys.length)+if nm=[]then 0 else 32)=B1 at *;clear hw s'
 refine kO3 ?_
 refine kC (cf) ?_;refine kN ?_;refine lL ⟨[(1, .d (da l)),(2, .d (GM bs)),(3, .box 0 0),(7, .d (dN .i64 (B0:Nat)))],[(0,some (ab op na xs nb ys nm args.length (fG args)))]⟩ (fun s' hw=>?_) (fun R hR _=>?_)
 case refine_2=>
  refine kI ?_;refine kO ?_;rcases hfI with⟨rfl,h0⟩| ⟨k,b,rfl,hk,h0⟩
  ·refine kB false ?_ ?_
   ·exact F_ D_
   refine kW ?_;exact hR _ (weak ⟨rfl,rfl,rfl,by rw[<- hB0,h0];rfl,trivial⟩ ⟨rfl,trivial⟩ rfl)
  ·refine kT ?_
   refine wq ?_;refine kI ?_
   refine kO3 ?_
   refine aH (i:=k) (cs':=[.val (.int .i64 b)]) (G_.1 hk).1 (zE hk) (Z_ 0) rfl rfl rfl rfl rfl rfl rfl rfl ?_;refine kO ?_;refine kJ ((B0:Nat)) ?_;refine kW ?_;exact hR _ kw
 refine bu (T:=TT) ?_;refine dh hw rfl ?_;clear hw s';refine kW ?_;refine aq Nat (fun i=>i<=args.length) (fun i=>⟨[(1, .d (da l)),(2, .d (GM bs)),(3, .box 0 0),(7, .d (dN .i64 (B0+jO wf (args.take i):Nat))),(9, .d (dN .i64 i))],[(0,some (ab op na xs nb ys nm args.length (fG args)))]⟩) (fun i=>args.length-i) 0 (Nat.zero_le _) kw ?_;intro i hi;have hsl1:=hsl (args.take i);have htl:(args.take i).length<=1000000:=by rw[U_];omega
 refine kI ?_
 refine kO4 ?_
 by_cases hlt:i<args.length
 ·refine kT ?_
  obtain⟨x,hx⟩:∃x,args[i]? =some x:=⟨args[i],by simp[hlt]⟩;have hst:=htk hx;have c:=hih i x hx;obtain⟨o1,na1,xs1,nb1,ys1,nm1,n1,cs1,hA⟩:=aY x;have hat:∀(j:Nat) (a:AV),(ab o1 na1 xs1 nb1 ys1 nm1 n1 cs1)[j]? =some a->(fG args)[i*7+j]? =some a:=fun j a h=>eX args i x hx j a (by rw[hA];exact h)
  rw[show dR x= .agg (ab o1 na1 xs1 nb1 ys1 nm1 n1 cs1) from congrArg DV.agg hA]at c;have hwx:=Cr wf x;generalize l6 wf x=v at *;generalize jO wf (args.take i)=V at *;refine wq ?_;refine nt ?_
  refine kO4 ?_
  refine QL ?_
  refine kO3 ?_
  refine kC (c) ?_;refine kJ ((B0+(V+v):Nat)) ?_;refine kW ?_;refine⟨i+1,hlt,by omega,weak ⟨rfl,rfl,rfl,?_,ai O_ O_,trivial⟩ ⟨rfl,trivial⟩ rfl⟩;rw[hst];rfl
 ·refine kE ?_
  rw[K_ O_];rw[K_ O_]at hsl1;refine jP ?_;refine kI ?_;refine kO ?_;refine UR (m:=((min (B0+jO wf args) 1048576:Nat):Int)) O_ rfl rfl rfl rfl rfl rfl ?_;exact aj
def Lr (l:Tb):Bool:=decide (8<l.length) || (decide ((bW l).2≠0) || l.all fun p=>decide (l6 (ri l (l.length-1)) p.2<=2000))
theorem QX {l:Tb} (h:Lr l=true):V9 l:=fun h8 h0 p hp=>by
 unfold Lr at h;rw[F_ O_,F_ (fun h=>h h0),Bool.false_or,Bool.false_or]at h
 simpa using I_.1 h p hp
theorem sZ:∀n,eL [AV.val (.int .i64 0)] n=lG (List.replicate n 0)
 |0=>rfl
 |n+1=>by rw[eL,sZ n,List.replicate_succ];rfl
def KO (A:List Nat) (i n:Nat):List Nat:=A.take i++List.replicate (n-i) 0
theorem L0 {A:List Nat} {i n:Nat} (h:A.length=n) (hi:i<=n):(KO A i n).length=n:=by simp[KO];omega
theorem HX (A:List Nat) (n:Nat):KO A 0 n=List.replicate n 0:=by simp[KO]
theorem MP {A:List Nat} {n:Nat} (h:A.length=n):KO A n n=A:=by subst h;simp[KO]
theorem Nv {A:List Nat} {i n x:Nat} (h:A.length=n) (hx:A[i]? =some x):bz (lG (KO A i n)) (i*1) [.val (.int .i64 x)]=lG (KO A (i+1) n):=by
 have hi:=(G_.1 hx).1;unfold bz KO;rw[aT hx,show n-i=(n-(i+1))+1 by omega,List.replicate_succ]
 have e1:(lG (A.take i++0::List.replicate (n-(i+1)) 0)).take (i*1)=lG (A.take i):=by
  rw[lG,<- List.map_take,o_,List.take_append_of_le_length (by simp;omega),List.take_take,Nat.min_self];rfl
 have e2:(lG (A.take i++0::List.replicate (n-(i+1)) 0)).drop (i*1+[AV.val (.int .i64 (x:Int))].length)=lG (List.replicate (n-(i+1)) 0):=by
  rw[lG,<- List.map_drop,o_,List.length_singleton,List.drop_append,List.drop_eq_nil_of_le (by simp;omega),List.nil_append,U_,Nat.min_eq_left O_,show i+1-i=1 by omega];rfl
 rw[e1,e2]
 simp[lG]
theorem Ij (l:Tb) (hs:ul l) (hl:l.length<=1000):aa Tryz.prog 21 [da l] (.one (dB (Lr l))):=by
 by_cases h8:8<l.length
 ·rw[show Lr l=true by unfold Lr;rw[T_ h8];rfl]
  refine kU func21 ?_;refine Af ?_;exact aj
 have hco:=n8 l hs hl
 have e0:GM (AE l 0)= .leaf (.sl l.length (eL [AV.val (.int .i64 0)] l.length)):=by
  rw[sZ];unfold GM;rw[qI];rfl
 have hlo:(bW l).2=0->(bW l).1.length=l.length:=fun h=>(ly (l:=l) (o:=(bW l).1) (by rw[<- h])).2.2
 obtain⟨BT,hBT⟩:∃BT,Lr l=BT:=⟨_,rfl⟩;rw[hBT]
 have hfal:(bW l).2=0->(∃p∈l,2000<l6 (ri l (l.length-1)) p.2)->BT=false:=fun h ⟨p,hp,hw⟩=>by
  rw[<- hBT,Lr,F_ h8,F_ (fun h2=>h2 h),Bool.false_or,Bool.false_or,List.all_eq_false];exact⟨p,hp,by simp;omega⟩
 have htru:((bW l).2=0-> ∀p∈l,l6 (ri l (l.length-1)) p.2<=2000)->BT=true:=fun h=>by
  rw[<- hBT,Lr,F_ h8,Bool.false_or]
  by_cases h0:(bW l).2=0
  ·rw[F_ (fun h2=>h2 h0),Bool.false_or,I_]
   exact fun p hp=>T_ (h h0 p hp)
  ·rw[T_ h0];rfl
 clear hBT;generalize(bW l).2=oe at *;generalize(bW l).1=oo at *;refine kU func21 ?_;refine qz ?_;refine kW ?_;refine Jm 5001 af (m:=l.length) (c:=l.length) (l_ _) (V_ (Nat.mul_le_mul_left _ hl) D_) O_ rfl rfl rfl rfl rfl rfl rfl rfl rfl rfl rfl rfl rfl rfl rfl ?_;refine kW ?_;refine aq Nat (fun k=>k<=l.length) (fun k=>⟨[(0, .d (da l)),(3, .d (GM (AE l k))),(4, .d (dN .i64 k))],[]⟩) (fun k=>l.length-k) 0 (Nat.zero_le _) ((bf (q:=3) rfl rfl).tr (weak ⟨rfl,congrArg TV.d e0.symm,rfl,trivial⟩ trivial rfl)) ?_;intro k hk;refine kI ?_
 refine kO3 ?_
 by_cases hlt:k<l.length
 ·refine kT ?_
  have hbl:=qI l k;have hble:=So l k;have hbf:=RJ l k;have hA:(AE l (k+1)).length=l.length:=qI l (k+1);have hAi:∀(i:Nat) (p:Pm),l[i]? =some p->(AE l (k+1))[i]? =some (l6 (ri l k) p.2):=fun i p hi=>by rw[AE,List.getElem?_map,hi];rfl
  obtain⟨A,hAe⟩:∃A,AE l (k+1)=A:=⟨_,rfl⟩;rw[hAe]at hA
  simp only[hAe]at hAi
  have eA:GM A= .leaf (.sl l.length (lG (KO A l.length l.length))):=by unfold GM;rw[MP hA,hA]
  generalize AE l k=bk at *;refine kW ?_;refine Jm 5002 af (m:=l.length) (c:=l.length) (l_ _) (V_ (Nat.mul_le_mul_left _ hl) D_) O_ rfl rfl rfl rfl rfl rfl rfl rfl rfl rfl rfl rfl rfl rfl rfl ?_;refine kW ?_;refine aq Nat (fun i=>i<=l.length) (fun i=>⟨[(5, .own 5002 l.length 1 3),(0, .d (da l)),(3, .d (GM bk)),(4, .d (dN .i64 k)),(6, .d (dN .i64 i))],[(5002,some (lG (KO A i l.length)))]⟩) (fun i=>l.length-i) 0 (Nat.zero_le _) (weak ⟨rfl,rfl,rfl,rfl,rfl,trivial⟩ ⟨by show some _=some _;rw[HX,<- sZ],trivial⟩ rfl) ?_;intro i hi;refine kI ?_
  refine kO3 ?_
  by_cases hil:i<l.length
  ·refine kT ?_
   obtain⟨p,hx⟩:∃p,l[i]? =some p:=⟨l[i],by simp[hil]⟩;have hsx:=(hs p (M_ hx)).2;have hAx:=hAi i p hx;have hset:=Nv hA hAx;have hrl:=L0 hA hi;have c:=FB l bk hbl hble hl p.2 hsx.lm (by have:=hsx.sz;omega);rw[hbf]at c;obtain⟨o1,na1,xs1,nb1,ys1,nm1,n1,cs1,hAA,hB⟩:=bD p;have hat:∀(j:Nat) (a:AV),(bV p.1 o1 na1 xs1 nb1 ys1 nm1 n1 cs1)[j]? =some a->(ot l)[i*8+j]? =some a:=fun j a h=>de l i p hx j a (by rw[hB];exact h)
   rw[show dR p.2= .agg (ab o1 na1 xs1 nb1 ys1 nm1 n1 cs1) from congrArg DV.agg hAA]at c;generalize l6 (ri l k) p.2=wv at *;refine wq ?_;refine nt ?_
   refine kO4 ?_
   refine DF ?_
   refine kO4 ?_
   refine kC (c) ?_;refine mC (i:=i) hil rfl rfl rfl rfl rfl rfl rfl rfl rfl ?_;refine Aq (by rw[Hu,hrl];omega) hset rfl rfl rfl rfl rfl rfl rfl rfl rfl rfl ?_;refine kW ?_;exact⟨i+1,hil,by omega,weak ⟨rfl,rfl,rfl,rfl,ai O_ O_,trivial⟩ ⟨rfl,trivial⟩ rfl⟩
  ·obtain rfl:i=l.length:=O_
   refine kY ?_;exact⟨k+1,hlt,by omega,(bf (q:=3) rfl rfl).tr (weak ⟨rfl,congrArg TV.d (by rw[hAe];exact eA.symm),ai O_ O_,trivial⟩ trivial rfl)⟩
 ·obtain rfl:k=l.length:=O_
  refine kE ?_;have hbl:=qI l l.length
  have hAi:∀(i:Nat) (p:Pm),l[i]? =some p->(AE l l.length)[i]? =some (l6 (ri l (l.length-1)) p.2):=fun i p hi=>by
   obtain⟨n,hn⟩:∃n,l.length=n+1:=⟨l.length-1,by have:=(G_.1 hi).1;omega⟩;rw[hn,AE,List.getElem?_map,hi];rfl
  generalize AE l l.length=A at *;generalize ri l (l.length-1)=bt at *;refine kW ?_;refine aq Nat (fun i=>i<=l.length/\(oe=0-> ∀p∈l.take i,l6 bt p.2<=2000)) (fun i=>⟨[(0, .d (da l)),(3, .d (GM A)),(7, .d (dN .i64 i))],[]⟩) (fun i=>l.length-i) 0 ⟨Nat.zero_le _,fun _ p h=>by simp at h⟩ kw ?_;rintro i ⟨hi,hall⟩;refine kI ?_
  refine kO3 ?_
  by_cases hil:i<l.length
  ·refine kT ?_
   obtain⟨p,hx⟩:∃p,l[i]? =some p:=⟨l[i],by simp[hil]⟩;have hAx:=hAi i p hx;have hp:=M_ hx;have hw:l6 bt p.2=l6 bt p.2:=rfl;generalize hwv:l6 bt p.2=wv at *;refine wq ?_;refine nt ?_;refine kO ?_;refine kC (hco) ?_;refine lC ?_
   by_cases h0:oe=0
   ·have hol:=hlo h0
    refine kB true ?_ ?_
    ·exact beq_iff_eq.2 h0
    refine kO3 ?_
    refine kT ?_
    refine kO4 ?_
    refine aH (i:=i) (cs':=[.val (.int .i64 wv)]) O_ (zE hAx) (Z_ 0) rfl rfl rfl rfl rfl rfl rfl rfl ?_;refine kO ?_
    by_cases hb:2000<wv
    ·refine kT ?_
     refine eH ?_;rw[hfal h0 ⟨p,hp,by rw[hwv];exact hb⟩];rfl
    ·refine kE ?_
     refine kW ?_;refine⟨i+1,⟨hil,fun _ q hq=>?_⟩,by omega,weak ⟨rfl,rfl,ai O_ O_,trivial⟩ trivial rfl⟩;rw[aT hx]at hq;rcases List.mem_append.1 hq with hq|hq
     ·exact hall h0 q hq
     ·rw[d_.1 hq,hwv];omega
   ·refine kB false ?_ ?_
    ·exact beq_eq_false_iff_ne.2 h0
    refine kW ?_;exact⟨i+1,⟨hil,fun h=>absurd h h0⟩,by omega,weak ⟨rfl,rfl,ai O_ O_,trivial⟩ trivial rfl⟩
  ·refine kE ?_
   refine eH ?_;rw[K_ O_]at hall;rw[htru hall];rfl
section
variable {P:Program} {T:TypeId->Option Ty} {n:Nat} {ops:Array Oper} {id:Nat} {draw:Bool} {K:AS->Prop} {s:AS} {k:Nat} {o:Oper} {os:List Oper} {fps:List FP}
theorem DX (hT:∀t d,T t=some d->a8 P t d) {t:TypeId} {ty:Ty} {x y:Operand} {et q m i:Nat} {ik:IntKind} {cs:List AV} (hi:i<=m) (h1:gd ops s o=some true) (h2:o.op= .slice t x none (some y) none) (h5:T t=some ty) (h6:ty.elem=some (et,q)) (h7:s.ev x= .d (.leaf (.sl m cs))) (h8:s.ev y= .d (.leaf (.val (.int ik (i:Nat)))))
 (h3:aL n o.dst=true) (h4:fg draw ops (aA ops o ⟨.d (.leaf (.sl i (cs.take (i*q)))),none⟩ []) k fps=true) (h:ar P T n ops id draw K (k+1) os (s.eff o.dst ⟨.d (.leaf (.sl i (cs.take (i*q)))),none⟩) (aA ops o ⟨.d (.leaf (.sl i (cs.take (i*q)))),none⟩ []::fps)):ar P T n ops id draw K k (o::os) s fps:=by
 refine .run h1 (.gen fun s2 ht _=>?_) h3 h4 h;have hx:=(aw ht (x:=x) (by simp[h2,Op.operands])).trans h7;have hy:=(aw ht (x:=y) (by simp[h2,Op.operands])).trans h8;obtain⟨u,hu,_,hel,_⟩:=(hT _ _ h5).und;obtain⟨rfl,hks⟩:=hel et q h6;refine ak fun n S0 w0 g a w hM=>?_
 have hm:=hM.ev x;rw[hx]at hm;have hm:AV.M (Own S0 g s2) w (.sl m cs) (a.eval x):=hm;have hiv:=a7 hM hy
 have key:∃v,(Instr.sliceAt t (a.eval x) none (some (.int ik (i:Nat))) none).run P w= .ok v w/\AV.M (Own S0 g s2) w (.sl i (cs.take (i*q))) v:=by
  generalize a.eval x=v at hm;cases hm with
  |emp e1 e2 e3=>
   rename_i A c
   refine⟨_,kP hu hks A ik O_,?_⟩;rw[List.take_nil];refine .emp O_ O_ (fun hA=>?_)
   split at hA
   ·assumption
   ·exact e3 (by cases A<;>simp_all)
  |sl f e1 e2 e3 e4 e5 e6=>
   rename_i b off c
   have hA:(if c=0 then some (⟨b,off,none⟩:Addr)else(some (⟨b,off,none⟩:Addr)).map (·.add (0*q)))=some ⟨b,off,none⟩:=by
    split
    ·rfl
    ·show some ((⟨b,off,none⟩:Addr).add (0*q))=_
     rw[b7,Nat.zero_mul,Nat.add_zero]
   have hr:=kP (P:=P) (w:=w) hu hks (some (⟨b,off,none⟩:Addr)) (m:=m) (i:=i) (c:=c) ik O_;rw[hA]at hr;refine⟨_,hr,?_⟩
   have hc:∀(p:Nat) (b:AV),(cs.take (i*q))[p]? =some b->cs[p]? =some b:=fun p b hb=>by
    rw[List.getElem?_take]at hb
    split at hb
    ·exact hb
    ·cases hb
   exact .sl f O_ O_ e3 e4 (fun j x hj=>e5 _ _ (hc j x hj)) (fun j x hj=>e6 _ _ (hc j x hj))
 obtain⟨v,hr,hv⟩:=key;refine⟨v,w,?_,Below.refl _ _,hv⟩;unfold execOp;rw[h2]
 simp only[hiv,Option.map_some,Option.map_none,Y_,hr,R_]
 rfl
theorem rX (hT:∀t d,T t=some d->a8 P t d) {t:TypeId} {ty:Ty} {x y:Operand} {et q m i d:Nat} {ik:IntKind} {cs:List AV} (hcs:cs.length<=m*q) (hi:i<=m) (hd:m-i=d) (h1:gd ops s o=some true) (h2:o.op= .slice t x (some y) none none) (h5:T t=some ty) (h6:ty.elem=some (et,q)) (h7:s.ev x= .d (.leaf (.sl m cs))) (h8:s.ev y= .d (.leaf (.val (.int ik (i:Nat)))))
 (h3:aL n o.dst=true) (h4:fg draw ops (aA ops o ⟨.d (.leaf (.sl d (cs.drop (i*q)))),none⟩ []) k fps=true) (h:ar P T n ops id draw K (k+1) os (s.eff o.dst ⟨.d (.leaf (.sl d (cs.drop (i*q)))),none⟩) (aA ops o ⟨.d (.leaf (.sl d (cs.drop (i*q)))),none⟩ []::fps)):ar P T n ops id draw K k (o::os) s fps:=by
 subst hd;exact Qe hT hcs hi h1 h2 h5 h6 h7 h8 h3 h4 h
end
theorem VP (x:L8):bz (eL [AV.val (Value.string ByteArray.empty)] 1) 0 (dL x).cells=[.val (vL x)]:=rfl
theorem VQ (na nb:Bool) (xs ys:List Nat) (p:Int):bz (eL [AV.val (Value.bool false),AV.sl 0 [],AV.val (Value.bool false),AV.sl 0 [],AV.val (Value.int IntKind.i64 0)] 1) 0 (DV.agg [AV.val (Value.bool na),aW xs,AV.val (Value.bool nb),aW ys,AV.val (Value.int IntKind.i64 p)]).cells=[AV.val (Value.bool na),aW xs,AV.val (Value.bool nb),aW ys,AV.val (Value.int IntKind.i64 p)]:=rfl
theorem Nf {m m' n n':Nat} {a a' b b':List AV} (h1:m=m') (h2:a=a') (h3:n=n') (h4:b=b'):yt [.leaf (.sl m a), .leaf (.sl n b)]= .tup [.leaf (.sl m' a'), .leaf (.sl n' b')]:=by subst h1 h2 h3 h4;rfl
theorem fX:∀{cs:List AV},bB cs=true↔ ∀a∈cs,Fo a=true
 | []=>by simp[bB]
 |a::cs=>by
  simp only[bB,f_,forall_eq_or_imp]
  cases h:Fo a
  ·simp
  ·simp[fX (cs:=cs)]
theorem IW {a b:List AV} (h:bB a=true) (k:bB b=true):bB (a++b)=true:=fX.2 fun x hx=>by
 rcases List.mem_append.1 hx with hx|hx
 ·exact fX.1 h x hx
 ·exact fX.1 k x hx
theorem vy {a:List AV} (h:bB a=true) (i:Nat):bB (a.take i)=true:=fX.2 fun x hx=>fX.1 h x (List.mem_of_mem_take hx)
theorem lr {a:List AV} (h:bB a=true) (i:Nat):bB (a.drop i)=true:=fX.2 fun x hx=>fX.1 h x (List.mem_of_mem_drop hx)
def OV (na:Bool) (xs:List Nat) (nb:Bool) (ys:List Nat) (p:Int):List AV:=[.val (.bool na),aW xs, .val (.bool nb),aW ys, .val (.int .i64 p)]
def Mq (ns:List L8) (x:L8) (cv vv:List AV):List AV:=cv.take (yN ns x*5)++vv++cv.drop (yN ns x*5)
theorem G2 (l:List L8) (n:L8):(wO l n).length=l.length+1:=by
 have:=Bn l n
 simp[wO]
 omega
theorem Sa (ns:List L8) (cv:List AV) (x:L8) (na:Bool) (xs:List Nat) (nb:Bool) (ys:List Nat) (p:Int) (hc:cv.length=ns.length*5) (hB:bB cv=true) (hl:ns.length<=1000):aa Tryz.prog 137 [lS ns, .leaf (.sl ns.length cv),dL x, .agg (OV na xs nb ys p)] (.tup [lS (wO ns x), .leaf (.sl (ns.length+1) (Mq ns x cv (OV na xs nb ys p)))]):=by
 have hBn:=iK ns;have hcn:=c8 ns;have hple:=Bn ns x;have hplt:= @KY ns x;have hpat:= @Ii ns x;have hN:lS (wO ns x)= .leaf (.sl (ns.length+1) (av (wO ns x))):=by unfold lS;rw[G2]
 have hNc:av (wO ns x)=(av ns).take (yN ns x*1)++[.val (vL x)]++(av ns).drop (yN ns x*1):=by simp[wO,av,List.map_take,List.map_drop]
 rw[hN,hNc,Mq];clear hN hNc;generalize yN ns x=q at *;refine kU func137 ?_;refine kR ?_;refine kR ?_;refine lL ⟨[(0, .d (lS ns)),(1, .d (.leaf (.sl ns.length cv))),(2, .d (dL x)),(7, .box 0 0),(10, .d (dN .i64 q))],[(0,some (OV na xs nb ys p))]⟩ (fun s' hw=>?_) (fun R hR _=>?_)
 case refine_2=>
  refine kW ?_;refine aq Nat (fun k=>k<=q) (fun k=>⟨[(0, .d (lS ns)),(1, .d (.leaf (.sl ns.length cv))),(2, .d (dL x)),(7, .box 0 0),(10, .d (dN .i64 k))],[(0,some (OV na xs nb ys p))]⟩) (fun k=>q-k) 0 (Nat.zero_le _) kw ?_;intro k hk;refine kI ?_
  refine kO3 ?_
  by_cases hkn:k<ns.length
  ·refine kT ?_
   obtain⟨y,hy⟩:∃y,ns[k]? =some y:=⟨ns[k],by simp[hkn]⟩
   refine kO3 ?_
   refine aH (i:=k) (cs':=[.val (vL y)]) hkn (ef hy) (Z_ 0) rfl rfl rfl rfl rfl rfl rfl rfl ?_
   refine kO2 ?_
   by_cases hkq:k<q
   ·refine ax rfl rfl rfl rfl rfl rfl rfl (Bt (a:=y) (b:=x) (hplt hkq hy)) ?_
    refine kW ?_;exact⟨k+1,hkq,by omega,weak ⟨rfl,rfl,rfl,rfl,ai O_ O_,trivial⟩ ⟨rfl,trivial⟩ rfl⟩
   ·obtain rfl:k=q:=O_
    refine ax rfl rfl rfl rfl rfl rfl rfl (Bt (a:=y) (b:=x) (hpat hy)) ?_;refine kW ?_;exact hR _ kw
  ·obtain rfl:k=q:=O_
   refine kY ?_;exact hR _ kw
 refine bu (T:=TT) ?_;refine dh hw rfl ?_;clear hw s' hplt hpat;obtain⟨d,hd⟩:∃d,ns.length-q=d:=⟨_,rfl⟩;have hb:∀m,m<=1001->m*72<=140737488355328:=fun m hm=>by omega
 have hb1:∀m,m<=1001->m*16<=140737488355328:=fun m hm=>by omega
 rcases Nat.eq_zero_or_pos q with hq0|hq0<;>rcases Nat.eq_zero_or_pos d with hd0|hd0
 ·subst hq0 hd0;have hdr:av ns=[]:=E_ (by rw[hcn];omega);have hdr5:cv=[]:=E_ O_
  refine kO ?_;refine lC ?_;refine jU ?_;refine LQ ?_;refine NY ?_;refine qd ?_;refine jU ?_;refine LQ ?_;refine Ow ?_;refine qd ?_;refine EK ?_;refine eH ?_;exact Vr
 ·subst hq0;have hdr:=trivial;have hdr5:=trivial
  refine kO ?_;refine lC ?_;refine jU ?_;refine LQ ?_;refine NY ?_;refine gh 6003 (m1:=0+1) (m2:=d) af hd0 (hb1 _ O_) (by rw[n_,hcn];omega) rfl rfl rfl rfl rfl rfl rfl rfl rfl (.own rfl rfl) rfl rfl (by rw[lr hBn];rfl) rfl ?_;refine jU ?_;refine LQ ?_;refine Ow ?_;refine gh 7003 (m1:=0+1) (m2:=d) af hd0 (hb _ O_) (by rw[n_,hc];omega) rfl rfl rfl rfl rfl rfl rfl rfl rfl (.own rfl rfl) rfl rfl (by rw[lr hB];rfl) rfl ?_;refine EK ?_;refine eH ?_;exact Vr
 ·subst hd0;have hdr:(av ns).drop q=[]:=List.drop_eq_nil_of_le (by rw[hcn];omega);have hdr5:cv.drop (q*5)=[]:=List.drop_eq_nil_of_le O_
  refine kO ?_;refine lC ?_;refine jU ?_;refine Uz ?_;refine qd ?_;refine jU ?_;refine U7 ?_;refine qd ?_;refine EK ?_;refine eH ?_;exact Vr
 ·have hdr:=trivial;have hdr5:=trivial
  refine kO ?_;refine lC ?_;refine jU ?_;refine Uz ?_;refine gh 6003 (m1:=0+q+1) (m2:=d) af hd0 (hb1 _ O_) (by rw[n_,hcn];omega) rfl rfl rfl rfl rfl rfl rfl rfl rfl (.own rfl rfl) rfl rfl (by rw[lr hBn];rfl) rfl ?_;refine jU ?_;refine U7 ?_;refine gh 7003 (m1:=0+q+1) (m2:=d) af hd0 (hb _ O_) (by rw[n_,hc];omega) rfl rfl rfl rfl rfl rfl rfl rfl rfl (.own rfl rfl) rfl rfl (by rw[lr hB];rfl) rfl ?_;refine EK ?_;refine eH ?_;exact Vr
section
variable {P:Program} {T:TypeId->Option Ty} {n:Nat} {ops:Array Oper} {id:Nat} {draw:Bool} {K:AS->Prop} {s:AS} {k:Nat} {o:Oper} {os:List Oper} {fps:List FP}
end
theorem xL:∀(env:EL) (n:L8),yN (env.map (·.1)) n=oG env n
 | [],_=>rfl
 |y::r,n=>by rw[List.map_cons,yN,oG,xL r n]
theorem Im (env:EL) (n:L8) (v:Rat × Int):wO (env.map (·.1)) n=(f6 env n v).map (·.1):=by
 unfold wO f6;rw[xL]
 simp[List.map_take,List.map_drop]
theorem Cq (env:EL):eU env=lS (env.map (·.1)):=by
 unfold eU lS av;rw[j_,List.map_map];rfl
theorem D6 (a b:EL):jW (a++b)=jW a++jW b:=by
 induction a with
 |nil=>rfl
 |cons x a ih=>simp only[List.cons_append,jW,ih,e_]
theorem xC (q:Rat) (p:Int):(j5 q p).length=5:=rfl
theorem wV:∀l:EL,(jW l).length=l.length*5
 | []=>rfl
 |x::r=>by rw[jW,L_,xC,wV r,List.length_cons];omega
theorem tD:∀(l:EL) (i:Nat),(jW l).take (i*5)=jW (l.take i)
 | [],i=>by simp[jW]
 |x::r,0=>by simp[jW]
 |x::r,i+1=>by
  rw[List.take_succ_cons,jW,jW,show(i+1)*5=(j5 x.2.1 x.2.2).length+i*5 by rw[xC];omega,List.take_length_add_append,tD r i]
theorem tE:∀(l:EL) (i:Nat),(jW l).drop (i*5)=jW (l.drop i)
 | [],i=>by simp[jW]
 |x::r,0=>by simp
 |x::r,i+1=>by
  rw[List.drop_succ_cons,jW,show(i+1)*5=(j5 x.2.1 x.2.2).length+i*5 by rw[xC];omega,List.drop_length_add_append,tE r i]
theorem xq:∀l:EL,bB (jW l)=true
 | []=>rfl
 |x::r=>IW (a:=j5 x.2.1 x.2.2) rfl (xq r)
theorem MY (env:EL) (n:L8) (v:Rat × Int):Mq (env.map (·.1)) n (jW env) (j5 v.1 v.2)=jW (f6 env n v):=by
 unfold Mq f6;rw[xL,tD,tE,D6,jW,e_]
theorem Mh (env:EL) (n:L8) (v:Rat × Int) (hl:env.length<=1000):aa Tryz.prog 137 [eU env,fF env,dL n,mD v.1 v.2] (.tup [eU (f6 env n v),fF (f6 env n v)]):=by
 have c:=Sa (env.map (·.1)) (jW env) n (decide (v.1.num<0)) (digs v.1.num.natAbs) (decide ((v.1.den:Int)<0)) (digs (v.1.den:Int).natAbs) v.2 (by rw[wV,j_]) (xq env) (by rw[j_];exact hl);rw[show(OV (decide (v.1.num<0)) (digs v.1.num.natAbs) (decide ((v.1.den:Int)<0)) (digs (v.1.den:Int).natAbs) v.2)=j5 v.1 v.2 from rfl,MY,Im env n v,<- Cq,<- Cq,j_,<- rY env n v]at c;exact c
def VB:Except Int EL->RV
 | .ok env=> .tup [eU env,fF env,dN .i64 0]
 | .error e=> .tup [.leaf (.sl 0 []), .leaf (.sl 0 []),dN .i64 e]
structure Ed (l:Tb):Prop where
 sm:ul l
 len:l.length<=500
 hv:∀n x,Hv l n x->b8 400 x.1/\jH x.2=true
theorem wQ.fx_of {l:Tb} (hs:ul l) (ho:wQ l):Nx l:=fun p hp=>GW (hs p hp).2.wd (hs p hp).2.lm (ho.ex p hp)
theorem Ed.of {l:Tb} (hs:ul l) (hli:V9 l) (h8:l.length<=8) (h0:(bW l).2=0):Ed l:=by
 have ho:=(ly (l:=l) (o:=(bW l).1) (by rw[<- h0])).1;exact⟨hs,by omega,fun n x h=>h.ok hli h8 h0 (ho.fx_of hs) (fun p hp=>(hs p hp).2)⟩
theorem IF {l:Tb} (hs:ul l) (ho:wQ l) {p:Pm} (hp:p∈l):pH (iE p.2)/\gO (iE p.2)<=1000000/\rx (iE p.2)=p.2:=by
 have h1:=sc (ho.fx_of hs p hp);refine⟨pq _ (by rw[h1.1];exact(hs p hp).2.lt),?_,h1.1⟩;have h2:=ue (iE p.2);rw[h1.1]at h2;have:=(hs p hp).2.sz;omega
theorem Az {l:Tb} (h:(bW l).2≠0):ug l= .error (bW l).2:=by unfold ug;rw[if_neg h]
theorem uw (l:Tb) (hs:ul l) (hl:l.length<=500) (hvs:(bW l).2=0->Ed l):aa Tryz.prog 98 [da l] (VB (ug l)):=by
 have co:=n8 l hs O_
 by_cases h0:(bW l).2=0
 case neg=>
  rw[Az h0];generalize(bW l).2=z at *;generalize(bW l).1=o at *;refine kV func98 ?_;refine kC (co) ?_;refine lC ?_;refine vD ?_;exact aj
 have hV:=hvs h0;obtain⟨o,ho⟩:∃o,(bW l).1=o:=⟨_,rfl⟩;obtain⟨hok,ht,hn⟩:=ly (l:=l) (o:=o) (by rw[<- ho,<- h0]);have hf:=hok.fx_of hs;have hvv:ug l=lc l o []:=by unfold ug;rw[if_pos h0,ho]
 rw[hvv];rw[h0,ho]at co;obtain⟨R,hR⟩:∃R,lc l o []=R:=⟨_,rfl⟩;rw[hR];clear hvv hvs h0 ho;refine kV func98 ?_;refine kQ (co) ?_;refine aq (Nat × EL) (fun x=>x.1<=o.length/\se l (o.take x.1) x.2/\x.2.length=x.1/\lc l (o.drop x.1) x.2=R) (fun x=>⟨[(0, .d (da l)),(5, .d (lS o)),(7, .d (eU x.2)),(8, .d (fF x.2)),(9, .d (dN .i64 x.1))],[]⟩) (fun x=>o.length-x.1) (0,[]) ⟨Nat.zero_le _,by simpa using se.nil l,rfl,hR⟩ (((n7 (q:=7) rfl).tr (n7 (q:=8) rfl)).tr kw) ?_;rintro⟨i,env⟩ ⟨hi,hI,hel,hg⟩;dsimp only at hi hI hel hg ⊢;refine kI ?_
 refine kO3 ?_
 by_cases hil:i<o.length
 ·refine kT ?_
  obtain⟨nm,hx⟩:∃x,o[i]? =some x:=⟨o[i],by simp[hil]⟩;obtain⟨p,hp,hpn,hfx,hnd,hdep⟩:=ht.at hok hf hx;obtain⟨k,hk⟩:=W_ hp;have hkl:=(G_.1 hk).1;have cf:=qU l nm O_;rw[show uh l nm=(k:Nat) by unfold uh;rw[<- hpn,hok.fd hk,if_pos hkl]]at cf;obtain⟨e1,e2,e3⟩:=IF hs hok hp;have ce:=b5 (l:=env) O_ (fun x hx=>hV.hv _ _ (hI.hv x hx)) (iE p.2) e1 e2;rw[show dE (iE p.2)=dR p.2 from congrArg dR e3]at ce;rw[show o.drop i=nm::o.drop (i+1) by obtain⟨h,e⟩:=G_.1 hx;rw[List.drop_eq_getElem_cons h,e],lc,hfx]at hg;have hIs:= @se.step l (o.take i) env hI p (by rw[hpn];exact hnd);have hIh:=fun x=> @se.has l (o.take i) env hI p hp x hdep
  obtain⟨o1,na1,xs1,nb1,ys1,nm1,n1,cs1,hA,hB⟩:=bD p;have hat:∀(j:Nat) (a:AV),(bV p.1 o1 na1 xs1 nb1 ys1 nm1 n1 cs1)[j]? =some a->(ot l)[k*8+j]? =some a:=fun j a h=>de l k p hk j a (by rw[hB];exact h)
  rw[show dR p.2= .agg (ab o1 na1 xs1 nb1 ys1 nm1 n1 cs1) from congrArg DV.agg hA]at ce;refine wq ?_;refine nt ?_
  refine kO4 ?_
  refine aH (i:=i) (cs':=[.val (vL nm)]) hil (ef hx) (Z_ 0) rfl rfl rfl rfl rfl rfl rfl rfl ?_;refine kO ?_;refine ID ?_;cases hev:ba (aB env) (iE p.2)with
  |error z=>
   have hz:=b6 hev;rw[hev]at ce hg;dsimp only at hg;subst hg;refine kQ (ce) ?_;exact G5
  |ok x=>
   rw[hev]at ce hg;dsimp only at hg;have cp:=Mh env nm x O_;have hI':=hIs (hIh x hev);rw[hpn,<- aT hx]at hI';refine kQ (ce) ?_;refine kW ?_;refine aH (i:=i) (cs':=[.val (vL nm)]) hil (ef hx) (Z_ 0) rfl rfl rfl rfl rfl rfl rfl rfl ?_
   refine kO2 ?_
   refine kQ (cp) ?_;exact⟨(i+1,f6 env nm x),⟨hil,hI',by rw[rY,hel],hg⟩,by dsimp only;omega,weak ⟨rfl,rfl,rfl,rfl,ai (by dsimp only;omega) O_,trivial⟩ trivial rfl⟩
 ·refine kE ?_
  rw[List.drop_of_length_le O_,lc]at hg;subst hg;exact aj
noncomputable def GQ (l:Tb) (x:Rx):RV:=if iH x=0 then(match ug l with
 | .ok env=>bM (ba (aB env) (iE x))
 | .error e=> .tup [yi,dN .i64 e])else .tup [yi,dN .i64 (iH x)]
theorem wk {l:Tb} (hs:ul l) (hV:(bW l).2=0->Ed l) {env:EL} (h:ug l= .ok env):eW env/\env.length<=1000000/\ ∀x∈env,b8 400 x.2.1/\jH x.2.2=true:=by
 obtain⟨h1,h2,h3,_,h5,h6⟩:=IZ (fun h=>h.fx_of hs) h;have hv:=hV h2;exact⟨h3,by have:=hv.len;omega,fun x hx=>hv.hv _ _ (h5 x hx)⟩
theorem CJ {x:Rx} (hx:AG x) (h0:iH x=0):pH (iE x)/\gO (iE x)<=1000000/\rx (iE x)=x:=by
 have h1:=sc (GW hx.wd hx.lm h0);refine⟨pq _ (by rw[h1.1];exact hx.lt),?_,h1.1⟩;have h2:=ue (iE x);rw[h1.1]at h2;have:=hx.sz;omega
theorem AQ {l:Tb} {e:Int} (h:ug l= .error e):e≠0:=by
 unfold ug at h
 split at h
 ·exact Ak h
 ·rename_i h0;cases h;exact h0
theorem Ai (l:Tb) (x:Rx) (hs:ul l) (hx:AG x) (hl:l.length<=500) (hvs:(bW l).2=0->Ed l):aa Tryz.prog 57 [da l,dR x] (GQ l x):=by
 have c1:=jw x hx.wd hx.lm (by have:=hx.sz;omega);have c2:=uw l hs hl hvs;have he:= @wk l hs hvs;have hee:= @AQ l;have hxo:=CJ hx;unfold GQ;generalize iH x=vx at *;generalize ug l=vv at *
 have c3:vx=0-> ∀env,vv= .ok env->aa Tryz.prog 99 [dR x,eU env,fF env] (bM (ba (aB env) (iE x))):=fun h0 env henv=>by
  obtain⟨_,h2,h3⟩:=he henv;obtain⟨h4,h5,h6⟩:=hxo h0;have:=b5 (l:=env) h2 h3 (iE x) h4 h5
  rwa[show dE (iE x)=dR x from congrArg dR h6]at this
 clear he hxo;generalize iE x=ex at *;obtain⟨o1,na1,xs1,nb1,ys1,nm1,n1,cs1,hA⟩:=aY x;rw[show dR x= .agg (ab o1 na1 xs1 nb1 ys1 nm1 n1 cs1) from congrArg DV.agg hA]at *
 by_cases h0:vx=0
 case neg=>
  rw[if_neg h0];refine kV func57 ?_;refine kC (c1) ?_;refine lC ?_;refine vD ?_;exact aj
 rw[if_pos h0];rw[h0]at c1;cases vv with
 |error e=>
  have hne:=hee rfl;refine kU func57 ?_;exact PF
 |ok env=>
  have c3:=c3 h0 env rfl;dsimp only;cases hev:ba (aB env) ex with
  |error z=>
   rw[hev]at c3;refine kU func57 ?_;exact CY
  |ok y=>
   rw[hev]at c3;refine kU func57 ?_;exact CY
section
variable {P:Program} {T:TypeId->Option Ty} {n:Nat} {ops:Array Oper} {id:Nat} {draw:Bool} {K:AS->Prop} {s:AS} {k:Nat} {o:Oper} {os:List Oper} {fps:List FP}
end
theorem Ec (F:List L8) (x:L8):(av F).take (F.length*1)++[.val (vL x)]=av (F++[x]):=by
 rw[o_,K_ (Nat.le_of_eq (c8 F)),nP];rfl
abbrev MQ (n:L8):List AV:=[.val (vL n)]
theorem Bw {n:L8}:dJ [(900,MQ n)] [(900,MQ n)]:=dJ.one (l_ 1)
theorem FH (q:Pm) (n:L8):az Tryz.prog 246 [.d (L4 q), .box 900 0] [(900,MQ n)] (.v (.one (dB (decide (q.1=n))))) [(900,MQ n)]:=by
 obtain⟨o1,na1,xs1,nb1,ys1,nm1,n1,cs1,hA,hB⟩:=bD q;rw[show L4 q= .agg (bV q.1 o1 na1 xs1 nb1 ys1 nm1 n1 cs1) from congrArg DV.agg hB]
 by_cases e:q.1=n
 ·rw[T_ e]
  refine aP af dx func246 rfl rfl rfl rfl rfl (Bw) ?_;refine yz ?_;refine ax rfl rfl rfl rfl rfl rfl rfl (aU (a:=q.1) (b:=n) e) ?_;exact d9
 ·rw[F_ e]
  refine aP af dx func246 rfl rfl rfl rfl rfl (Bw) ?_;refine yz ?_;refine ax rfl rfl rfl rfl rfl rfl rfl (bC (a:=q.1) (b:=n) e) ?_;exact d9
theorem xy {fid:FuncId} {p:Pm->Bool} {n:L8} (l:Tb) (hp:∀x∈l,az Tryz.prog fid [.d (L4 x), .box 900 0] [(900,MQ n)] (.v (.one (dB (p x)))) [(900,MQ n)]) (hl:l.length<=1000000):az Tryz.prog 245 [.d (da l), .clo (.func fid) [] [.box 900 0]] [(900,MQ n)] (.v (.one (dN .i64 (if l.findIdx p<l.length then((l.findIdx p:Nat):Int)else -1)))) [(900,MQ n)]:=by
 have hf:=List.findIdx_le_length (p:=p) (xs:=l)
 have hn:∀(i:Nat) (hi:i<l.length),i<l.findIdx p->p l[i]=false:=fun i hi h=>by
  exact vA
 have hy:∀(h:l.findIdx p<l.length),p (l[l.findIdx p])=true:=fun h=>List.findIdx_getElem
 generalize l.findIdx p=f at *;refine aP af dx func245 rfl rfl rfl rfl rfl (Bw) ?_;refine kW ?_
 refine aq Nat (fun i=>i<=f) (fun i=>⟨[(0, .d (da l)),(1, .clo (.func fid) [] [.box 900 0]),(4, .d (dN .i64 0)),(7, .d (dN .i64 l.length)),(8, .d (dN .i64 i))],[(900,some (MQ n))]⟩) (fun i=>l.length-i) 0 (Nat.zero_le _)
  kw ?_
 intro i hi;refine kI ?_
 by_cases hlt:i<l.length
 ·refine kT ?_
  have hx:l[i]? =some l[i]:=by simp[hlt]
  have c:=hp l[i] (List.getElem_mem hlt);have hni:=hn i hlt;have hyi:∀h:i=f,p l[i]=true:=fun h=>by subst h;exact hy hlt
  generalize l[i]=q at *;obtain⟨o1,na1,xs1,nb1,ys1,nm1,n1,cs1,hA,hB⟩:=bD q;have hat:∀(j:Nat) (a:AV),(bV q.1 o1 na1 xs1 nb1 ys1 nm1 n1 cs1)[j]? =some a->(ot l)[i*8+j]? =some a:=fun j a h=>de l i q hx j a (by rw[hB];exact h)
  rw[show L4 q= .agg (bV q.1 o1 na1 xs1 nb1 ys1 nm1 n1 cs1) from congrArg DV.agg hB]at c;refine kW ?_;refine aH (i:=i) (cs':=bV q.1 o1 na1 xs1 nb1 ys1 nm1 n1 cs1) hlt hat (Z_ 7) rfl rfl rfl rfl rfl rfl rfl rfl ?_;refine kO ?_;exact H1
 ·rw[if_neg O_]
  refine kE ?_;exact d9
theorem yO:∀(l:Tb) (n:L8),il l n=l.findIdx fun q=>decide (q.1=n)
 | [],_=>rfl
 |p::r,n=>by
  rw[il,List.findIdx_cons,<- yO r n]
  by_cases e:p.1=n<;>simp[e]
theorem rM (l:Tb) (n:L8) (hl:l.length<=1000000):aa Tryz.prog 180 [da l,dL n] (.one (dN .i64 (uh l n))):=by
 have c:=(xy (fid:=246) (p:=fun q=>decide (q.1=n)) (n:=n) l (fun x _=>FH x n) hl).swap 900 0 rfl;rw[<- yO l n]at c;unfold uh;generalize(if il l n<l.length then((il l n:Nat):Int)else -1)=f at *;refine kV func180 ?_;refine kD (c) ?_;exact aj
def SL (r:Kd):List AV:=[.val (.int .i64 r.p), .val (.int .i64 r.c), .val (.int .i64 r.n), .val (.int .i64 r.q), .val (.bool r.s), .val (.bool (Nat.beq r.v 1 || Nat.beq r.v 2)), .val (.bool (Nat.beq r.v 2))]
def TG:List AV:=[.val (.int .i64 0), .val (.int .i64 0), .val (.int .i64 0), .val (.int .i64 0), .val (.bool false), .val (.bool false), .val (.bool false)]
def WA (o:Option Kd):RV:=match o with
 |some r=> .tup [.agg (SL r),dB true]
 |none=> .tup [.agg TG,dB false]
def WM (o:Option Kd):List UInt8:=match o with
 |some r=>r.nm
 |none=>[]
theorem re {α:Type} {f:α->List AV} {q:Nat} (hf:∀x,(f x).length=q):∀(l:List α) (i:Nat) (x:α),l[i]? =some x-> ∀(j:Nat) (a:AV),(f x)[j]? =some a->(l.flatMap f)[i*q+j]? =some a
 | [],i,x,h,_,_,_=>by simp at h
 |y::l,0,x,h,j,a,ha=>by
  simp at h
  subst h
  simp only[List.flatMap_cons,Nat.zero_mul,J_]
  exact D3
 |y::l,i+1,x,h,j,a,ha=>by
  simp only[List.flatMap_cons]
  have e:(i+1)*q+j-q=i*q+j:=by rw[Nat.add_mul];omega
  rw[g_ (by rw[hf,Nat.add_mul];omega),hf,e];exact re hf l i x (by simpa using h) j a ha
theorem Cu {k:Int} (h:k<1):pR k=none:=by unfold pR;rw[if_neg O_]
theorem Cs {k:Int} (h:17<k):pR k=none:=by unfold pR;rw[if_neg O_]
theorem rg {i:Nat} (h1:1<=i) (h2:i<=17):∃r,pR (i:Int)=some r/\ov[i-1]? =some r:=by
 have hl:i-1<ov.length:=by rw[EA];omega
 refine⟨ov[i-1],?_,by simp[hl]⟩;unfold pR;rw[if_pos O_,Int.toNat_natCast]
 simp[hl]
theorem Qa {i:Nat} {r:Kd} (h1:1<=i) (h:ov[i-1]? =some r):∀(j:Nat) (a:AV),(Sm r)[j]? =some a->(Sm ⟨[],0,0,0,0,0,false⟩++ov.flatMap Sm)[i*8+j]? =some a:=fun j a ha=>by
 have hf:=re (f:=Sm) (q:=8) (fun _=>rfl) ov (i-1) r h j a ha;rw[g_ (by show 8<=_;omega)];have e:i*8+j-(Sm ⟨[],0,0,0,0,0,false⟩).length=(i-1)*8+j:=by show i*8+j-8=_;omega
 rw[e];exact hf
theorem gE:(Tryz.prog.info? 72).map (·.size)=some 8:=by kernel_rfl
theorem ny (k:Int):aa Tryz.prog 30 [dN .i64 k] (WA (pR k)):=by
 by_cases h1:k<1
 ·rw[Cu h1]
  refine kU func30 ?_;exact KJ
 ·by_cases h2:17<k
  ·rw[Cs h2]
   refine kU func30 ?_;refine FO ?_;refine kT ?_;exact aj
  ·obtain⟨i,rfl⟩:=Int.eq_ofNat_of_zero_le (show 0<=k by omega)
   obtain⟨r,hr,hi⟩:=rg (i:=i) O_ O_;rw[hr];refine kU func30 ?_;refine FO ?_;refine P8 ?_;exact aj
theorem FZ (k:Int):aa Tryz.prog 14 [dN .i64 k] (.one (dL (WM (pR k)))):=by
 by_cases h1:k<1
 ·rw[Cu h1]
  refine kU func14 ?_;exact KJ
 ·by_cases h2:17<k
  ·rw[Cs h2]
   refine kU func14 ?_;refine FO ?_;refine kT ?_;exact aj
  ·obtain⟨i,rfl⟩:=Int.eq_ofNat_of_zero_le (show 0<=k by omega)
   obtain⟨r,hr,hi⟩:=rg (i:=i) O_ O_;rw[hr];refine kU func14 ?_;refine FO ?_;refine P8 ?_;exact aj
theorem R7 {s:List UInt8} {i:Nat} {r:Kd} (h1:1<=i) (hr:ov[i-1]? =some r) (hi:i-1<=ov.findIdx (fun r=>decide (r.nm=s))):(r.nm=s->RU s=i)/\(r.nm≠s->i<=ov.findIdx (fun r=>decide (r.nm=s))):=by
 have hl:=(G_.1 hr).1;have hl':=hl;rw[EA]at hl';refine⟨fun e=>?_,fun e=>?_⟩
 ·have h2:ov.findIdx (fun r=>decide (r.nm=s))=i-1:=by
   refine Nat.le_antisymm (Nat.le_of_not_lt fun h=>?_) hi;have:=List.not_of_lt_findIdx h;have e2:=(G_.1 hr).2;rw[e2]at this
   simp[e]at this
  unfold RU;rw[h2,if_pos O_];omega
 ·refine Nat.le_of_not_lt fun h=>?_
  have h2:ov.findIdx (fun r=>decide (r.nm=s))=i-1:=O_
  have h3:=List.findIdx_getElem (p:=fun r:Kd=>decide (r.nm=s)) (xs:=ov) (w:=by rw[h2];exact hl)
  simp only[h2]at h3
  rw[(G_.1 hr).2]at h3;exact e (h_ h3)
theorem SD {s:List UInt8} (h:17<=ov.findIdx (fun r=>decide (r.nm=s))):RU s=0:=by
 unfold RU;rw[if_neg O_]
def Wh (k:Int):RV:= .tup [dN .i64 k,dB (decide (k≠0))]
theorem Gb (s:List UInt8):aa Tryz.prog 12 [dL s] (Wh (RU s)):=by
 have hat:= @R7 s;have hno:= @SD s;generalize ov.findIdx (fun r=>decide (r.nm=s))=f at *;generalize RU s=z at *;refine kV func12 ?_;refine aq Nat (fun i=>1<=i/\i<=18/\i-1<=f) (fun i=>⟨[(0, .d (dL s)),(4, .d (dN .i64 i))],[]⟩) (fun i=>18-i) 1 ⟨l_ _,by omega,Nat.zero_le _⟩ kw ?_;rintro i ⟨hi1,hi2,hif⟩;refine kI ?_;refine kO ?_
 by_cases hlt:i<=17
 ·refine kT ?_
  obtain⟨r,hr,hi⟩:=rg hi1 hlt;have hz:=hat hi1 hi hif;refine kG ?_;refine kO ?_;refine Jc (i:=i) (Qa hi1 hi) underlying73 gE O_ rfl rfl rfl rfl rfl rfl ?_
  refine kO3 ?_
  by_cases e:r.nm=s
  ·refine ax rfl rfl rfl rfl rfl rfl rfl (aU (a:=r.nm) (b:=s) e) ?_
   refine eH ?_;rw[hz.1 e];unfold Wh;rw[T_ (show(i:Int)≠0 by omega)];rfl
  ·refine ax rfl rfl rfl rfl rfl rfl rfl (bC (a:=r.nm) (b:=s) e) ?_
   refine kW ?_;have:=hz.2 e;exact⟨i+1,⟨by omega,by omega,by omega⟩,by omega,weak ⟨rfl,ai O_ O_,trivial⟩ trivial rfl⟩
 ·refine kE ?_
  refine eH ?_;rw[hno O_];rfl
abbrev E6 (m:Int):List AV:=[.val (.int .i64 m)]
theorem xt {m:Int}:dJ [(900,E6 m)] [(900,E6 m)]:=dJ.one (l_ 1)
theorem BF (z m:Int):az Tryz.prog 85 [.d (dN .i64 z), .box 900 0] [(900,E6 m)] (.v (.one (dB (!ua m z)))) [(900,E6 m)]:=by
 unfold ua
 by_cases h1:z<0
 ·rw[F_ (show ¬0<=z by omega)]
  refine I1 ?_;refine kT ?_;exact d9
 ·rw[T_ (show 0<=z by omega)]
  by_cases h2:z<m
  ·rw[T_ h2]
   refine I1 ?_;refine kE ?_
   refine kO3 ?_
   refine kE ?_;exact d9
  ·rw[F_ h2]
   refine I1 ?_;refine kE ?_
   refine kO3 ?_
   refine kT ?_;exact d9
theorem uH {fid:FuncId} {p:Int->Bool} {m:Int} (l:List Int) (hp:∀x∈l,az Tryz.prog fid [.d (dN .i64 x), .box 900 0] [(900,E6 m)] (.v (.one (dB (p x)))) [(900,E6 m)]) (hl:l.length<=1000000):az Tryz.prog 124 [.d (uk l), .clo (.func fid) [] [.box 900 0]] [(900,E6 m)] (.v (.one (dN .i64 (if l.findIdx p<l.length then((l.findIdx p:Nat):Int)else -1)))) [(900,E6 m)]:=by
 have hf:=List.findIdx_le_length (p:=p) (xs:=l)
 have hn:∀(i:Nat) (hi:i<l.length),i<l.findIdx p->p l[i]=false:=fun i hi h=>by
  exact vA
 have hy:∀(h:l.findIdx p<l.length),p (l[l.findIdx p])=true:=fun h=>List.findIdx_getElem
 generalize l.findIdx p=f at *;refine aP af dx func124 rfl rfl rfl rfl rfl (xt) ?_;refine kW ?_
 refine aq Nat (fun i=>i<=f) (fun i=>⟨[(0, .d (uk l)),(1, .clo (.func fid) [] [.box 900 0]),(4, .d (dN .i64 0)),(7, .d (dN .i64 l.length)),(8, .d (dN .i64 i))],[(900,some (E6 m))]⟩) (fun i=>l.length-i) 0 (Nat.zero_le _)
  kw ?_
 intro i hi;refine kI ?_
 by_cases hlt:i<l.length
 ·refine kT ?_
  have hx:l[i]? =some l[i]:=by simp[hlt]
  have c:=hp l[i] (List.getElem_mem hlt);have hni:=hn i hlt;have hyi:∀h:i=f,p l[i]=true:=fun h=>by subst h;exact hy hlt
  generalize l[i]=q at *;refine Qx ?_;exact H1
 ·rw[if_neg O_]
  refine kE ?_;exact d9
theorem pd {fid:FuncId} {p:Int->Bool} {m:Int} (l:List Int) (hp:∀x∈l,az Tryz.prog fid [.d (dN .i64 x), .box 900 0] [(900,E6 m)] (.v (.one (dB (p x)))) [(900,E6 m)]) (hl:l.length<=1000000):az Tryz.prog 84 [.d (uk l), .clo (.func fid) [] [.box 900 0]] [(900,E6 m)] (.v (.one (dB (l.any p)))) [(900,E6 m)]:=by
 have c:=uH l hp hl
 have hlt:(l.findIdx p<l.length)↔l.any p=true:=by
  rw[List.any_eq_true];exact List.findIdx_lt_length
 cases hb:l.any p with
 |true=>
  rw[if_pos (hlt.2 hb)]at c;refine aP af dx func84 rfl rfl rfl rfl rfl (xt) ?_;refine kW ?_;refine kD (c) ?_;refine kT ?_;exact d9
 |false=>
  rw[if_neg (fun h=>by rw[hlt.1 h]at hb;cases hb)]at c;refine aP af dx func84 rfl rfl rfl rfl rfl (xt) ?_;refine kW ?_;refine kD (c) ?_;exact d9
theorem p8 (l:List Int) (n m:Int) (hl:l.length<=1000000):aa Tryz.prog 41 [uk l,dN .i64 n,dN .i64 m] (.one (dB (decide ((l.length:Int)=n) && l.all (ua m)))):=by
 have c:=(pd (fid:=85) (p:=fun z=>!ua m z) (m:=m) l (fun x _=>BF x m) hl).swap 900 0 rfl;rw[show l.any (fun z=>!ua m z)=!l.all (ua m) by rw[List.not_all_eq_any_not]]at c
 by_cases h:(l.length:Int)=n
 ·rw[T_ h]
  generalize l.all (ua m)=b at *;cases b
  all_goals(
   refine kU func41 ?_;refine kR ?_;refine kI ?_
   refine kO3 ?_
   refine kB true ?_ ?_
   ·exact(by simp[h])
   refine kO3 ?_
   refine kD (c) ?_;exact kF)
 ·rw[F_ h]
  refine kU func41 ?_;refine yz ?_;exact Ko
theorem FJ (l:List Int) (n:Int) (hl:l.length<=1000000):∃i:Int,(0<=i↔n∈l)/\aa Tryz.prog 128 [uk l,dN .i64 n] (.one (dN .i64 i)):=by
 refine⟨if l.findIdx (fun x=>decide (x=n))<l.length then((l.findIdx (fun x=>decide (x=n)):Nat):Int)else -1,?_,?_⟩
 ·have:=List.findIdx_lt_length (p:=fun x=>decide (x=n)) (xs:=l)
  exact Ps
 ·have hf:=List.findIdx_le_length (p:=fun x=>decide (x=n)) (xs:=l)
  have hn:∀(i:Nat) (hi:i<l.length),i<l.findIdx (fun x=>decide (x=n))->l[i]≠n:=fun i hi h=>by
   exact vA
  have hy:∀(h:l.findIdx (fun x=>decide (x=n))<l.length),l[l.findIdx (fun x=>decide (x=n))]=n:=fun h=>by
   have:=List.findIdx_getElem (p:=fun x=>decide (x=n)) (xs:=l) (w:=h);exact h_ this
  generalize l.findIdx (fun x=>decide (x=n))=f at *;refine kV func128 ?_
  refine aq Nat (fun i=>i<=f) (fun i=>⟨[(0, .d (uk l)),(1, .d (dN .i64 n)),(4, .d (dN .i64 0)),(7, .d (dN .i64 l.length)),(8, .d (dN .i64 i))],[]⟩) (fun i=>l.length-i) 0 (Nat.zero_le _)
   kw ?_
  intro i hi;refine kI ?_
  by_cases hlt:i<l.length
  ·refine kT ?_
   have hx:l[i]? =some l[i]:=by simp[hlt]
   have hni:=hn i hlt;have hyi:∀h:i=f,l[i]=n:=fun h=>by subst h;exact hy hlt
   generalize l[i]=q at *;refine Qx ?_
   by_cases e:n=q
   ·have e2:i=f:=by
     by_cases h:i<f
     ·exact absurd e.symm (hni h)
     ·omega
    subst e2;rw[if_pos hlt];refine kB true ?_ ?_
    ·exact(by simp[e])
    exact aj
   ·refine kB false ?_ ?_
    ·exact(by simp[e])
    refine If ?_
    by_cases h:i=f
    ·exact absurd (hyi h).symm e
    ·omega
  ·rw[if_neg O_]
   refine kE ?_;exact aj
theorem wA (l:List Int) (n:Int) (hl:l.length<=1000000):aa Tryz.prog 88 [uk l,dN .i64 n] (.one (dB (decide (n∈l)))):=by
 obtain⟨i,h1,c⟩:=FJ l n hl
 by_cases h:n∈l
 ·rw[T_ h]
  have:=h1.2 h;refine kV func88 ?_;refine kC (c) ?_;refine kT ?_;exact aj
 ·rw[F_ h]
  have:=fun h2=>h (h1.1 h2)
  refine kV func88 ?_;refine kC (c) ?_;refine kE ?_;exact aj
theorem Fe (l:List Int) (i:Nat):nA (l.take i)=(nA l).take i:=by simp[nA,List.map_take]
theorem sO {l:List Int} {i:Nat} {z:Int} (hn:(l.take i).Nodup) (hz:l[i]? =some z):(z ∉ l.take i->(l.take (i+1)).Nodup)/\(z∈l.take i-> ¬l.Nodup):=by
 have e:=aT hz;refine⟨fun h=>?_,fun h hd=>?_⟩
 ·rw[e,List.nodup_append]
  exact⟨hn,S_,fun a ha b hb=>by rw[d_.1 hb];exact fun e=>h (e ▸ ha)⟩
 ·have h2:(l.take (i+1)).Nodup:=hd.sublist (List.take_sublist _ _)
  rw[e,List.nodup_append]at h2;exact h2.2.2 z h z S_ rfl
theorem kp (l:List Int) (hl:l.length<=1000000):aa Tryz.prog 46 [uk l] (.one (dB (decide l.Nodup))):=by
 refine kV func46 ?_;refine aq Nat (fun i=>i<=l.length/\(l.take i).Nodup) (fun i=>⟨[(0, .d (uk l)),(5, .d (uk l)),(6, .d (dN .i64 l.length)),(7, .d (dN .i64 i))],[]⟩) (fun i=>l.length-i) 0 ⟨Nat.zero_le _,by simp⟩ kw ?_;rintro i ⟨hi,hn⟩;refine kI ?_
 by_cases hlt:i<l.length
 ·refine kT ?_
  obtain⟨z,hz⟩:∃z,l[i]? =some z:=⟨l[i],by simp[hlt]⟩;have hd:=sO hn hz;have c:=wA (l.take i) z (by simp;omega);rw[show uk (l.take i)= .leaf (.sl i ((nA l).take (i*1))) from by unfold uk;rw[Fe,o_,U_,Nat.min_eq_left hi]]at c;refine kW ?_;refine CZ ?_;refine kG ?_
  refine kO2 ?_
  refine DX af (i:=i) hi rfl rfl rfl rfl rfl rfl rfl rfl ?_;refine kO ?_
  by_cases e:z∈l.take i
  ·rw[T_ e]at c
   refine kC (c) ?_;refine eH ?_;exact congrArg (fun b=>RV.one (dB b)) (F_ (hd.2 e)).symm
  ·rw[F_ e]at c
   refine kQ (c) ?_;exact⟨i+1,⟨hlt,hd.1 e⟩,by omega,weak ⟨rfl,rfl,rfl,ai O_ O_,trivial⟩ trivial rfl⟩
 ·refine kE ?_
  refine eH ?_;exact Pc
theorem BN (p q r s:Int):aa Tryz.prog 45 [uk [p,q,r,s]] (.one (dB (Rs [p,q,r,s]))):=by
 obtain⟨b,hb⟩:∃b,Rs [p,q,r,s]=b:=⟨_,rfl⟩;rw[hb];unfold Rs at hb;refine kU func45 ?_
 iterate 2 refine kG ?_
 refine kO ?_;refine aH (i:=0) (cs':=[.val (.int .i64 p)]) S_ (bH (l:=[p,q,r,s]) (i:=0) rfl) (Z_ 0) rfl rfl rfl rfl rfl rfl rfl rfl ?_
 refine kO2 ?_
 refine aH (i:=1) (cs':=[.val (.int .i64 q)]) S_ (bH (l:=[p,q,r,s]) (i:=1) rfl) (Z_ 0) rfl rfl rfl rfl rfl rfl rfl rfl ?_
 refine kO2 ?_
 refine aH (i:=2) (cs':=[.val (.int .i64 r)]) S_ (bH (l:=[p,q,r,s]) (i:=2) rfl) (Z_ 0) rfl rfl rfl rfl rfl rfl rfl rfl ?_
 refine kO2 ?_
 refine aH (i:=3) (cs':=[.val (.int .i64 s)]) S_ (bH (l:=[p,q,r,s]) (i:=3) rfl) (Z_ 0) rfl rfl rfl rfl rfl rfl rfl rfl ?_;refine kG ?_
 refine kO2 ?_
 by_cases h1:p=q
 ·refine kB false ?_ ?_
  ·exact(by simp[h1])
  refine eH ?_;exact congrArg (fun b=>RV.one (dB b)) (by rw[<- hb];simp[h1])
 refine kB true ?_ ?_
 ·exact(by simp[h1])
 refine kO3 ?_
 by_cases h2:r=s
 ·refine kB false ?_ ?_
  ·exact(by simp[h2])
  refine eH ?_;exact congrArg (fun b=>RV.one (dB b)) (by rw[<- hb];simp[h2])
 refine kB true ?_ ?_
 ·exact(by simp[h2])
 refine kO4 ?_
 by_cases h3:p=r
 ·refine kB true ?_ ?_
  ·exact(by simp[h3])
  refine kO3 ?_
  have h5:p≠s:=fun e=>h2 (h3.symm.trans e)
  by_cases h4:q=s
  ·refine kB true ?_ ?_
   ·exact(by simp[h4])
   refine eH ?_;exact congrArg (fun b=>RV.one (dB b)) (by rw[<- hb];simp[h3,h4])
  ·refine kB false ?_ ?_
   ·exact(by simp[h4])
   iterate 6 refine kO ?_
   refine kB false ?_ ?_
   ·exact(by simp[h5])
   refine eH ?_;exact congrArg (fun b=>RV.one (dB b)) (by rw[<- hb];simp[h1,h2,h4,h5])
 ·refine kB false ?_ ?_
  ·exact(by simp[h3])
  iterate 10 refine kO ?_
  by_cases h5:p=s
  ·refine kB true ?_ ?_
   ·exact(by simp[h5])
   refine kO3 ?_
   by_cases h6:q=r
   ·refine kB true ?_ ?_
    ·exact(by simp[h6])
    refine eH ?_;exact congrArg (fun b=>RV.one (dB b)) (by rw[<- hb];simp[h5,h6])
   ·refine kB false ?_ ?_
    ·exact(by simp[h6])
    refine eH ?_;exact congrArg (fun b=>RV.one (dB b)) (by rw[<- hb];simp[h1,h2,h3,h6])
  ·refine kB false ?_ ?_
   ·exact(by simp[h5])
   refine eH ?_;exact congrArg (fun b=>RV.one (dB b)) (by rw[<- hb];simp[h1,h2,h3,h5])
theorem yk {x:Rx} (c:aa Tryz.prog 44 [dR x] (.one (dN .i64 (iH x)))):aa Tryz.prog 43 [dR x] (.one (dB (!decide (iH x=0)))):=by
 obtain⟨o1,na1,xs1,nb1,ys1,nm1,n1,cs1,hA⟩:=aY x;rw[show dR x= .agg (ab o1 na1 xs1 nb1 ys1 nm1 n1 cs1) from congrArg DV.agg hA]at c ⊢
 by_cases h:iH x=0
 ·rw[T_ h]
  refine kV func43 ?_;refine kC (c) ?_;exact Ko
 ·rw[F_ h]
  refine kV func43 ?_;refine kC (c) ?_;refine kB true ?_ ?_
  ·exact(by simp[h])
  exact aj
theorem L3:((List.range 4).all fun i=>decide (((ov[i+4]?).map fun r=>r.p)=some 4))=true:=D_
theorem Aj {k:Int} {r:Kd} (h:pR k=some r) (h1:5<=k) (h2:k<=8):r.p=4:=by
 obtain⟨_,_,h3⟩:=m5 h;have:=I_.1 L3 (k.toNat-5) (List.mem_range.2 O_);rw[show k.toNat-5+4=k.toNat-1 by omega,h3]at this
 simpa using this
theorem EB {l:List Int} (h:l.length=4):∃p q r s,l=[p,q,r,s]:=by
 match l,h with
 | [p,q,r,s],_=>exact⟨p,q,r,s,rfl⟩
theorem MC (vs:List Rx):vs.any (fun x=>!decide (iH x=0))=!vs.all (fun x=>decide (iH x=0)):=by rw[List.not_all_eq_any_not]
def cC (k:Int) (ps cs:List Int) (vs:List Rx) (s:Int):List AV:=[.val (.int .i64 k), .sl ps.length (nA ps), .sl cs.length (nA cs), .sl vs.length (fG vs), .val (.int .i64 s)]
theorem mz (c:Cn) (P Q:Int) (h1:c.ps.length<=1000000) (h2:c.cs.length<=1000000) (h3:c.vs.length<=1000000) (hv:∀x∈c.vs,aa Tryz.prog 44 [dR x] (.one (dN .i64 (iH x)))):aa Tryz.prog 17 [dC c,dN .i64 P,dN .i64 Q] (.one (dB (GA c P Q))):=by
 have cS:=ny c.k;have cE:=eT (fid:=43) (p:=fun x=>!decide (iH x=0)) c.vs (fun x hx=>yk (hv x hx)) h3 rfl;rw[MC]at cE;cases hk:pR c.k with
 |none=>
  rw[hk]at cS;rw[rz hk];obtain⟨k,ps,cs,vs,s⟩:=c;have cS:aa Tryz.prog 30 [dN .i64 k] (.tup [.agg TG,dB false]):=cS;show aa Tryz.prog _ [.agg (cC k ps cs vs s),_,_] _;refine kV func17 ?_;refine kC (cS) ?_;exact aj
 |some r=>
  rw[hk]at cS;rw[nw hk];have h58:5<=c.k->c.k<=8->r.p=4:=Aj hk;obtain⟨k,ps,cs,vs,s⟩:=c;obtain⟨nm,rp,rc,rn,rv,rq,rs⟩:=r;dsimp only at *;have cS:aa Tryz.prog 30 [dN .i64 k] (.tup [.agg (SL ⟨nm,rp,rc,rn,rv,rq,rs⟩),dB true]):=cS;have cA:=p8 ps rp P h1;have cB:=p8 cs rc Q h2;have cF:=kp ps h1;have cG:=kp cs h2;obtain⟨E,hE⟩:∃E,vs.all (fun x=>decide (iH x=0))=E:=⟨_,rfl⟩;rw[hE]at cE ⊢;obtain⟨A,hA⟩:∃A,(decide ((ps.length:Int)=rp) && ps.all (ua P))=A:=⟨_,rfl⟩;rw[hA]at cA ⊢;obtain⟨B,hB⟩:∃B,(decide ((cs.length:Int)=rc) && cs.all (ua Q))=B:=⟨_,rfl⟩;rw[hB]at cB ⊢;show aa Tryz.prog _ [.agg (cC k ps cs vs s),_,_] _;cases A
  ·refine kV func17 ?_;refine kQ (cS) ?_;refine kC (cA) ?_;exact aj
  cases B
  ·refine RI ?_
   refine kC (cB) ?_;exact aj
  by_cases hn:(vs.length:Int)=rn
  rotate_left
  ·rw[F_ hn]
   refine RI ?_;refine kC (cB) ?_
   iterate 8 refine kO ?_
   refine kB true ?_ ?_
   ·exact(by simp[hn])
   exact aj
  rw[T_ hn]
  have hp4:5<=k/\k<=8-> ∃p q r t,ps=[p,q,r,t]:=fun h=>by
   have h4:=h58 h.1 h.2
   simp only[B_,decide_eq_true_eq]at hA
   exact EB O_
  clear h58 hA hB hE hv;cases E
  ·refine Lm ?_
   exact aj
  have side:(rs=false/\s=0)∨(rs=true/\s=1)∨(rs=true/\s= -1)∨(rs=false/\s≠0)∨(rs=true/\s≠1/\s≠ -1):=by cases rs<;>simp <;>omega
  rcases side with side|side|side| ⟨rfl,hs⟩| ⟨rfl,hs,hs'⟩
  rotate_left 3
  ·rw[show AK false s=false from F_ hs]
   refine Lm ?_;refine kG ?_
   iterate 19 refine kO ?_
   refine kB true ?_ ?_
   ·exact(by simp[hs])
   exact aj
  ·rw[show AK true s=false by simp[AK,hs,hs']]
   refine Lm ?_;refine kG ?_
   refine kO5 ?_
   refine kB true ?_ ?_
   ·exact(by simp[hs])
   refine kO4 ?_
   refine kB true ?_ ?_
   ·exact(by simp[hs'])
   exact aj
  all_goals
   obtain⟨rfl,rfl⟩:=side
   by_cases h58:5<=k/\k<=8
   ·rw[if_pos h58]
    obtain⟨p,q,r,t,rfl⟩:=hp4 h58;have cP:=BN p q r t;generalize Rs [p,q,r,t]=D at *;rcases(show k=5∨k=6∨k=7∨k=8 by omega)with rfl|rfl|rfl|rfl
    all_goals
     refine kV func17 ?_;refine kQ (cS) ?_;refine kQ (cA) ?_;refine kC (cB) ?_
     iterate 8 refine kO ?_
     refine kB false ?_ ?_
     ·exact(by simp[hn])
     refine kW ?_;refine kQ (cE) ?_;refine kC (cP) ?_;exact kF
   ·rw[if_neg h58]
    clear hp4;obtain⟨F,hF⟩:∃F,decide ps.Nodup=F:=⟨_,rfl⟩;obtain⟨G,hG⟩:∃G,decide cs.Nodup=G:=⟨_,rfl⟩;rw[hF]at cF ⊢;rw[hG]at cG ⊢;clear hF hG;cases F
    all_goals
     refine kV func17 ?_;refine kQ (cS) ?_;refine kQ (cA) ?_;refine kC (cB) ?_
     iterate 8 refine kO ?_
     refine kB false ?_ ?_
     ·exact(by simp[hn])
     refine kW ?_;refine kC (cE) ?_
     iterate 3 refine kG ?_
     refine kB false ?_ ?_
     ·exact(by simp;omega)
     refine kG ?_;refine kB false ?_ ?_
     ·exact(by simp;omega)
     refine kG ?_;refine kB false ?_ ?_
     ·exact(by simp;omega)
     refine kG ?_;refine kB false ?_ ?_
     ·exact(by simp;omega)
     refine kW ?_;refine kQ (cF) ?_
     try refine kC (cG) ?_
     try exact kF
end Go.Proofs.YtnchbpoopnjghaaGreatDoor
