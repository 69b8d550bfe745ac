/- Parts of a proof: contracts of the functions that the laws reach. -/
import Derived.Test.YtmkggcjajcdlcaaGreatDoorEZ11
set_option maxHeartbeats 100000000
set_option linter.all false
open Go.Proofs.Tryz
namespace Go.Proofs.YtmkggcjajcdlcaaGreatDoor
open Go.RowKit
section
variable {P:Program} {T:TypeId->Option Ty} {n:Nat} {ops:Array Oper} {id:Nat} {draw:Bool} {K:AS->Prop} {s:AS} {k:Nat} {o:Oper} {os:List Oper} {fps:List FP}
theorem Sn {x y:Operand} {ts:Array TypeId} {a b m:Int} (hm:min a b=m) (h1:gd ops s o=some true) (h2:o.op= .call ⟨.builtin .min,#[x,y],ts⟩) (h7:s.ev x= .d (dN .i64 a)) (h8:s.ev y= .d (dN .i64 b))
 (h3:aH n o.dst=true) (h4:eS draw ops (aw ops o ⟨.d (dN .i64 m),none⟩ []) k fps=true) (h:ak P T n ops id draw K (k+1) os (s.eff o.dst ⟨.d (dN .i64 m),none⟩) (aw ops o ⟨.d (dN .i64 m),none⟩ []::fps)):ak P T n ops id draw K k (o::os) s fps:=by
 subst hm;refine .run h1 (.gen fun s2 ht _=>?_) h3 h4 h;have hx:=(an ht (x:=x) (by simp[h2,Op.operands,Call.operands])).trans h7;have hy:=(an ht (x:=y) (by simp[h2,Op.operands,Call.operands])).trans h8;refine ai fun n S0 w0 g a' w hM=>⟨.int .i64 (min a b),w,?_,Below.refl _ _,AV.M.val rfl⟩
 have hm:(Builtin.min2 (.int .i64 a) (.int .i64 b)).run P w= .ok (.int .i64 (min a b)) w:=by
  have e:min a b=if b<a then b else a:=by split <;>omega
  rw[e];rfl
 simp[execOp,h2,resolve,invoke,builtin,Builtin.min_,bc hM hx,bc hM hy,Sem.run_bind,hm]
end
def mj (l:List Nat):List AV:=l.map fun n:Nat=>AV.val (.int .i64 n)
def GK (l:List Nat):DV:= .leaf (.sl l.length (mj l))
theorem Ip (l:List Nat):(mj l).length=l.length:=List.length_map ..
theorem AF {l:List Nat} {i b:Nat} (h:l[i]? =some b):∀(j:Nat) (a:AV),[AV.val (.int .i64 b)][j]? =some a->(mj l)[i*1+j]? =some a:=by
 intro j a hj
 match j,hj with
 |0,hj=>rw[Nat.mul_one,Nat.add_zero,mj,List.getElem?_map,h];exact hj
def GI (l:Tb) (bs:List Nat) (n:L8):Nat:=if bX l n<l.length then bs.getD (bX l n) 0 else 0
def Bo (l:Tb):Nat->List Nat
 |0=>List.replicate l.length 0
 |k+1=>l.map fun p=>mP (uv l k) p.2
theorem BS (b:L8->Nat) (x:Rx):mP b x<=1048576:=by
 obtain⟨op,na,xs,nb,ys,nm,args⟩:=x
 simp only[mP]
 exact Nat.min_le_right _ _
theorem rG (l:Tb) (k:Nat):(Bo l k).length=l.length:=by cases k<;>simp[Bo]
theorem P7 (l:Tb) (k:Nat):∀x∈Bo l k,x<=1048576:=by
 cases k with
 |zero=>intro x hx;have:=(List.mem_replicate.1 hx).2;omega
 |succ k=>intro x hx;obtain⟨p,_,rfl⟩:=List.mem_map.1 hx;exact BS _ _
theorem PO (l:Tb) (k:Nat):GI l (Bo l k)=uv l k:=by
 funext n
 unfold GI;cases k with
 |zero=>
  split
  ·rw[Bo,List.getD_eq_getElem?_getD,List.getElem?_replicate];split <;>rfl
  ·rfl
 |succ k=>
  rw[uv]
  split
  ·rename_i h
   obtain⟨p,hp,_⟩:=nh h;rw[Bo,List.getD_eq_getElem?_getD,List.getElem?_map];unfold BM;rw[hp];rfl
  ·rfl
theorem Gc {b:L8->Nat} {args:List Rx} {i:Nat} {x:Rx} (h:args[i]? =some x):kd b (args.take (i+1))=kd b (args.take i)+mP b x:=by
 rw[bi h];generalize args.take i=l
 induction l with
 |nil=>simp[kd]
 |cons y r ih=>simp only[List.cons_append,kd,ih];omega
theorem Fb (b:L8->Nat):∀l:List Rx,kd b l<=1048576*l.length
 | []=>Nat.le_refl _
 |x::r=>by have:=BS b x;have:=Fb b r;simp only[kd,List.length_cons];omega
theorem Fw (l:Tb) (bs:List Nat) (hbl:bs.length=l.length) (hb:∀x∈bs,x<=1048576) (hl:l.length<=1000):∀x,Bp x->gL x<=1000000->aa Tryz.prog 74 [dR x,bF l,GK bs] (.one (dN .i64 (mP (GI l bs) x))):=by
 refine dq fun op na xs nb ys nm args ih hm hs=>?_
 obtain⟨hx1,hy1,hn1,hm1⟩:xs.length<=510/\ys.length<=510/\nm.length<=65536/\ ∀x∈args,Bp x:=by cases hm with|mk a b c d=>exact⟨a,b,c,d⟩
 rw[gL]at hs;have hge:=jC args;have cf:=gi l nm (by omega)
 have hih:∀(i:Nat) (x:Rx),args[i]? =some x->aa Tryz.prog 74 [dR x,bF l,GK bs] (.one (dN .i64 (mP (GI l bs) x))):=fun i x hi=>ih x (List.mem_of_getElem? hi) (hm1 x (List.mem_of_getElem? hi)) (by
  have:∀(l:List Rx) (i:Nat),l[i]? =some x->gL x<=eB l:=by
   intro l
   induction l with
   |nil=>intro i h;simp at h
   |cons y r ih=>intro i h;cases i with
    |zero=>simp at h;subst h;simp[eB]
    |succ i=>have:=ih i (by simpa using h);simp only[eB];omega
  have:=this args i hi
  omega)
 rw[mP];have hsl:=Fb (GI l bs);have htk:= @Gc (GI l bs) args
 have hbf:GI l bs nm<=1048576:=by
  unfold GI
  split
  ·rw[List.getD_eq_getElem?_getD]
   cases h:bs[bX l nm]? with
   |none=>exact Nat.zero_le _
   |some x=>exact hb x (List.mem_of_getElem? h)
  ·exact Nat.zero_le _
 have hfI:(gt l nm= -1/\GI l bs nm=0)∨ ∃(k:Nat) (b:Nat),gt l nm=k/\bs[k]? =some b/\GI l bs nm=b:=by
  unfold gt GI
  split
  ·rename_i h
   have h2:bX l nm<bs.length:=by omega
   exact .inr ⟨_,bs[bX l nm],rfl,by simp[h2],by rw[List.getD_eq_getElem?_getD,List.getElem?_eq_getElem h2];rfl⟩
  ·exact .inl ⟨rfl,rfl⟩
 generalize GI l bs=wf at *;generalize gt l nm=f at *;obtain⟨B0,hB0⟩:∃B0,1+32*(xs.length+ys.length)+(if nm=[]then 0 else 32)+wf nm=B0:=⟨_,rfl⟩;rw[hB0];have hB0le:B0<=1100000:=by rw[<- hB0];split <;>omega
 show aa Tryz.prog _ [.agg (ab op na xs nb ys nm args.length (db args)),_,_] _;refine kU func74 ?_
 iterate 2 refine kG ?_
 iterate 10 refine kO ?_
 refine kJ ((xs.length+ys.length:Nat)) ?_;refine kJ ((32*(xs.length+ys.length):Nat)) ?_;refine kJ ((1+32*(xs.length+ys.length):Nat)) ?_;refine kN ?_;refine j3 ⟨[(1, .d (bF l)),(2, .d (GK bs)),(3, .box 0 0),(7, .d (dN .i64 (1+32*(xs.length+ys.length)+(if nm=[]then 0 else 32):Nat)))],[(0,some (ab op na xs nb ys nm args.length (db args)))]⟩ (fun s' hw=>?_) (fun R hR _=>?_)
 case refine_2=>
  refine kI ?_
  refine kO2 ?_
  by_cases hn:nm=[]
  ·rw[if_pos hn]at hR
   refine aC rfl rfl rfl rfl rfl rfl rfl (fD (a:=nm) (b:=[]) hn) ?_;refine kW ?_;exact hR _ kw
  ·rw[if_neg hn]at hR
   refine aC rfl rfl rfl rfl rfl rfl rfl (gA (a:=nm) (b:=[]) hn) ?_;refine qZ ?_;refine kI ?_;refine kO ?_;refine kJ ((1+32*(xs.length+ys.length)+32:Nat)) ?_;refine kW ?_;exact hR _ kw
 refine bM (T:=TT) ?_;refine bW hw rfl ?_;generalize(1+32*(xs.length+ys.length)+if nm=[]then 0 else 32)=B1 at *;clear hw s'
 refine kO3 ?_
 refine kC (cf) ?_;refine kN ?_;refine j3 ⟨[(1, .d (bF l)),(2, .d (GK bs)),(3, .box 0 0),(7, .d (dN .i64 (B0:Nat)))],[(0,some (ab op na xs nb ys nm args.length (db args)))]⟩ (fun s' hw=>?_) (fun R hR _=>?_)
 case refine_2=>
  refine kI ?_;refine kO ?_;rcases hfI with⟨rfl,h0⟩| ⟨k,b,rfl,hk,h0⟩
  ·refine kB false ?_ ?_
   ·exact decide_eq_false (by decide)
   refine kW ?_;exact hR _ (weak ⟨rfl,rfl,rfl,by rw[<- hB0,h0];rfl,trivial⟩ ⟨rfl,trivial⟩ rfl)
  ·refine kT ?_
   refine qZ ?_;refine kI ?_
   refine kO3 ?_
   refine bB (i:=k) (cs':=[.val (.int .i64 b)]) (List.getElem?_eq_some_iff.1 hk).1 (AF hk) (Nat.zero_lt_succ 0) rfl rfl rfl rfl rfl rfl rfl rfl ?_;refine kO ?_;refine kJ ((B0:Nat)) ?_;refine kW ?_;exact hR _ kw
 refine bM (T:=TT) ?_;refine bW hw rfl ?_;clear hw s';refine kW ?_;refine aq Nat (fun i=>i<=args.length) (fun i=>⟨[(1, .d (bF l)),(2, .d (GK bs)),(3, .box 0 0),(7, .d (dN .i64 (B0+kd wf (args.take i):Nat))),(9, .d (dN .i64 i))],[(0,some (ab op na xs nb ys nm args.length (db args)))]⟩) (fun i=>args.length-i) 0 (Nat.zero_le _) kw ?_;intro i hi;have hsl1:=hsl (args.take i);have htl:(args.take i).length<=1000000:=by rw[List.length_take];omega
 refine kI ?_
 refine kO4 ?_
 by_cases hlt:i<args.length
 ·refine kT ?_
  obtain⟨x,hx⟩:∃x,args[i]? =some x:=⟨args[i],by simp[hlt]⟩;have hst:=htk hx;have c:=hih i x hx;obtain⟨o1,na1,xs1,nb1,ys1,nm1,n1,cs1,hA⟩:=bz x;have hat:∀(j:Nat) (a:AV),(ab o1 na1 xs1 nb1 ys1 nm1 n1 cs1)[j]? =some a->(db args)[i*7+j]? =some a:=fun j a h=>fq args i x hx j a (by rw[hA];exact h)
  rw[show dR x= .agg (ab o1 na1 xs1 nb1 ys1 nm1 n1 cs1) from congrArg DV.agg hA]at c;have hwx:=BS wf x;generalize mP wf x=v at *;generalize kd wf (args.take i)=V at *;refine qZ ?_;refine Au ?_
  refine kO4 ?_
  refine O3 ?_
  refine kO3 ?_
  refine kC (c) ?_;refine kJ ((B0+(V+v):Nat)) ?_;refine kW ?_;refine⟨i+1,hlt,by omega,weak ⟨rfl,rfl,rfl,?_,ae (by omega) (by omega),trivial⟩ ⟨rfl,trivial⟩ rfl⟩;rw[hst];rfl
 ·refine kE ?_
  rw[List.take_of_length_le (by omega)];rw[List.take_of_length_le (by omega)]at hsl1;refine jR ?_;refine kI ?_;refine kO ?_;refine Sn (m:=((min (B0+kd wf args) 1048576:Nat):Int)) (by omega) rfl rfl rfl rfl rfl rfl ?_;exact ax
def KW (l:Tb):Bool:=decide (8<l.length) || (decide ((bf l).2≠0) || l.all fun p=>decide (mP (uv l (l.length-1)) p.2<=2000))
theorem PP {l:Tb} (h:KW l=true):Tu l:=fun h8 h0 p hp=>by
 unfold KW at h;rw[decide_eq_false (by omega),decide_eq_false (fun h=>h h0),Bool.false_or,Bool.false_or]at h
 simpa using List.all_eq_true.1 h p hp
theorem ua:∀n,cG [AV.val (.int .i64 0)] n=mj (List.replicate n 0)
 |0=>rfl
 |n+1=>by rw[cG,ua n,List.replicate_succ];rfl
def Ke (A:List Nat) (i n:Nat):List Nat:=A.take i++List.replicate (n-i) 0
theorem LY {A:List Nat} {i n:Nat} (h:A.length=n) (hi:i<=n):(Ke A i n).length=n:=by simp[Ke];omega
theorem GQ (A:List Nat) (n:Nat):Ke A 0 n=List.replicate n 0:=by simp[Ke]
theorem Mc {A:List Nat} {n:Nat} (h:A.length=n):Ke A n n=A:=by subst h;simp[Ke]
theorem LQ {A:List Nat} {i n x:Nat} (h:A.length=n) (hx:A[i]? =some x):aF (mj (Ke A i n)) (i*1) [.val (.int .i64 x)]=mj (Ke A (i+1) n):=by
 have hi:=(List.getElem?_eq_some_iff.1 hx).1;unfold aF Ke;rw[bi hx,show n-i=(n-(i+1))+1 by omega,List.replicate_succ]
 have e1:(mj (A.take i++0::List.replicate (n-(i+1)) 0)).take (i*1)=mj (A.take i):=by
  rw[mj,<- List.map_take,Nat.mul_one,List.take_append_of_le_length (by simp;omega),List.take_take,Nat.min_self];rfl
 have e2:(mj (A.take i++0::List.replicate (n-(i+1)) 0)).drop (i*1+[AV.val (.int .i64 (x:Int))].length)=mj (List.replicate (n-(i+1)) 0):=by
  rw[mj,<- List.map_drop,Nat.mul_one,List.length_singleton,List.drop_append,List.drop_eq_nil_of_le (by simp;omega),List.nil_append,List.length_take,Nat.min_eq_left (by omega),show i+1-i=1 by omega];rfl
 rw[e1,e2]
 simp[mj]
theorem IF (l:Tb) (hs:jP l) (hl:l.length<=1000):aa Tryz.prog 34 [bF l] (.one (dB (KW l))):=by
 by_cases h8:8<l.length
 ·rw[show KW l=true by unfold KW;rw[decide_eq_true h8];rfl]
  refine kU func34 ?_;refine D1 ?_;exact ax
 have hco:=gP l hs hl
 have e0:GK (Bo l 0)= .leaf (.sl l.length (cG [AV.val (.int .i64 0)] l.length)):=by
  rw[ua];unfold GK;rw[rG];rfl
 have hlo:(bf l).2=0->(bf l).1.length=l.length:=fun h=>(iH (l:=l) (o:=(bf l).1) (by rw[<- h])).2.2
 obtain⟨BT,hBT⟩:∃BT,KW l=BT:=⟨_,rfl⟩;rw[hBT]
 have hfal:(bf l).2=0->(∃p∈l,2000<mP (uv l (l.length-1)) p.2)->BT=false:=fun h ⟨p,hp,hw⟩=>by
  rw[<- hBT,KW,decide_eq_false h8,decide_eq_false (fun h2=>h2 h),Bool.false_or,Bool.false_or,List.all_eq_false];exact⟨p,hp,by simp;omega⟩
 have htru:((bf l).2=0-> ∀p∈l,mP (uv l (l.length-1)) p.2<=2000)->BT=true:=fun h=>by
  rw[<- hBT,KW,decide_eq_false h8,Bool.false_or]
  by_cases h0:(bf l).2=0
  ·rw[decide_eq_false (fun h2=>h2 h0),Bool.false_or,List.all_eq_true]
   exact fun p hp=>decide_eq_true (h h0 p hp)
  ·rw[decide_eq_true h0];rfl
 clear hBT;generalize(bf l).2=oe at *;generalize(bf l).1=oo at *;refine kV func34 ?_;refine zy ?_;refine kW ?_;refine CD 5001 ac (m:=l.length) (c:=l.length) (Nat.le_refl _) (Nat.le_trans (Nat.mul_le_mul_left _ hl) (by decide)) (by omega) rfl rfl rfl rfl rfl rfl rfl rfl rfl rfl rfl rfl rfl rfl rfl ?_;refine kW ?_;refine aq Nat (fun k=>k<=l.length) (fun k=>⟨[(0, .d (bF l)),(3, .d (GK (Bo l k))),(4, .d (dN .i64 k))],[]⟩) (fun k=>l.length-k) 0 (Nat.zero_le _) ((a7 (q:=3) rfl rfl).tr (weak ⟨rfl,congrArg TV.d e0.symm,rfl,trivial⟩ trivial rfl)) ?_;intro k hk;refine kI ?_
 refine kO3 ?_
 by_cases hlt:k<l.length
 ·refine kT ?_
  have hbl:=rG l k;have hble:=P7 l k;have hbf:=PO l k;have hA:(Bo l (k+1)).length=l.length:=rG l (k+1);have hAi:∀(i:Nat) (p:Pm),l[i]? =some p->(Bo l (k+1))[i]? =some (mP (uv l k) p.2):=fun i p hi=>by rw[Bo,List.getElem?_map,hi];rfl
  obtain⟨A,hAe⟩:∃A,Bo l (k+1)=A:=⟨_,rfl⟩;rw[hAe]at hA
  simp only[hAe]at hAi
  have eA:GK A= .leaf (.sl l.length (mj (Ke A l.length l.length))):=by unfold GK;rw[Mc hA,hA]
  generalize Bo l k=bk at *;refine kW ?_;refine CD 5002 ac (m:=l.length) (c:=l.length) (Nat.le_refl _) (Nat.le_trans (Nat.mul_le_mul_left _ hl) (by decide)) (by omega) rfl rfl rfl rfl rfl rfl rfl rfl rfl rfl rfl rfl rfl rfl rfl ?_;refine kW ?_;refine aq Nat (fun i=>i<=l.length) (fun i=>⟨[(5, .own 5002 l.length 1 3),(0, .d (bF l)),(3, .d (GK bk)),(4, .d (dN .i64 k)),(6, .d (dN .i64 i))],[(5002,some (mj (Ke A i l.length)))]⟩) (fun i=>l.length-i) 0 (Nat.zero_le _) (weak ⟨rfl,rfl,rfl,rfl,rfl,trivial⟩ ⟨by show some _=some _;rw[GQ,<- ua],trivial⟩ rfl) ?_;intro i hi;refine kI ?_
  refine kO3 ?_
  by_cases hil:i<l.length
  ·refine kT ?_
   obtain⟨p,hx⟩:∃p,l[i]? =some p:=⟨l[i],by simp[hil]⟩;have hsx:=(hs p (List.mem_of_getElem? hx)).2;have hAx:=hAi i p hx;have hset:=LQ hA hAx;have hrl:=LY hA hi;have c:=Fw l bk hbl hble hl p.2 hsx.lm (by have:=hsx.sz;omega);rw[hbf]at c;obtain⟨o1,na1,xs1,nb1,ys1,nm1,n1,cs1,hAA,hB⟩:=aM p;have hat:∀(j:Nat) (a:AV),(a6 p.1 o1 na1 xs1 nb1 ys1 nm1 n1 cs1)[j]? =some a->(bR l)[i*8+j]? =some a:=fun j a h=>b6 l i p hx j a (by rw[hB];exact h)
   rw[show dR p.2= .agg (ab o1 na1 xs1 nb1 ys1 nm1 n1 cs1) from congrArg DV.agg hAA]at c;generalize mP (uv l k) p.2=wv at *;refine qZ ?_;refine Au ?_
   refine kO4 ?_
   refine lp ?_
   refine kO4 ?_
   refine kC (c) ?_;refine fY (i:=i) hil rfl rfl rfl rfl rfl rfl rfl rfl rfl ?_;refine Bc (by rw[Ip,hrl];omega) hset rfl rfl rfl rfl rfl rfl rfl rfl rfl rfl ?_;exact Nt
  ·obtain rfl:i=l.length:=by omega
   refine kY ?_;exact⟨k+1,hlt,by omega,(a7 (q:=3) rfl rfl).tr (weak ⟨rfl,congrArg TV.d (by rw[hAe];exact eA.symm),ae (by omega) (by omega),trivial⟩ trivial rfl)⟩
 ·obtain rfl:k=l.length:=by omega
  refine kE ?_;have hbl:=rG l l.length
  have hAi:∀(i:Nat) (p:Pm),l[i]? =some p->(Bo l l.length)[i]? =some (mP (uv l (l.length-1)) p.2):=fun i p hi=>by
   obtain⟨n,hn⟩:∃n,l.length=n+1:=⟨l.length-1,by have:=(List.getElem?_eq_some_iff.1 hi).1;omega⟩;rw[hn,Bo,List.getElem?_map,hi];rfl
  generalize Bo l l.length=A at *;generalize uv l (l.length-1)=bt at *;refine kW ?_;refine aq Nat (fun i=>i<=l.length/\(oe=0-> ∀p∈l.take i,mP bt p.2<=2000)) (fun i=>⟨[(0, .d (bF l)),(3, .d (GK A)),(7, .d (dN .i64 i))],[]⟩) (fun i=>l.length-i) 0 ⟨Nat.zero_le _,fun _ p h=>by simp at h⟩ kw ?_;rintro i ⟨hi,hall⟩;refine kI ?_
  refine kO3 ?_
  by_cases hil:i<l.length
  ·refine kT ?_
   obtain⟨p,hx⟩:∃p,l[i]? =some p:=⟨l[i],by simp[hil]⟩;have hAx:=hAi i p hx;have hp:=List.mem_of_getElem? hx;have hw:mP bt p.2=mP bt p.2:=rfl;generalize hwv:mP bt p.2=wv at *;refine qZ ?_;refine Au ?_;refine kO ?_;refine kC (hco) ?_;refine iX ?_
   by_cases h0:oe=0
   ·have hol:=hlo h0
    refine kB true ?_ ?_
    ·exact beq_iff_eq.2 h0
    refine kO3 ?_
    refine kT ?_
    refine kO4 ?_
    refine bB (i:=i) (cs':=[.val (.int .i64 wv)]) (by omega) (AF hAx) (Nat.zero_lt_succ 0) rfl rfl rfl rfl rfl rfl rfl rfl ?_;refine kO ?_
    by_cases hb:2000<wv
    ·refine kT ?_
     refine iT ?_;rw[hfal h0 ⟨p,hp,by rw[hwv];exact hb⟩];rfl
    ·refine kE ?_
     refine kW ?_;refine⟨i+1,⟨hil,fun _ q hq=>?_⟩,by omega,weak ⟨rfl,rfl,ae (by omega) (by omega),trivial⟩ trivial rfl⟩;rw[bi hx]at hq;rcases List.mem_append.1 hq with hq|hq
     ·exact hall h0 q hq
     ·rw[List.mem_singleton.1 hq,hwv];omega
   ·refine kB false ?_ ?_
    ·exact beq_eq_false_iff_ne.2 h0
    refine kW ?_;exact⟨i+1,⟨hil,fun h=>absurd h h0⟩,by omega,weak ⟨rfl,rfl,ae (by omega) (by omega),trivial⟩ trivial rfl⟩
  ·refine kE ?_
   refine iT ?_;rw[List.take_of_length_le (by omega)]at hall;rw[htru hall];rfl
def AI (l:Tb):Bool:=!((decide (8<l.length) && decide (l.length<=200)) || decide (220<l.length)) && (l.all (fun p=>!(decide (40<p.1.length) || !(decide (pY p.2 120<=120) && mE p.2))) && KW l)
theorem Qw {l:Tb} (hw:∀p∈l,j0 p.2) (h:AI l=true):jP l/\(∀p∈l,p.1.length<=40)/\Tu l/\(l.length<=8∨(200<l.length/\l.length<=220)):=by
 simp only[AI,Bool.and_eq_true,Bool.not_eq_true',Bool.or_eq_false_iff,Bool.and_eq_false_iff,decide_eq_false_iff_not,List.all_eq_true,Bool.not_eq_false',decide_eq_true_eq]at h
 obtain⟨⟨h1,h2⟩,h3,h4⟩:=h;refine⟨fun p hp=>⟨by have:=(h3 p hp).1;omega,hw p hp,(h3 p hp).2.2,?_⟩,fun p hp=>by have:=(h3 p hp).1;omega,PP h4,by omega⟩;have:=(h3 p hp).2.1;have h5:=(pC p.2 120).2.2 this;omega
theorem ek (l:Tb) (hw:∀p∈l,p.1.length<=9223372036854775807/\j0 p.2) (hl0:l.length<=9223372036854775807):aa Tryz.prog 13 [bF l] (.one (dB (AI l))):=by
 obtain⟨BT,hBT⟩:∃BT,AI l=BT:=⟨_,rfl⟩;rw[hBT]
 by_cases h1:8<l.length/\l.length<=200
 ·have:BT=false:=by rw[<- hBT,AI,decide_eq_true h1.1,decide_eq_true h1.2];rfl
  subst this;refine kU func13 ?_;refine kq ?_;refine kT ?_
  refine kO3 ?_
  refine kT ?_;exact ax
 by_cases h2:220<l.length
 ·have:BT=false:=by rw[<- hBT,AI,decide_eq_true h2,Bool.or_true];rfl
  subst this;refine kU func13 ?_;refine kq ?_;refine kT ?_
  refine kO3 ?_
  refine kE ?_
  refine kO4 ?_
  refine kT ?_;exact ax
 have hl:l.length<=220:=by omega
 have hsm:AI l=(l.all (fun p=>!(decide (40<p.1.length) || !(decide (pY p.2 120<=120) && mE p.2))) && KW l):=by
  unfold AI
  have:(decide (8<l.length) && decide (l.length<=200))=false:=by
   rw[Bool.and_eq_false_iff,decide_eq_false_iff_not,decide_eq_false_iff_not];omega
  rw[this,decide_eq_false h2];rfl
 rw[hBT]at hsm
 have hgood:(∀p∈l,(!(decide (40<p.1.length) || !(decide (pY p.2 120<=120) && mE p.2)))=true)->jP l:=fun h p hp=>by
  have h:=h p hp
  simp only[Bool.not_eq_true',Bool.or_eq_false_iff,decide_eq_false_iff_not,Bool.not_eq_false',Bool.and_eq_true,decide_eq_true_eq]at h
  refine⟨by omega,(hw p hp).2,h.2.2,?_⟩;have h5:=(pC p.2 120).2.2 h.2.1;omega
 have start:∀(K:aa Tryz.prog 13 [bF l] (.one (dB BT))),aa Tryz.prog 13 [bF l] (.one (dB BT)):=fun K=>K
 refine kU func13 ?_;refine kR ?_;refine j3 ⟨[(0, .d (bF l))],[]⟩ (fun s' hw2=>?_) (fun R hR _=>?_)
 case refine_2=>
  refine kI ?_
  refine kO2 ?_
  by_cases h8:8<l.length
  ·refine kT ?_
   refine kO3 ?_
   refine kE ?_
   refine kO4 ?_
   refine kY ?_;exact hR _ kw
  ·refine kE ?_
   iterate 8 refine kO ?_
   refine kY ?_;exact hR _ kw
 refine bM (T:=TT) ?_;refine bW hw2 rfl ?_;clear hw2 s' start;refine kW ?_;refine aq Nat (fun i=>i<=l.length/\ ∀p∈l.take i,(!(decide (40<p.1.length) || !(decide (pY p.2 120<=120) && mE p.2)))=true) (fun i=>⟨[(0, .d (bF l)),(3, .d (dN .i64 i))],[]⟩) (fun i=>l.length-i) 0 ⟨Nat.zero_le _,fun p h=>by simp at h⟩ kw ?_;rintro i ⟨hi,hall⟩;refine kI ?_
 refine kO3 ?_
 by_cases hil:i<l.length
 ·refine kT ?_
  obtain⟨p,hx⟩:∃p,l[i]? =some p:=⟨l[i],by simp[hil]⟩;have hp:=List.mem_of_getElem? hx;have hpw:=hw p hp;have hsz:=aS p.1;have c:=oQ p.2 hpw.2;obtain⟨o1,na1,xs1,nb1,ys1,nm1,n1,cs1,hAA,hB⟩:=aM p;have hat:∀(j:Nat) (a:AV),(a6 p.1 o1 na1 xs1 nb1 ys1 nm1 n1 cs1)[j]? =some a->(bR l)[i*8+j]? =some a:=fun j a h=>b6 l i p hx j a (by rw[hB];exact h)
  rw[show dR p.2= .agg (ab o1 na1 xs1 nb1 ys1 nm1 n1 cs1) from congrArg DV.agg hAA]at c
  have bad:(!(decide (40<p.1.length) || !(decide (pY p.2 120<=120) && mE p.2)))=false->BT=false:=fun h=>by
   rw[hsm,show(l.all (fun p=>!(decide (40<p.1.length) || !(decide (pY p.2 120<=120) && mE p.2))))=false from List.all_eq_false.2 ⟨p,hp,by rw[h];decide⟩];rfl
  refine qZ ?_;refine sh ?_;refine lp ?_
  refine kO3 ?_
  by_cases h40:40<p.1.length
  ·refine kT ?_
   refine iT ?_;rw[bad (by rw[decide_eq_true h40];rfl)];rfl
  ·refine kE ?_
   refine kO3 ?_
   refine lp ?_
   refine kO2 ?_
   cases hb:(decide (pY p.2 120<=120) && mE p.2)
   ·rw[hb]at c
    refine kC (c) ?_;refine iT ?_;rw[bad (by rw[hb,decide_eq_false h40];rfl)];rfl
   ·rw[hb]at c
    refine kQ (c) ?_;refine⟨i+1,⟨hil,fun q hq=>?_⟩,by omega,weak ⟨rfl,ae (by omega) (by omega),trivial⟩ trivial rfl⟩;rw[bi hx]at hq;rcases List.mem_append.1 hq with hq|hq
    ·exact hall q hq
    ·rw[List.mem_singleton.1 hq,hb,decide_eq_false h40];rfl
 ·rw[List.take_of_length_le (by omega)]at hall
  have c:=IF l (hgood hall) (by omega);rw[List.all_eq_true.2 hall,Bool.true_and]at hsm;rw[<- hsm]at c;refine kE ?_;exact vl
section
variable {P:Program} {T:TypeId->Option Ty} {n:Nat} {ops:Array Oper} {id:Nat} {draw:Bool} {K:AS->Prop} {s:AS} {k:Nat} {o:Oper} {os:List Oper} {fps:List FP}
theorem SA (hT:∀t d,T t=some d->aU P t d) {t:TypeId} {ty:Ty} {x y:Operand} {et q m i:Nat} {ik:IntKind} {cs:List AV} (hi:i<=m) (h1:gd ops s o=some true) (h2:o.op= .slice t x none (some y) none) (h5:T t=some ty) (h6:ty.elem=some (et,q)) (h7:s.ev x= .d (.leaf (.sl m cs))) (h8:s.ev y= .d (.leaf (.val (.int ik (i:Nat)))))
 (h3:aH n o.dst=true) (h4:eS draw ops (aw ops o ⟨.d (.leaf (.sl i (cs.take (i*q)))),none⟩ []) k fps=true) (h:ak P T n ops id draw K (k+1) os (s.eff o.dst ⟨.d (.leaf (.sl i (cs.take (i*q)))),none⟩) (aw ops o ⟨.d (.leaf (.sl i (cs.take (i*q)))),none⟩ []::fps)):ak P T n ops id draw K k (o::os) s fps:=by
 refine .run h1 (.gen fun s2 ht _=>?_) h3 h4 h;have hx:=(an ht (x:=x) (by simp[h2,Op.operands])).trans h7;have hy:=(an ht (x:=y) (by simp[h2,Op.operands])).trans h8;obtain⟨u,hu,_,hel,_⟩:=(hT _ _ h5).und;obtain⟨rfl,hks⟩:=hel et q h6;refine ai fun n S0 w0 g a w hM=>?_
 have hm:=hM.ev x;rw[hx]at hm;have hm:AV.M (Own S0 g s2) w (.sl m cs) (a.eval x):=hm;have hiv:=bc hM hy
 have key:∃v,(Instr.sliceAt t (a.eval x) none (some (.int ik (i:Nat))) none).run P w= .ok v w/\AV.M (Own S0 g s2) w (.sl i (cs.take (i*q))) v:=by
  generalize a.eval x=v at hm;cases hm with
  |emp e1 e2 e3=>
   rename_i A c
   refine⟨_,lF hu hks A ik (by omega),?_⟩;rw[List.take_nil];refine .emp (by omega) (by omega) (fun hA=>?_)
   split at hA
   ·assumption
   ·exact e3 (by cases A<;>simp_all)
  |sl f e1 e2 e3 e4 e5 e6=>
   rename_i b off c
   have hA:(if c=0 then some (⟨b,off,none⟩:Addr)else(some (⟨b,off,none⟩:Addr)).map (·.add (0*q)))=some ⟨b,off,none⟩:=by
    split
    ·rfl
    ·show some ((⟨b,off,none⟩:Addr).add (0*q))=_
     rw[cH,Nat.zero_mul,Nat.add_zero]
   have hr:=lF (P:=P) (w:=w) hu hks (some (⟨b,off,none⟩:Addr)) (m:=m) (i:=i) (c:=c) ik (by omega);rw[hA]at hr;refine⟨_,hr,?_⟩
   have hc:∀(p:Nat) (b:AV),(cs.take (i*q))[p]? =some b->cs[p]? =some b:=fun p b hb=>by
    rw[List.getElem?_take]at hb
    split at hb
    ·exact hb
    ·cases hb
   exact .sl f (by omega) (by omega) e3 e4 (fun j x hj=>e5 _ _ (hc j x hj)) (fun j x hj=>e6 _ _ (hc j x hj))
 obtain⟨v,hr,hv⟩:=key;refine⟨v,w,?_,Below.refl _ _,hv⟩;unfold execOp;rw[h2]
 simp only[hiv,Option.map_some,Option.map_none,Sem.run_bind,hr,Result.andThen_ok]
 rfl
theorem Ku (hT:∀t d,T t=some d->aU P t d) {t:TypeId} {ty:Ty} {x y:Operand} {et q m i d:Nat} {ik:IntKind} {cs:List AV} (hcs:cs.length<=m*q) (hi:i<=m) (hd:m-i=d) (h1:gd ops s o=some true) (h2:o.op= .slice t x (some y) none none) (h5:T t=some ty) (h6:ty.elem=some (et,q)) (h7:s.ev x= .d (.leaf (.sl m cs))) (h8:s.ev y= .d (.leaf (.val (.int ik (i:Nat)))))
 (h3:aH n o.dst=true) (h4:eS draw ops (aw ops o ⟨.d (.leaf (.sl d (cs.drop (i*q)))),none⟩ []) k fps=true) (h:ak P T n ops id draw K (k+1) os (s.eff o.dst ⟨.d (.leaf (.sl d (cs.drop (i*q)))),none⟩) (aw ops o ⟨.d (.leaf (.sl d (cs.drop (i*q)))),none⟩ []::fps)):ak P T n ops id draw K k (o::os) s fps:=by
 subst hd;exact zU hT hcs hi h1 h2 h5 h6 h7 h8 h3 h4 h
end
theorem TK (x:L8):aF (cG [AV.val (Value.string ByteArray.empty)] 1) 0 (dL x).cells=[.val (vL x)]:=rfl
theorem TS (na nb:Bool) (xs ys:List Nat) (p:Int):aF (cG [AV.val (Value.bool false),AV.sl 0 [],AV.val (Value.bool false),AV.sl 0 [],AV.val (Value.int IntKind.i64 0)] 1) 0 (DV.agg [AV.val (Value.bool na),aW xs,AV.val (Value.bool nb),aW ys,AV.val (Value.int IntKind.i64 p)]).cells=[AV.val (Value.bool na),aW xs,AV.val (Value.bool nb),aW ys,AV.val (Value.int IntKind.i64 p)]:=rfl
theorem Mn {m m' n n':Nat} {a a' b b':List AV} (h1:m=m') (h2:a=a') (h3:n=n') (h4:b=b'):qM [.leaf (.sl m a), .leaf (.sl n b)]= .tup [.leaf (.sl m' a'), .leaf (.sl n' b')]:=by subst h1 h2 h3 h4;rfl
theorem gm:∀{cs:List AV},a8 cs=true↔ ∀a∈cs,GD a=true
 | []=>by simp[a8]
 |a::cs=>by
  simp only[a8,List.mem_cons,forall_eq_or_imp]
  cases h:GD a
  ·simp
  ·simp[gm (cs:=cs)]
theorem nZ {a b:List AV} (h:a8 a=true) (k:a8 b=true):a8 (a++b)=true:=gm.2 fun x hx=>by
 rcases List.mem_append.1 hx with hx|hx
 ·exact gm.1 h x hx
 ·exact gm.1 k x hx
theorem wA {a:List AV} (h:a8 a=true) (i:Nat):a8 (a.take i)=true:=gm.2 fun x hx=>gm.1 h x (List.mem_of_mem_take hx)
theorem lX {a:List AV} (h:a8 a=true) (i:Nat):a8 (a.drop i)=true:=gm.2 fun x hx=>gm.1 h x (List.mem_of_mem_drop hx)
def O7 (na:Bool) (xs:List Nat) (nb:Bool) (ys:List Nat) (p:Int):List AV:=[.val (.bool na),aW xs, .val (.bool nb),aW ys, .val (.int .i64 p)]
def MC (ns:List L8) (x:L8) (cv vv:List AV):List AV:=cv.take (xn ns x*5)++vv++cv.drop (xn ns x*5)
theorem zN (l:List L8) (n:L8):(jc l n).length=l.length+1:=by
 have:=Ci l n
 simp[jc]
 omega
theorem KN (ns:List L8) (cv:List AV) (x:L8) (na:Bool) (xs:List Nat) (nb:Bool) (ys:List Nat) (p:Int) (hc:cv.length=ns.length*5) (hB:a8 cv=true) (hl:ns.length<=1000):aa Tryz.prog 63 [gM ns, .leaf (.sl ns.length cv),dL x, .agg (O7 na xs nb ys p)] (.tup [gM (jc ns x), .leaf (.sl (ns.length+1) (MC ns x cv (O7 na xs nb ys p)))]):=by
 have hBn:=jd ns;have hcn:=cL ns;have hple:=Ci ns x;have hplt:= @G9 ns x;have hpat:= @I5 ns x;have hN:gM (jc ns x)= .leaf (.sl (ns.length+1) (au (jc ns x))):=by unfold gM;rw[zN]
 have hNc:au (jc ns x)=(au ns).take (xn ns x*1)++[.val (vL x)]++(au ns).drop (xn ns x*1):=by simp[jc,au,List.map_take,List.map_drop]
 rw[hN,hNc,MC];clear hN hNc;generalize xn ns x=q at *;refine kU func63 ?_;refine kR ?_;refine kR ?_;refine j3 ⟨[(0, .d (gM ns)),(1, .d (.leaf (.sl ns.length cv))),(2, .d (dL x)),(7, .box 0 0),(10, .d (dN .i64 q))],[(0,some (O7 na xs nb ys p))]⟩ (fun s' hw=>?_) (fun R hR _=>?_)
 case refine_2=>
  refine kW ?_;refine aq Nat (fun k=>k<=q) (fun k=>⟨[(0, .d (gM ns)),(1, .d (.leaf (.sl ns.length cv))),(2, .d (dL x)),(7, .box 0 0),(10, .d (dN .i64 k))],[(0,some (O7 na xs nb ys p))]⟩) (fun k=>q-k) 0 (Nat.zero_le _) kw ?_;intro k hk;refine kI ?_
  refine kO3 ?_
  by_cases hkn:k<ns.length
  ·refine kT ?_
   obtain⟨y,hy⟩:∃y,ns[k]? =some y:=⟨ns[k],by simp[hkn]⟩
   refine kO3 ?_
   refine bB (i:=k) (cs':=[.val (vL y)]) hkn (d4 hy) (Nat.zero_lt_succ 0) rfl rfl rfl rfl rfl rfl rfl rfl ?_
   refine kO2 ?_
   by_cases hkq:k<q
   ·refine aC rfl rfl rfl rfl rfl rfl rfl (CI (a:=y) (b:=x) (hplt hkq hy)) ?_
    refine kW ?_;exact⟨k+1,hkq,by omega,weak ⟨rfl,rfl,rfl,rfl,ae (by omega) (by omega),trivial⟩ ⟨rfl,trivial⟩ rfl⟩
   ·obtain rfl:k=q:=by omega
    refine aC rfl rfl rfl rfl rfl rfl rfl (CI (a:=y) (b:=x) (hpat hy)) ?_;refine kW ?_;exact hR _ kw
  ·obtain rfl:k=q:=by omega
   refine kY ?_;exact hR _ kw
 refine bM (T:=TT) ?_;refine bW hw rfl ?_;clear hw s' hplt hpat;obtain⟨d,hd⟩:∃d,ns.length-q=d:=⟨_,rfl⟩;have hb:∀m,m<=1001->m*72<=140737488355328:=fun m hm=>by omega
 have hb1:∀m,m<=1001->m*16<=140737488355328:=fun m hm=>by omega
 rcases Nat.eq_zero_or_pos q with hq0|hq0<;>rcases Nat.eq_zero_or_pos d with hd0|hd0
 ·subst hq0 hd0;have hdr:au ns=[]:=List.eq_nil_of_length_eq_zero (by rw[hcn];omega);have hdr5:cv=[]:=List.eq_nil_of_length_eq_zero (by omega)
  refine kO ?_;refine iX ?_;refine Bn ?_;refine OL ?_;refine th ?_;refine Bn ?_;refine N7 ?_;refine th ?_;exact TB
 ·subst hq0;have hdr:=trivial;have hdr5:=trivial
  refine kO ?_;refine iX ?_;refine Bn ?_;refine OL ?_;refine gG 6003 (m1:=0+1) (m2:=d) ac hd0 (hb1 _ (by omega)) (by rw[List.length_drop,hcn];omega) rfl rfl rfl rfl rfl rfl rfl rfl rfl (.own rfl rfl) rfl rfl (by rw[lX hBn];rfl) rfl ?_;refine Bn ?_;refine N7 ?_;refine gG 7003 (m1:=0+1) (m2:=d) ac hd0 (hb _ (by omega)) (by rw[List.length_drop,hc];omega) rfl rfl rfl rfl rfl rfl rfl rfl rfl (.own rfl rfl) rfl rfl (by rw[lX hB];rfl) rfl ?_;exact TB
 ·subst hd0;have hdr:(au ns).drop q=[]:=List.drop_eq_nil_of_le (by rw[hcn];omega);have hdr5:cv.drop (q*5)=[]:=List.drop_eq_nil_of_le (by omega)
  refine kO ?_;refine iX ?_;refine Bn ?_;refine Ro ?_;refine th ?_;refine Bn ?_;refine Ri ?_;refine th ?_;exact TB
 ·have hdr:=trivial;have hdr5:=trivial
  refine kO ?_;refine iX ?_;refine Bn ?_;refine Ro ?_;refine gG 6003 (m1:=0+q+1) (m2:=d) ac hd0 (hb1 _ (by omega)) (by rw[List.length_drop,hcn];omega) rfl rfl rfl rfl rfl rfl rfl rfl rfl (.own rfl rfl) rfl rfl (by rw[lX hBn];rfl) rfl ?_;refine Bn ?_;refine Ri ?_;refine gG 7003 (m1:=0+q+1) (m2:=d) ac hd0 (hb _ (by omega)) (by rw[List.length_drop,hc];omega) rfl rfl rfl rfl rfl rfl rfl rfl rfl (.own rfl rfl) rfl rfl (by rw[lX hB];rfl) rfl ?_;exact TB
section
variable {P:Program} {T:TypeId->Option Ty} {n:Nat} {ops:Array Oper} {id:Nat} {draw:Bool} {K:AS->Prop} {s:AS} {k:Nat} {o:Oper} {os:List Oper} {fps:List FP}
theorem jh {t:TypeId} {ty:Ty} {x y:Operand} {i off:Nat} {cs cs':List AV} {dv:DV} (hl:off+ty.size<=cs.length) (hs:aF cs off dv.cells=cs') (h1:gd ops s o=some true) (h2:o.op= .store t x y) (h0:o.dst=none) (h5:T t=some ty) (h8:s.ev x= .box i off) (h9:s.bx i=some cs) (h10:F1 (s.ev y)=some dv) (h7:Nat.beq dv.cells.length ty.size=true) (h11:RL i dv.cells=true)
 (h4:eS draw ops (aw ops o ⟨.junk,some [(i,some cs')]⟩ [i]) k fps=true) (h:ak P T n ops id draw K (k+1) os (s.eff o.dst ⟨.junk,some [(i,some cs')]⟩) (aw ops o ⟨.junk,some [(i,some cs')]⟩ [i]::fps)) (hlb:cT i=false:=by rfl):ak P T n ops id draw K k (o::os) s fps:=by
 refine gD h1 ?_ (by rw[h0];rfl) h4 h;have hb:Nat.ble (off+ty.size) cs.length=true:=Nat.ble_eq_true_of_le hl;unfold fb
 simp only[h0,h2,h5,h8,h9,hb,h10,h11,hs,hlb,KX,h7]
end
theorem jy (a b:Tb):bR (a++b)=bR a++bR b:=by
 induction a with
 |nil=>rfl
 |cons x a ih=>simp only[List.cons_append,bR,ih,List.append_assoc]
theorem oD (p:Pm):bR [p]=wQ p:=by rw[bR,bR,List.append_nil]
theorem yU:∀(l:Tb) (i:Nat),(bR l).take (i*8)=bR (l.take i)
 | [],i=>by simp[bR]
 |p::r,0=>by simp[bR]
 |p::r,i+1=>by
  rw[List.take_succ_cons,bR,bR,show(i+1)*8=(wQ p).length+i*8 by rw[fO];omega,List.take_length_add_append,yU r i]
theorem yM:∀(l:Tb) (i:Nat),(bR l).drop (i*8)=bR (l.drop i)
 | [],i=>by simp[bR]
 |p::r,0=>by simp
 |p::r,i+1=>by
  rw[List.drop_succ_cons,bR,show(i+1)*8=(wQ p).length+i*8 by rw[fO];omega,List.drop_length_add_append,yM r i]
theorem Mq {l:Tb} {i:Nat} (p:Pm) (hi:i<l.length):aF (bR l) (i*8) (wQ p)=bR (l.set i p):=by
 unfold aF;rw[fO,show i*8+8=(i+1)*8 by omega,yU,yM,<- oD p,<- jy,<- jy]
 congr 1
 rw[List.set_eq_take_append_cons_drop,if_pos hi]
 simp
theorem xA (x:Rx):a8 (aR x)=true:=by obtain⟨op,na,xs,nb,ys,nm,args⟩:=x;rfl
theorem oE:∀l:Tb,a8 (bR l)=true
 | []=>rfl
 |p::r=>nZ (show a8 (.val (vL p.1)::aR p.2)=true from xA p.2) (oE r)
theorem jP.set {l:Tb} (hs:jP l) {p:Pm} (hp:p.1.length<=60/\pe p.2):jP (dl l p):=fun q hq=>by
 unfold dl at hq
 split at hq
 ·rcases List.mem_or_eq_of_mem_set hq with h|h
  ·exact hs q h
  ·rw[h];exact hp
 ·rcases List.mem_append.1 hq with h|h
  ·exact hs q h
  ·rw[List.mem_singleton.1 h];exact hp
def CZ (x:Tb × Int):RV:= .tup [bF x.1,dN .i64 x.2]
theorem CS (l:Tb) (p:Pm) (hs:jP l) (hp:p.1.length<=60/\pe p.2) (hl:l.length<=500):aa Tryz.prog 23 [bF l,sW p] (CZ (yC l p)):=by
 have hml:=oC l p;have cf:=gi l p.1 (by omega);have co:=gP (dl l p) (hs.set hp) (by omega);have hok:=oE l;have hokp:a8 (wQ p)=true:=xA p.2;have hpl:=fO p;have hfl:=pm l p.1;obtain⟨R,hR⟩:∃R,yC l p=R:=⟨_,rfl⟩;have hst:R=if(bf (dl l p)).2=0 then(dl l p,0)else([],(bf (dl l p)).2):=by rw[<- hR];rfl
 rw[hR];clear hR
 have hset:(bX l p.1<l.length/\gt l p.1=(bX l p.1:Nat)/\bF (dl l p)= .leaf (.sl l.length (aF (bR l) (bX l p.1*8) (wQ p))))∨(gt l p.1= -1/\bF (dl l p)= .leaf (.sl (l.length+1) (bR l++wQ p))):=by
  exact O8
 obtain⟨o1,na1,xs1,nb1,ys1,nm1,n1,cs1,hA,hB⟩:=aM p;rw[show sW p= .agg (a6 p.1 o1 na1 xs1 nb1 ys1 nm1 n1 cs1) from congrArg DV.agg hB];rw[hB]at hset hokp hpl;generalize gt l p.1=fi at *;generalize bX l p.1=f at *;generalize dl l p=m at *;generalize(bf m).1=oo at *;generalize(bf m).2=oe at *
 have hfin:∀(c:List AV) (k:Nat),bF m= .leaf (.sl k c)->(oe=0->qM [.leaf (.sl k c),dN .i64 0]=CZ R)/\(oe≠0->qM [.leaf (.sl 0 []),dN .i64 oe]=CZ R):=fun c k e=>by
  exact NK
 have hby:∀k,k<=1001->k*128<=140737488355328:=fun k hk=>by omega
 cases l with
 |nil=>
  rcases hset with⟨h,_,_⟩| ⟨rfl,hm⟩
  ·exact absurd h (Nat.not_lt_zero _)
  have hfin:=hfin _ _ hm;rw[hm]at co;refine kV func23 ?_;refine qC 5001 ac rfl rfl rfl rfl rfl rfl rfl rfl ?_;refine kO ?_;refine th ?_;refine BW ?_;refine cY 5002 (m1:=0) (m2:=1) ac (by decide) (by decide) rfl rfl rfl rfl rfl rfl rfl rfl rfl rfl rfl (.own rfl rfl) rfl rfl rfl ?_;refine nL ?_;refine Kb ?_;exact zt
 |cons a r=>
  rcases hset with⟨h,rfl,hm⟩| ⟨rfl,hm⟩
  ·have hfin:=hfin _ _ hm
   rw[hm]at co;have hlc:=dO (a::r);refine NL ?_;refine Nq ?_;refine jh (cs:=bR (a::r)) (show f*8+8<=_ by rw[hlc];omega) rfl rfl rfl rfl rfl rfl rfl rfl rfl rfl rfl ?_;refine nL ?_;refine Kb ?_;exact zt
  ·have hfin:=hfin _ _ hm
   rw[hm]at co;have hlc:=dO (a::r);refine NL ?_;refine BW ?_;refine cY 5003 (m1:=(a::r).length) (m2:=1) ac (by decide) (hby _ (by omega)) rfl rfl rfl rfl rfl rfl rfl rfl rfl rfl rfl (.own rfl rfl) rfl rfl rfl ?_;have ht:(bR (a::r)).take ((a::r).length*8)=bR (a::r):=List.take_of_length_le (Nat.le_of_eq hlc);refine nL ?_;refine bW ((a7 (q:=6) rfl rfl).tr (weak (s':=⟨[(6, .d (.leaf (.sl ((a::r).length+1) (bR (a::r)++a6 p.1 o1 na1 xs1 nb1 ys1 nm1 n1 cs1))))],[]⟩) ⟨congrArg (fun z=>TV.d (.leaf (.sl ((a::r).length+1) (z++a6 p.1 o1 na1 xs1 nb1 ys1 nm1 n1 cs1)))) ht,trivial⟩ trivial rfl)) rfl ?_;refine kO ?_;refine kC (co) ?_;exact zt
theorem K0.of:∀x,Bp x->gL x<=1000000->K0 x:=by
 refine dq fun op na xs nb ys nm args ih hm hs=>?_
 obtain⟨hx1,hy1,_,hm1⟩:xs.length<=510/\ys.length<=510/\nm.length<=65536/\ ∀x∈args,Bp x:=by cases hm with|mk a b c d=>exact⟨a,b,c,d⟩
 rw[gL]at hs;have hge:=jC args
 have key:∀l:List Rx,∀x∈l,gL x<=eB l:=by
  intro l
  induction l with
  |nil=>intro x h;cases h
  |cons y r ihr=>
   intro x h;rcases List.mem_cons.1 h with rfl|h
   ·simp[eB]
   ·have:=ihr x h;simp only[eB];omega
 exact .mk (by omega) (by omega) (by omega) (fun x hx=>ih x hx (hm1 x hx) (by have:=key args x hx;omega))
theorem pe.lw {x:Rx} (h:pe x):K0 x:=K0.of x h.lm (by have:=h.sz;omega)
abbrev Tv (J:Nat) (m:Nat):TV:=gV J 8 43 m
theorem tG {J:Nat} {cs:List AV} {m:Nat} {r:List (Nat × Option (List AV))} (hJ:bQ J=false) (hr:dV [J] r=true):dV [] ((J,gX cs m)::r)=true:=by
 simp only[dV,hJ,hr,Bool.not_false,Bool.or_true,Bool.and_self]
theorem KM (t:List (Nat × TV)) (b:List (Nat × Option (List AV))) (q J:Nat) (o:Tb) (p:Pm) {c:List AV} (hc:wQ p=c):(⟨(q,Tv J (o++[p]).length)::t,(J,gX (bR (o++[p])) (o++[p]).length)::b⟩:AS)=⟨(q,Tv J (o.length+1))::t,(J,gX (bR o++c) (o.length+1))::b⟩:=by
 rw[List.length_append,jy,oD,hc];rfl
theorem Kw {α:Type} {l:List α} {f i:Nat} (h:i=f):(l.take (i+1)).eraseIdx f=(l.take i).eraseIdx f:=by
 subst h;rw[List.eraseIdx_eq_take_drop_succ,List.eraseIdx_eq_take_drop_succ]
 simp
 have:List.drop (i+1) (List.take i l)=[]:=List.drop_eq_nil_of_le (by rw[List.length_take];omega)
 simp[this]
 rw[List.take_take,List.take_take,Nat.min_eq_left (Nat.le_succ i),Nat.min_self]
theorem H7 {α:Type} {l:List α} {f i:Nat} {p:α} (hx:l[i]? =some p) (h:i≠f):(l.take (i+1)).eraseIdx f=(l.take i).eraseIdx f++[p]:=by
 have hi:=(List.getElem?_eq_some_iff.1 hx).1;rw[bi hx,List.eraseIdx_append];have hl:(l.take i).length=i:=by rw[List.length_take];omega
 rw[hl]
 split
 ·rfl
 ·rename_i hf
  rw[List.eraseIdx_of_length_le (l:=l.take i) (by omega)]
  congr 1
  exact List.eraseIdx_of_length_le (by simp;omega)
theorem uT (l:Tb) (n:L8) (hs:jP l) (hl:l.length<=500):aa Tryz.prog 41 [bF l,dL n] (CZ (Bw l n)):=by
 have cv:=eJ l hs (by omega);have cf:=gi l n (by omega);obtain⟨R,hR⟩:∃R,Bw l n=R:=⟨_,rfl⟩;have hrm:R=if gC l=0 then(if bX l n<l.length then(if(l.eraseIdx (bX l n)).any (fun p=>decide (n∈ej p.2))=true then([],14)else(l.eraseIdx (bX l n),0))else([],4))else([],gC l):=hR.symm
 rw[hR];clear hR
 by_cases hv:gC l=0
 case neg=>
  rw[if_neg hv]at hrm;subst hrm;generalize gC l=z at *;refine kU func41 ?_;exact Et
 rw[if_pos hv]at hrm;rw[hv]at cv;clear hv
 by_cases hfd:bX l n<l.length
 case neg=>
  rw[if_neg hfd]at hrm;subst hrm;rw[show gt l n= -1 by unfold gt;rw[if_neg hfd]]at cf;refine kU func41 ?_;refine uQ ?_;refine kC (cf) ?_;exact ax
 rw[if_pos hfd]at hrm;rw[show gt l n=(bX l n:Nat) by unfold gt;rw[if_pos hfd]]at cf
 have hbad:(∃p∈l.eraseIdx (bX l n),n∈ej p.2)->R=([],14):=fun⟨p,hp,hn⟩=>by
  rw[hrm,if_pos (List.any_eq_true.2 ⟨p,hp,decide_eq_true hn⟩)]
 have hgood:(∀p∈l.eraseIdx (bX l n),n ∉ ej p.2)->R=(l.eraseIdx (bX l n),0):=fun h=>by
  rw[hrm,if_neg (fun h2=>by obtain⟨p,hp,hn⟩:=List.any_eq_true.1 h2;exact h p hp (of_decide_eq_true hn))]
 clear hrm;generalize bX l n=f at *;have hby:∀k,k<=1001->k*128<=140737488355328:=fun k hk=>by omega
 refine kU func41 ?_;refine uQ ?_;refine kC (cf) ?_;refine iX ?_;refine kY ?_;refine aq Nat (fun i=>i<=l.length/\ ∀p∈(l.take i).eraseIdx f,n ∉ ej p.2) (fun i=>⟨[(8,Tv 5001 ((l.take i).eraseIdx f).length),(0, .d (bF l)),(1, .d (dL n)),(7, .d (dN .i64 f)),(9, .d (dN .i64 i))],[(5001,gX (bR ((l.take i).eraseIdx f)) ((l.take i).eraseIdx f).length)]⟩) (fun i=>l.length-i) 0 ⟨Nat.zero_le _,fun p h=>by simp at h⟩ kw ?_;rintro i ⟨hi,hall⟩;refine kI ?_
 refine kO3 ?_
 by_cases hil:i<l.length
 ·refine kT ?_
  obtain⟨p,hx⟩:∃p,l[i]? =some p:=⟨l[i],by simp[hil]⟩;refine qZ ?_;refine sh ?_
  by_cases hif:i=f
  ·have he:=Kw (l:=l) hif
   refine kB true ?_ ?_
   ·exact beq_iff_eq.2 (by omega)
   refine kW ?_;refine⟨i+1,⟨hil,by rw[he];exact hall⟩,by omega,?_⟩;rw[he];generalize(l.take i).eraseIdx f=o at *;cases o with
   |nil=>exact weak ⟨rfl,rfl,rfl,rfl,ae (by omega) (by omega),trivial⟩ trivial rfl
   |cons a r=>exact weak ⟨rfl,rfl,rfl,rfl,ae (by omega) (by omega),trivial⟩ ⟨rfl,trivial⟩ rfl
  ·have he:=H7 hx hif
   have hp:=List.mem_of_getElem? hx;have hsx:=(hs p hp).2;have hnl:=hs.ns hp;have hpe:p∈l.eraseIdx f:=List.mem_eraseIdx_iff_getElem?.2 ⟨i,hif,hx⟩;have cn:=fN p.2 hsx.wd (by have:=hsx.sz;omega);have ch:=mN (ej p.2) n (by omega);obtain⟨o1,na1,xs1,nb1,ys1,nm1,n1,cs1,hA,hB⟩:=aM p;have hat:∀(j:Nat) (a:AV),(a6 p.1 o1 na1 xs1 nb1 ys1 nm1 n1 cs1)[j]? =some a->(bR l)[i*8+j]? =some a:=fun j a h=>b6 l i p hx j a (by rw[hB];exact h)
   rw[show dR p.2= .agg (ab o1 na1 xs1 nb1 ys1 nm1 n1 cs1) from congrArg DV.agg hA]at cn;have hst:=fun o=>KM [(0, .d (bF l)),(1, .d (dL n)),(7, .d (dN .i64 f)),(9, .d (dN .i64 (i+1:Nat)))] [] 8 5001 o p hB
   have hmem:∀q∈(l.take i).eraseIdx f++[p],n ∉ ej p.2->n ∉ ej q.2:=fun q hq h=>by
    exact Om
   have hol:((l.take i).eraseIdx f).length<=500:=Nat.le_trans (List.length_eraseIdx_le _ _) (by rw[List.length_take];omega);refine kB false ?_ ?_
   ·exact beq_eq_false_iff_ne.2 (by omega)
   refine tD ?_;refine el (show gy _ _ _ _ _ _ from ?_);refine sh ?_;refine lp ?_
   refine kO2 ?_
   refine aj (cn) rfl (tG rfl rfl) rfl rfl rfl rfl rfl ?_;refine kO ?_
   by_cases hn:n∈ej p.2
   ·rw[decide_eq_true hn]at ch
    refine aj (ch) rfl (tG rfl rfl) rfl rfl rfl rfl rfl ?_;refine iT ?_;rw[hbad ⟨p,hpe,hn⟩];rfl
   ·rw[decide_eq_false hn]at ch
    refine aj (ch) rfl (tG rfl rfl) rfl rfl rfl rfl rfl ?_;refine tD ?_;refine el (show gy _ _ _ _ _ _ from ?_);refine Au ?_
    refine kO3 ?_
    refine lp ?_
    refine kO2 ?_
    refine II 5002 (J:=5001) (m1:=((l.take i).eraseIdx f).length) (m2:=1) (cs:=bR ((l.take i).eraseIdx f)) (xs:=a6 p.1 o1 na1 xs1 nb1 ys1 nm1 n1 cs1) ac (hby _ (by omega)) (dO _) rfl rfl rfl rfl rfl rfl rfl rfl rfl rfl rfl rfl rfl rfl rfl rfl rfl ?_;refine kW ?_;refine⟨i+1,⟨hil,by rw[he];exact fun q hq=>hmem q hq hn⟩,by omega,?_⟩;rw[he];refine Eq.mpr (congrArg (bu _) (hst _)) ?_;exact bu.tr (b:=⟨[(8,Tv 5002 (((l.take i).eraseIdx f).length+1)),(0, .d (bF l)),(1, .d (dL n)),(7, .d (dN .i64 f)),(9, .d (dN .i64 (i+1:Nat)))],[(5002,gX (bR ((l.take i).eraseIdx f)++a6 p.1 o1 na1 xs1 nb1 ys1 nm1 n1 cs1) (((l.take i).eraseIdx f).length+1))]⟩) (weak ⟨rfl,rfl,rfl,rfl,ae (by omega) (by omega),trivial⟩ ⟨rfl,trivial⟩ rfl) ((tQ (q:=8) (J:=5002) (J':=5001) rfl rfl rfl).tr kw)
 ·have hend:(l.take i).eraseIdx f=l.eraseIdx f:=by rw[List.take_of_length_le (by omega)]
  rw[hend]at hall ⊢;refine wN ?_;refine bW (gR (q:=8) (J:=5001) (m:=(l.eraseIdx f).length) (cs:=bR (l.eraseIdx f)) (fun h=>by rw[List.eq_nil_of_length_eq_zero h];rfl) rfl rfl) rfl ?_;refine iT ?_;rw[hgood hall];rfl
theorem gS (l:Tb) (hs:jP l) (hl:l.length<=1000000):aa Tryz.prog 24 [bF l,bF l] (.one (dB true)):=by
 refine kU func24 ?_;refine jT ?_;refine BY ?_;refine aq Nat (fun i=>i<=l.length) (fun i=>⟨[(0, .d (bF l)),(1, .d (bF l)),(5, .d (dN .i64 i))],[]⟩) (fun i=>l.length-i) 0 (Nat.zero_le _) kw ?_;intro i hi;refine kI ?_
 refine kO3 ?_
 by_cases hil:i<l.length
 ·refine kT ?_
  obtain⟨p,hx⟩:∃p,l[i]? =some p:=⟨l[i],by simp[hil]⟩;have hsx:=(hs p (List.mem_of_getElem? hx)).2;have ce:=u7 p.2 hsx.lw;obtain⟨o1,na1,xs1,nb1,ys1,nm1,n1,cs1,hA,hB⟩:=aM p;have hat:∀(j:Nat) (a:AV),(a6 p.1 o1 na1 xs1 nb1 ys1 nm1 n1 cs1)[j]? =some a->(bR l)[i*8+j]? =some a:=fun j a h=>b6 l i p hx j a (by rw[hB];exact h)
  rw[show dR p.2= .agg (ab o1 na1 xs1 nb1 ys1 nm1 n1 cs1) from congrArg DV.agg hA]at ce;refine qZ ?_;refine sh ?_;refine lp ?_
  refine kO4 ?_
  refine lp ?_
  refine kO2 ?_
  refine aC rfl rfl rfl rfl rfl rfl rfl (fD (a:=p.1) (b:=p.1) rfl) ?_
  refine kO3 ?_
  refine lp ?_
  refine kO4 ?_
  refine lp ?_
  refine kO2 ?_
  refine kQ (ce) ?_;exact⟨i+1,hil,by omega,weak ⟨rfl,rfl,ae (by omega) (by omega),trivial⟩ trivial rfl⟩
 ·refine kE ?_
  exact ax
theorem xb:∀(env:EL) (n:L8),xn (env.map (·.1)) n=pM env n
 | [],_=>rfl
 |y::r,n=>by rw[List.map_cons,xn,pM,xb r n]
theorem JY (env:EL) (n:L8) (v:Rat × Int):jc (env.map (·.1)) n=(f8 env n v).map (·.1):=by
 unfold jc f8;rw[xb]
 simp[List.map_take,List.map_drop]
theorem xt (env:EL):eU env=gM (env.map (·.1)):=by
 unfold eU gM au;rw[List.length_map,List.map_map];rfl
theorem Ew (a b:EL):j4 (a++b)=j4 a++j4 b:=by
 induction a with
 |nil=>rfl
 |cons x a ih=>simp only[List.cons_append,j4,ih,List.append_assoc]
theorem ri (q:Rat) (p:Int):(jS q p).length=5:=rfl
theorem xU:∀l:EL,(j4 l).length=l.length*5
 | []=>rfl
 |x::r=>by rw[j4,List.length_append,ri,xU r,List.length_cons];omega
theorem tl:∀(l:EL) (i:Nat),(j4 l).take (i*5)=j4 (l.take i)
 | [],i=>by simp[j4]
 |x::r,0=>by simp[j4]
 |x::r,i+1=>by
  rw[List.take_succ_cons,j4,j4,show(i+1)*5=(jS x.2.1 x.2.2).length+i*5 by rw[ri];omega,List.take_length_add_append,tl r i]
theorem sd:∀(l:EL) (i:Nat),(j4 l).drop (i*5)=j4 (l.drop i)
 | [],i=>by simp[j4]
 |x::r,0=>by simp
 |x::r,i+1=>by
  rw[List.drop_succ_cons,j4,show(i+1)*5=(jS x.2.1 x.2.2).length+i*5 by rw[ri];omega,List.drop_length_add_append,sd r i]
theorem yc:∀l:EL,a8 (j4 l)=true
 | []=>rfl
 |x::r=>nZ (a:=jS x.2.1 x.2.2) rfl (yc r)
theorem LJ (env:EL) (n:L8) (v:Rat × Int):MC (env.map (·.1)) n (j4 env) (jS v.1 v.2)=j4 (f8 env n v):=by
 unfold MC f8;rw[xb,tl,sd,Ew,j4,List.append_assoc]
theorem Lb (env:EL) (n:L8) (v:Rat × Int) (hl:env.length<=1000):aa Tryz.prog 63 [eU env,eT env,dL n,mx v.1 v.2] (.tup [eU (f8 env n v),eT (f8 env n v)]):=by
 have c:=KN (env.map (·.1)) (j4 env) n (decide (v.1.num<0)) (digs v.1.num.natAbs) (decide ((v.1.den:Int)<0)) (digs (v.1.den:Int).natAbs) v.2 (by rw[xU,List.length_map]) (yc env) (by rw[List.length_map];exact hl);rw[show(O7 (decide (v.1.num<0)) (digs v.1.num.natAbs) (decide ((v.1.den:Int)<0)) (digs (v.1.den:Int).natAbs) v.2)=jS v.1 v.2 from rfl,LJ,JY env n v,<- xt,<- xt,List.length_map,<- tw env n v]at c;exact c
def KY:Except Int EL->RV
 | .ok env=> .tup [eU env,eT env,dN .i64 0]
 | .error e=> .tup [.leaf (.sl 0 []), .leaf (.sl 0 []),dN .i64 e]
structure GN (l:Tb):Prop where
 sm:jP l
 len:l.length<=500
 hv:∀n x,Hv l n x->cZ 400 x.1/\jZ x.2=true
theorem lM.fx_of {l:Tb} (hs:jP l) (ho:lM l):I6 l:=fun p hp=>Hn (hs p hp).2.wd (hs p hp).2.lm (ho.ex p hp)
theorem GN.of {l:Tb} (hs:jP l) (hli:Tu l) (h8:l.length<=8) (h0:(bf l).2=0):GN l:=by
 have ho:=(iH (l:=l) (o:=(bf l).1) (by rw[<- h0])).1;exact⟨hs,by omega,fun n x h=>h.ok hli h8 h0 (ho.fx_of hs) (fun p hp=>(hs p hp).2)⟩
theorem Cb {l:Tb} (hs:jP l) (ho:lM l) {p:Pm} (hp:p∈l):qh (ia p.2)/\iA (ia p.2)<=1000000/\rx (ia p.2)=p.2:=by
 have h1:=tK (ho.fx_of hs p hp);refine⟨pT _ (by rw[h1.1];exact(hs p hp).2.lt),?_,h1.1⟩;have h2:=rL (ia p.2);rw[h1.1]at h2;have:=(hs p hp).2.sz;omega
theorem zn {l:Tb} (h:(bf l).2≠0):qc l= .error (bf l).2:=by unfold qc;rw[if_neg h]
theorem i6 (l:Tb) (hs:jP l) (hl:l.length<=500) (hvs:(bf l).2=0->GN l):aa Tryz.prog 37 [bF l] (KY (qc l)):=by
 have co:=gP l hs (by omega)
 by_cases h0:(bf l).2=0
 case neg=>
  rw[zn h0];generalize(bf l).2=z at *;generalize(bf l).1=o at *;refine kV func37 ?_;refine kC (co) ?_;refine iX ?_;refine xl ?_;exact ax
 have hV:=hvs h0;obtain⟨o,ho⟩:∃o,(bf l).1=o:=⟨_,rfl⟩;obtain⟨hok,ht,hn⟩:=iH (l:=l) (o:=o) (by rw[<- ho,<- h0]);have hf:=hok.fx_of hs;have hvv:qc l=jk l o []:=by unfold qc;rw[if_pos h0,ho]
 rw[hvv];rw[h0,ho]at co;obtain⟨R,hR⟩:∃R,jk l o []=R:=⟨_,rfl⟩;rw[hR];clear hvv hvs h0 ho;refine kV func37 ?_;refine kQ (co) ?_;refine aq (Nat × EL) (fun x=>x.1<=o.length/\ta l (o.take x.1) x.2/\x.2.length=x.1/\jk l (o.drop x.1) x.2=R) (fun x=>⟨[(0, .d (bF l)),(5, .d (gM o)),(7, .d (eU x.2)),(8, .d (eT x.2)),(9, .d (dN .i64 x.1))],[]⟩) (fun x=>o.length-x.1) (0,[]) ⟨Nat.zero_le _,by simpa using ta.nil l,rfl,hR⟩ (((kP (q:=7) rfl).tr (kP (q:=8) rfl)).tr kw) ?_;rintro⟨i,env⟩ ⟨hi,hI,hel,hg⟩;dsimp only at hi hI hel hg ⊢;refine kI ?_
 refine kO3 ?_
 by_cases hil:i<o.length
 ·refine kT ?_
  obtain⟨nm,hx⟩:∃x,o[i]? =some x:=⟨o[i],by simp[hil]⟩;obtain⟨p,hp,hpn,hfx,hnd,hdep⟩:=ht.at hok hf hx;obtain⟨k,hk⟩:=List.getElem?_of_mem hp;have hkl:=(List.getElem?_eq_some_iff.1 hk).1;have cf:=gi l nm (by omega);rw[show gt l nm=(k:Nat) by unfold gt;rw[<- hpn,hok.fd hk,if_pos hkl]]at cf;obtain⟨e1,e2,e3⟩:=Cb hs hok hp;have ce:=cC (l:=env) (by omega) (fun x hx=>hV.hv _ _ (hI.hv x hx)) (ia p.2) e1 e2;rw[show dE (ia p.2)=dR p.2 from congrArg dR e3]at ce;rw[show o.drop i=nm::o.drop (i+1) by obtain⟨h,e⟩:=List.getElem?_eq_some_iff.1 hx;rw[List.drop_eq_getElem_cons h,e],jk,hfx]at hg;have hIs:= @ta.step l (o.take i) env hI p (by rw[hpn];exact hnd);have hIh:=fun x=> @ta.has l (o.take i) env hI p hp x hdep
  obtain⟨o1,na1,xs1,nb1,ys1,nm1,n1,cs1,hA,hB⟩:=aM p;have hat:∀(j:Nat) (a:AV),(a6 p.1 o1 na1 xs1 nb1 ys1 nm1 n1 cs1)[j]? =some a->(bR l)[k*8+j]? =some a:=fun j a h=>b6 l k p hk j a (by rw[hB];exact h)
  rw[show dR p.2= .agg (ab o1 na1 xs1 nb1 ys1 nm1 n1 cs1) from congrArg DV.agg hA]at ce;refine qZ ?_;refine Au ?_
  refine kO4 ?_
  refine bB (i:=i) (cs':=[.val (vL nm)]) hil (d4 hx) (Nat.zero_lt_succ 0) rfl rfl rfl rfl rfl rfl rfl rfl ?_;refine kO ?_;refine MA ?_;cases hev:bh (az env) (ia p.2)with
  |error z=>
   have hz:=cW hev;rw[hev]at ce hg;dsimp only at hg;subst hg;refine kQ (ce) ?_;exact IT
  |ok x=>
   rw[hev]at ce hg;dsimp only at hg;have cp:=Lb env nm x (by omega);have hI':=hIs (hIh x hev);rw[hpn,<- bi hx]at hI';refine kQ (ce) ?_;refine kW ?_;refine bB (i:=i) (cs':=[.val (vL nm)]) hil (d4 hx) (Nat.zero_lt_succ 0) rfl rfl rfl rfl rfl rfl rfl rfl ?_
   refine kO2 ?_
   refine kQ (cp) ?_;exact⟨(i+1,f8 env nm x),⟨hil,hI',by rw[tw,hel],hg⟩,by dsimp only;omega,weak ⟨rfl,rfl,rfl,rfl,ae (by dsimp only;omega) (by omega),trivial⟩ trivial rfl⟩
 ·refine kE ?_
  rw[List.drop_of_length_le (by omega),jk]at hg;subst hg;exact ax
noncomputable def J0 (l:Tb) (x:Rx):RV:=if qi x=0 then(match qc l with
 | .ok env=>cP (bh (az env) (ia x))
 | .error e=> .tup [vd,dN .i64 e])else .tup [vd,dN .i64 (qi x)]
theorem oJ {l:Tb} (hs:jP l) (hV:(bf l).2=0->GN l) {env:EL} (h:qc l= .ok env):fo env/\env.length<=1000000/\ ∀x∈env,cZ 400 x.2.1/\jZ x.2.2=true:=by
 obtain⟨h1,h2,h3,_,h5,h6⟩:=pV (fun h=>h.fx_of hs) h;have hv:=hV h2;exact⟨h3,by have:=hv.len;omega,fun x hx=>hv.hv _ _ (h5 x hx)⟩
theorem Db {x:Rx} (hx:pe x) (h0:qi x=0):qh (ia x)/\iA (ia x)<=1000000/\rx (ia x)=x:=by
 have h1:=tK (Hn hx.wd hx.lm h0);refine⟨pT _ (by rw[h1.1];exact hx.lt),?_,h1.1⟩;have h2:=rL (ia x);rw[h1.1]at h2;have:=hx.sz;omega
theorem Ce {l:Tb} {e:Int} (h:qc l= .error e):e≠0:=by
 unfold qc at h
 split at h
 ·exact yL h
 ·rename_i h0;cases h;exact h0
theorem Am (l:Tb) (x:Rx) (hs:jP l) (hx:pe x) (hl:l.length<=500) (hvs:(bf l).2=0->GN l):aa Tryz.prog 33 [bF l,dR x] (J0 l x):=by
 have c1:=nI x hx.wd hx.lm (by have:=hx.sz;omega);have c2:=i6 l hs hl hvs;have he:= @oJ l hs hvs;have hee:= @Ce l;have hxo:=Db hx;unfold J0;generalize qi x=vx at *;generalize qc l=vv at *
 have c3:vx=0-> ∀env,vv= .ok env->aa Tryz.prog 39 [dR x,eU env,eT env] (cP (bh (az env) (ia x))):=fun h0 env henv=>by
  obtain⟨_,h2,h3⟩:=he henv;obtain⟨h4,h5,h6⟩:=hxo h0;have:=cC (l:=env) h2 h3 (ia x) h4 h5
  rwa[show dE (ia x)=dR x from congrArg dR h6]at this
 clear he hxo;generalize ia x=ex at *;obtain⟨o1,na1,xs1,nb1,ys1,nm1,n1,cs1,hA⟩:=bz x;rw[show dR x= .agg (ab o1 na1 xs1 nb1 ys1 nm1 n1 cs1) from congrArg DV.agg hA]at *
 by_cases h0:vx=0
 case neg=>
  rw[if_neg h0];refine kV func33 ?_;refine kC (c1) ?_;refine iX ?_;refine xl ?_;exact ax
 rw[if_pos h0];rw[h0]at c1;cases vv with
 |error e=>
  have hne:=hee rfl;refine kU func33 ?_;exact Ou
 |ok env=>
  have c3:=c3 h0 env rfl;dsimp only;cases hev:bh (az env) ex with
  |error z=>
   rw[hev]at c3;refine kU func33 ?_;exact Fc
  |ok y=>
   rw[hev]at c3;refine kU func33 ?_;exact Fc
end Go.Proofs.YtmkggcjajcdlcaaGreatDoor
