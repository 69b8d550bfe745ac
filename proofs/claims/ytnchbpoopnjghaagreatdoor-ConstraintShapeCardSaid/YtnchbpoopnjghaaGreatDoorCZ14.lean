/- Parts of a proof: contracts of the functions that the laws reach. -/
import Derived.Test.YtnchbpoopnjghaaGreatDoorCZ13
set_option maxHeartbeats 100000000
set_option linter.all false
open Go.Proofs.Tryz
namespace Go.Proofs.YtnchbpoopnjghaaGreatDoor
open Go.RowKit
def I0 (a b:Cn):Bool:=decide (a.k=b.k) && (decide (a.s=b.s) && (decide (a.ps=b.ps) && (decide (a.cs=b.cs) && (decide (a.vs.length=b.vs.length) && jI a.vs b.vs))))
theorem tZ {xs ys:List Int} (hl:xs.length<=1000000):aa Tryz.prog 74 [oX xs,oX ys] (.one (dB (decide (xs=ys)))):=by
 by_cases hxy:xs.length=ys.length
 ·obtain⟨b,hb⟩:∃b,decide (xs=ys)=b:=⟨_,rfl⟩
  rw[hb];refine kU func74 ?_;refine gm ?_;refine AW ?_;refine ax Nat (fun j=>j<=xs.length/\ ∀i,i<j->xs[i]? =ys[i]?) (fun j=>⟨[(0, .d (oX xs)),(1, .d (oX ys)),(4, .d (dB false)),(12, .d (dN .i64 xs.length)),(13, .d (dN .i64 j))],[]⟩) (fun j=>xs.length-j) 0 ⟨Nat.zero_le _,fun i h=>absurd h (Nat.not_lt_zero _)⟩ kw ?_;rintro j ⟨hj,hall⟩;refine kI ?_
  by_cases hlt:j<xs.length
  ·refine kT ?_
   have hlt':j<ys.length:=by omega
   refine RH ?_
   by_cases he:xs[j]=ys[j]
   ·exact P5
   ·exact L7
  ·exact HG
 ·rw[decide_eq_false (fun e=>hxy (by rw[e]))]
  refine kU func74 ?_;refine gm ?_;refine oZ ?_;exact ar
theorem oR {xs ys:List Int} (hl:xs.length<=1000000):aa Tryz.prog 69 [oX xs,oX ys] (.one (dB (decide (xs=ys)))):=by
 by_cases hxy:xs.length=ys.length
 ·obtain⟨b,hb⟩:∃b,decide (xs=ys)=b:=⟨_,rfl⟩
  rw[hb];refine kU func69 ?_;refine gm ?_;refine AW ?_;refine ax Nat (fun j=>j<=xs.length/\ ∀i,i<j->xs[i]? =ys[i]?) (fun j=>⟨[(0, .d (oX xs)),(1, .d (oX ys)),(5, .d (dN .i64 j))],[]⟩) (fun j=>xs.length-j) 0 ⟨Nat.zero_le _,fun i h=>absurd h (Nat.not_lt_zero _)⟩ kw ?_;rintro j ⟨hj,hall⟩;refine kI ?_
  refine kO3 ?_
  by_cases hlt:j<xs.length
  ·refine kT ?_
   have hlt':j<ys.length:=by omega
   refine RH ?_
   by_cases he:xs[j]=ys[j]
   ·refine kB false ?_ ?_
    ·exact(by simp[he])
    refine kW ?_;refine⟨j+1,⟨hlt,fun i hi=>?_⟩,by omega,weak ⟨rfl,rfl,aA (by omega) (by omega),trivial⟩ trivial rfl⟩;exact F1
   ·exact L7
  ·exact HG
 ·rw[decide_eq_false (fun e=>hxy (by rw[e]))]
  refine kU func69 ?_;refine gm ?_;refine oZ ?_;exact ar
theorem p7 (a b:Cn) (h1:a.ps.length<=1000000) (h2:a.cs.length<=1000000) (h3:a.vs.length<=1000000) (hv:∀x∈a.vs,∀y∈b.vs,aa Tryz.prog 76 [dR x,dR y] (.one (dB (vV x y)))):aa Tryz.prog 34 [dC a,dC b] (.one (dB (I0 a b))):=by
 obtain⟨k,ps,cs,vs,s⟩:=a;obtain⟨k',ps',cs',vs',s'⟩:=b;have cP:=tZ (ys:=ps') h1;have cQ:=tZ (ys:=cs') h2;have cV:=mo (fid:=76) vs vs' hv h3;unfold I0;dsimp only at *;show aa Tryz.prog _ [.agg (cC k ps cs vs s), .agg (cC k' ps' cs' vs' s')] _;generalize(decide (vs.length=vs'.length) && jI vs vs')=V at *;generalize decide (ps=ps')=A at *;generalize decide (cs=cs')=B at *
 by_cases e1:k=k'
 rotate_left
 ·rw[decide_eq_false e1]
  refine kU func34 ?_;refine gm ?_;refine kB false ?_ ?_
  ·exact(by simp[e1])
  exact ar
 by_cases e2:s=s'
 rotate_left
 ·rw[decide_eq_true e1,decide_eq_false e2]
  refine kU func34 ?_;refine gm ?_;refine NT ?_;refine kB false ?_ ?_
  ·exact(by simp[e2])
  exact ar
 rw[decide_eq_true e1,decide_eq_true e2];cases A
 ·refine Ge ?_
  exact ar
 cases B
 ·refine Ge ?_
  refine kW ?_;refine kC (cQ) ?_;exact ar
 ·refine Ge ?_
  refine kW ?_;refine kQ (cQ) ?_;refine kC (cV) ?_;exact ar
theorem uI (a b:Cn) (h1:a.ps.length<=1000000) (h2:a.cs.length<=1000000) (h3:a.vs.length<=1000000) (hv:∀x∈a.vs,∀y∈b.vs,aa Tryz.prog 70 [dR x,dR y] (.one (dB (vV x y)))):aa Tryz.prog 28 [dC a,dC b] (.one (dB (I0 a b))):=by
 obtain⟨k,ps,cs,vs,s⟩:=a;obtain⟨k',ps',cs',vs',s'⟩:=b;have cP:=oR (ys:=ps') h1;have cQ:=oR (ys:=cs') h2;have hall:=j7 vs vs';obtain⟨z,hz⟩:∃z,I0 ⟨k,ps,cs,vs,s⟩ ⟨k',ps',cs',vs',s'⟩=z:=⟨_,rfl⟩;rw[hz];unfold I0 at hz;dsimp only at *;show aa Tryz.prog _ [.agg (cC k ps cs vs s), .agg (cC k' ps' cs' vs' s')] _;generalize decide (ps=ps')=A at *;generalize decide (cs=cs')=B at *;refine kU func28 ?_;refine kR ?_;refine kI ?_
 refine kO4 ?_
 by_cases e1:k=k'
 rotate_left
 ·refine kB true ?_ ?_
  ·exact(by simp[e1])
  refine SW ?_;exact congrArg (fun b=>RV.one (dB b)) (by rw[<- hz,decide_eq_false e1];rfl)
 refine kB false ?_ ?_
 ·exact(by simp[e1])
 refine kO5 ?_
 by_cases e2:s=s'
 rotate_left
 ·refine kB true ?_ ?_
  ·exact(by simp[e2])
  refine SW ?_;exact congrArg (fun b=>RV.one (dB b)) (by rw[<- hz,decide_eq_false e2];simp)
 refine kB false ?_ ?_
 ·exact(by simp[e2])
 iterate 6 refine kO ?_
 refine kC (cP) ?_;cases A
 ·refine SW ?_
  exact congrArg (fun b=>RV.one (dB b)) (by rw[<- hz];simp)
 iterate 7 refine kO ?_
 refine kC (cQ) ?_;cases B
 ·refine SW ?_
  exact congrArg (fun b=>RV.one (dB b)) (by rw[<- hz];simp)
 iterate 9 refine kO ?_
 rw[decide_eq_true e1,decide_eq_true e2]at hz
 by_cases e3:vs.length=vs'.length
 rotate_left
 ·refine oZ ?_
  refine SW ?_;exact congrArg (fun b=>RV.one (dB b)) (by rw[<- hz,decide_eq_false e3];simp)
 refine kB false ?_ ?_
 ·exact(by simp[e3])
 rw[decide_eq_true e3]at hz;have hall:=hall e3;have hz:jI vs vs'=z:=hz;rw[hz]at hall;clear hz;refine kW ?_;refine ax Nat (fun i=>i<=vs.length/\ ∀(q:Nat) x y,q<i->vs[q]? =some x->vs'[q]? =some y->vV x y=true) (fun i=>⟨[(2, .box 0 0),(3, .box 1 0),(5, .d (dN .i64 i))],[(0,some (cC k ps cs vs s)),(1,some (cC k' ps' cs' vs' s'))]⟩) (fun i=>vs.length-i) 0 ⟨Nat.zero_le _,fun q x y h=>absurd h (Nat.not_lt_zero _)⟩ kw ?_;rintro i ⟨hi,hq⟩;refine kI ?_
 refine kO4 ?_
 by_cases hlt:i<vs.length
 ·refine kT ?_
  have hlt':i<vs'.length:=by omega
  obtain⟨o1,na1,xs1,nb1,ys1,nm1,n1,cs1,hA⟩:=aM vs[i];obtain⟨o2,na2,xs2,nb2,ys2,nm2,n2,cs2,hA2⟩:=aM vs'[i];have hx:vs[i]? =some vs[i]:=by simp[hlt]
  have hy:vs'[i]? =some vs'[i]:=by simp[hlt']
  have hat:∀(j:Nat) (a:AV),(ab o1 na1 xs1 nb1 ys1 nm1 n1 cs1)[j]? =some a->(eE vs)[i*7+j]? =some a:=fun j a h=>eu vs i vs[i] hx j a (by rw[hA];exact h)
  have hat':∀(j:Nat) (a:AV),(ab o2 na2 xs2 nb2 ys2 nm2 n2 cs2)[j]? =some a->(eE vs')[i*7+j]? =some a:=fun j a h=>eu vs' i vs'[i] hy j a (by rw[hA2];exact h)
  have c:=hv vs[i] (List.getElem_mem hlt) vs'[i] (List.getElem_mem hlt');rw[show dR vs[i]= .agg (ab o1 na1 xs1 nb1 ys1 nm1 n1 cs1) from congrArg DV.agg hA,show dR vs'[i]= .agg (ab o2 na2 xs2 nb2 ys2 nm2 n2 cs2) from congrArg DV.agg hA2]at c;refine kG ?_
  refine kO3 ?_
  refine Nu ?_
  refine kO4 ?_
  refine M5 ?_;refine kO ?_;have hw:=fun h=>hall.1 h i _ _ hx hy
  obtain⟨E,hE⟩:∃E,vV vs[i] vs'[i]=E:=⟨_,rfl⟩;rw[hE]at c hw;cases E
  ·refine kC (c) ?_
   refine SW ?_;exact congrArg (fun b=>RV.one (dB b)) (by cases z;rfl;exact hw rfl)
  ·refine kC (c) ?_
   refine kW ?_
   exact⟨i+1,⟨hlt,fun q x y h1 h2 h3=>by
    by_cases e:q=i
    ·subst e;rw[hx]at h2;rw[hy]at h3;cases h2;cases h3;exact hE
    ·exact hq q x y (by omega) h2 h3⟩,by omega,weak ⟨rfl,rfl,aA (by omega) (by omega),trivial⟩ ⟨rfl,rfl,trivial⟩ rfl⟩
 ·have hB:z=true:=hall.2 fun q x y h2 h3=>hq q x y (by have:=(List.getElem?_eq_some_iff.1 h2).1;omega) h2 h3
  refine kE ?_;refine SW ?_;exact congrArg (fun b=>RV.one (dB b)) hB.symm
def T0 (k:Int):Bool:=decide (1<=k) && (decide (k<=17) && (!decide (k=1) && (!decide (k=11) && !decide (k=12))))
theorem TK (k:Int):aa Tryz.prog 32 [dN .i64 k] (.one (dB (T0 k))):=by
 obtain⟨z,hz⟩:∃z,T0 k=z:=⟨_,rfl⟩;rw[hz];unfold T0 at hz;refine kU func32 ?_;refine kR ?_;refine kI ?_;refine kO ?_
 by_cases h1:1<=k
 rotate_left
 ·refine kE ?_
  refine SW ?_;exact congrArg (fun b=>RV.one (dB b)) (by rw[<- hz,decide_eq_false h1];rfl)
 refine kT ?_
 refine kO2 ?_
 by_cases h2:k<=17
 rotate_left
 ·refine kE ?_
  refine SW ?_;exact congrArg (fun b=>RV.one (dB b)) (by rw[<- hz,decide_eq_false h2];simp)
 refine kT ?_
 refine kO3 ?_
 by_cases h3:k=1
 ·exact Mw
 refine kB true ?_ ?_
 ·exact(by simp[h3])
 refine kO3 ?_
 by_cases h4:k=11
 ·exact L4
 refine kB true ?_ ?_
 ·exact(by simp[h4])
 refine kO3 ?_
 by_cases h5:k=12
 ·refine Nd ?_
  exact congrArg (fun b=>RV.one (dB b)) (by rw[<- hz];simp[h5])
 refine kB true ?_ ?_
 ·exact(by simp[h5])
 refine kW ?_;refine dx (T:=TT) rfl ?_;exact congrArg (fun b=>RV.one (dB b)) (by rw[<- hz];simp[h1,h2,h3,h4,h5])
theorem TJ (k:Int):aa Tryz.prog 33 [dN .i64 k] (.one (dB (T0 k))):=by
 have cO:=TL k;obtain⟨z,hz⟩:∃z,T0 k=z:=⟨_,rfl⟩;rw[hz];unfold T0 at hz;cases hk:nh k with
 |none=>
  rw[hk]at cO;have cO:aa Tryz.prog 31 [dN .i64 k] (.tup [.agg T9,dB false]):=cO
  have hn:¬(1<=k/\k<=17):=fun h=>by
   obtain⟨i,rfl⟩:=Int.eq_ofNat_of_zero_le (show 0<=k by omega);obtain⟨r,hr,_⟩:=pB (i:=i) (by omega) (by omega);rw[hr]at hk;cases hk
  refine kV func33 ?_;refine kC (cO) ?_;refine SW ?_
  exact congrArg (fun b=>RV.one (dB b)) (by
   rw[<- hz]
   by_cases h1:1<=k
   ·rw[decide_eq_false (show ¬k<=17 by omega)];simp
   ·rw[decide_eq_false h1];rfl)
 |some r=>
  rw[hk]at cO;obtain⟨h1,h2,_⟩:=xn hk;have cO:aa Tryz.prog 31 [dN .i64 k] (.tup [.agg (QT r),dB true]):=cO;refine kV func33 ?_;refine kC (cO) ?_;refine kG ?_
  refine kO3 ?_
  by_cases h3:k=1
  ·exact Mw
  refine kB true ?_ ?_
  ·exact(by simp[h3])
  refine kO3 ?_
  by_cases h4:k=11
  ·exact L4
  refine kB true ?_ ?_
  ·exact(by simp[h4])
  refine kO3 ?_
  by_cases h5:k=12
  ·refine Nd ?_
   exact congrArg (fun b=>RV.one (dB b)) (by rw[<- hz];simp[h5])
  refine kB true ?_ ?_
  ·exact(by simp[h5])
  refine SW ?_;exact congrArg (fun b=>RV.one (dB b)) (by rw[<- hz];simp[h1,h2,h3,h4,h5])
def Fd (c:Cn):Bool:=c.vs.all (fun x=>decide (rY x 120<=120) && pJ x) && (decide (c.ps.length<=10) && (decide (c.cs.length<=10) && decide (c.vs.length<=4)))
theorem fZ (c:Cn) (hw:Lw c) (h1:c.ps.length<=9223372036854775807) (h2:c.cs.length<=9223372036854775807) (h3:c.vs.length<=9223372036854775807):aa Tryz.prog 16 [dC c] (.one (dB (Fd c))):=by
 have hv:=fun x hx=>uY x (hw.vs x hx)
 obtain⟨z,hz⟩:∃z,Fd c=z:=⟨_,rfl⟩;rw[hz];unfold Fd at hz;obtain⟨k,ps,cs,vs,s⟩:=c;dsimp only at *;show aa Tryz.prog _ [.agg (cC k ps cs vs s)] _;refine kV func16 ?_;refine ax Nat (fun i=>i<=vs.length/\ ∀x∈vs.take i,(decide (rY x 120<=120) && pJ x)=true) (fun i=>⟨[(1, .box 0 0),(3, .d (dN .i64 i))],[(0,some (cC k ps cs vs s))]⟩) (fun i=>vs.length-i) 0 ⟨Nat.zero_le _,by simp⟩ kw ?_;rintro i ⟨hi,hn⟩;refine kI ?_
 refine kO4 ?_
 by_cases hlt:i<vs.length
 ·refine kT ?_
  obtain⟨x,hx⟩:∃x,vs[i]? =some x:=⟨vs[i],by simp[hlt]⟩;have cV:=hv x (List.mem_of_getElem? hx);have hat:=eu vs i x hx;obtain⟨o1,na1,xs1,nb1,ys1,nm1,n1',cs1,hX⟩:=aM x;rw[show dR x= .agg (ab o1 na1 xs1 nb1 ys1 nm1 n1' cs1) from congrArg DV.agg hX]at cV;rw[hX]at hat;obtain⟨E,hE⟩:∃E,(decide (rY x 120<=120) && pJ x)=E:=⟨_,rfl⟩;rw[hE]at cV;refine kG ?_
  refine kO3 ?_
  refine MK ?_;refine kO ?_;cases E
  ·refine kC (cV) ?_
   refine SW ?_;refine congrArg (fun b=>RV.one (dB b)) ?_
   rw[<- hz,show vs.all (fun x=>decide (rY x 120<=120) && pJ x)=false from Bool.eq_false_iff.2 fun h=>by
    have:=List.all_eq_true.1 h x (List.mem_of_getElem? hx);rw[hE]at this;cases this]
   rfl
  ·refine kC (cV) ?_
   refine kW ?_;refine⟨i+1,⟨hlt,?_⟩,by omega,weak ⟨rfl,aA (by omega) (by omega),trivial⟩ ⟨rfl,trivial⟩ rfl⟩;rw[b8 hx];intro y hy;rcases List.mem_append.1 hy with hy|hy
   ·exact hn y hy
   ·rw[List.mem_singleton.1 hy];exact hE
 ·refine kE ?_
  rw[List.take_of_length_le (by omega)]at hn;rw[List.all_eq_true.2 hn,Bool.true_and]at hz;refine kG ?_
  refine kO3 ?_
  by_cases g1:ps.length<=10
  rotate_left
  ·refine kE ?_
   refine SW ?_;exact congrArg (fun b=>RV.one (dB b)) (by rw[<- hz,decide_eq_false g1];rfl)
  refine kT ?_
  refine kO4 ?_
  by_cases g2:cs.length<=10
  rotate_left
  ·refine kE ?_
   refine SW ?_;exact congrArg (fun b=>RV.one (dB b)) (by rw[<- hz,decide_eq_false g2];simp)
  refine kT ?_
  refine kO5 ?_
  by_cases g3:vs.length<=4
  rotate_left
  ·refine kE ?_
   refine SW ?_;exact congrArg (fun b=>RV.one (dB b)) (by rw[<- hz,decide_eq_false g3];simp)
  refine kX ?_;refine dx (T:=TT) rfl ?_;exact congrArg (fun b=>RV.one (dB b)) (by rw[<- hz];simp[g1,g2,g3])
theorem zU {S:Nat->Prop} {w:World} {n:Nat} {cs:List AV} {v:Value} (h:AV.M S w (.sl n cs) v):n<=9223372036854775807:=by
 cases h with
 |emp a b _=>omega
 |sl f a b _ _ _ _=>omega
structure Sc (c:Cn):Prop where
 p:c.ps.length<=9223372036854775807
 q:c.cs.length<=9223372036854775807
 v:c.vs.length<=9223372036854775807
theorem Oj {S:Nat->Prop} {w:World} {c:Cn} {v:Value} (h:DV.M S w (dC c) v):Sc c:=by
 obtain⟨vs,_,hl,hm⟩:=h;have h5:vs.length=5:=hl.symm;have hg:∀i (hi:i<5),vs[i]? =some (vs[i]'(by omega)):=fun i hi=>List.getElem?_eq_getElem _
 exact⟨zU (hm 1 _ _ rfl (hg 1 (by decide))),zU (hm 2 _ _ rfl (hg 2 (by decide))),zU (hm 3 _ _ rfl (hg 3 (by decide)))⟩
theorem BT {P:Program} {f:FuncId} {c:Cn} {ds:List DV} {r:RV} (hent:∀args w,(callFunc f args).run P w= .ok (.enter f args) w) (h:Sc c->aa P f (dC c::ds) r):aa P f (dC c::ds) r:=
 ⟨hent,fun S w vs hS hv=>by
  match vs,hv with
  |v::vs,⟨h1,h2⟩=>exact(h (Oj h1)).calls S w _ hS ⟨h1,h2⟩⟩
theorem Gd {P:Program} {f:FuncId} {c d:Cn} {ds:List DV} {r:RV} (hent:∀args w,(callFunc f args).run P w= .ok (.enter f args) w) (h:Sc c->Sc d->aa P f (dC c::dC d::ds) r):aa P f (dC c::dC d::ds) r:=
 ⟨hent,fun S w vs hS hv=>by
  match vs,hv with
  |v::u::vs,⟨h1,h2,h3⟩=>exact(h (Oj h1) (Oj h2)).calls S w _ hS ⟨h1,h2,h3⟩⟩
structure S2 (c:Cn):Prop where
 p:c.ps.length<=10
 q:c.cs.length<=10
 v:c.vs.length<=4
 x:∀x∈c.vs,DW x
theorem pn {c:Cn} (hw:Lw c) (h:Fd c=true):S2 c:=by
 unfold Fd at h
 simp only[Bool.and_eq_true,decide_eq_true_eq,List.all_eq_true]at h
 obtain⟨h1,h2,h3,h4⟩:=h;exact⟨h2,h3,h4,fun x hx=>⟨hw.vs x hx,(h1 x hx).2,by rw[<- (vS x 120).2.2 (h1 x hx).1];exact(h1 x hx).1⟩⟩
end Go.Proofs.YtnchbpoopnjghaaGreatDoor
