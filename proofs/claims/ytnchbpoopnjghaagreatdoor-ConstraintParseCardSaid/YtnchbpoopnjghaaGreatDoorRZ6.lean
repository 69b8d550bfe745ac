/- Parts of a proof: contracts of the functions that the laws reach. -/
import Derived.Test.YtnchbpoopnjghaaGreatDoorRZ5
set_option maxHeartbeats 100000000
set_option linter.all false
open Go.Proofs.Tryz
namespace Go.Proofs.YtnchbpoopnjghaaGreatDoor
open Go.RowKit
def od:Bool->List UInt8
 |false=>[43,45]
 |true=>[42,47]
def Rq:Bool->List (Value × Value)
 |false=>[(.string ⟨#[43]⟩, .int .i64 4),(.string ⟨#[45]⟩, .int .i64 5)]
 |true=>[(.string ⟨#[42]⟩, .int .i64 6),(.string ⟨#[47]⟩, .int .i64 7)]
def Ip(a b c:UInt8):(0<=Lib.indexByte [a,b] c)↔(c=a∨c=b):=by rw[pW];simp
def By(a c:UInt8):(0<=Lib.indexByte [a] c)↔c=a:=by rw[pW];simp
def Qc(a:Bool)(t:Tk)(r:List Tk):(decide (t.1=4) && AR (od a) t)=(eN a (t::r)).isSome:=by
 obtain⟨k,x,p⟩:=t;by_cases f:k=4
 ·subst f
  match x with
  | []=>cases a<;>rfl
  |c::d::y=>cases a<;>rfl
  | [c]=>
   cases a
   ·show decide (0<=Lib.indexByte [43,45] c)=_;by_cases b:c=43
    ·subst b;rfl
    ·by_cases e:c=45
     ·subst e;rfl
     ·rw[F_ (by rw[Ip];simp[b,e])];simp[eN,mF,b,e]
   ·show decide (0<=Lib.indexByte [42,47] c)=_;by_cases b:c=42
    ·subst b;rfl
    ·by_cases e:c=47
     ·subst e;rfl
     ·rw[F_ (by rw[Ip];simp[b,e])];simp[eN,mF,b,e]
 ·simp[eN,f]
def jF{a:Bool}{t:Tk}{r b:List Tk}{k:B4}(h:eN a (t::r)=some (k,b)):b=r/\t.1=4/\ ∃c,t.2.1=[c]/\Tx ⟨#[c]⟩ (Rq a)=some (.int .i64 k.code):=by
 obtain⟨i,x,p⟩:=t;simp only[eN]at h;split at h
 ·rename_i f;split at h
  ·rename_i g hk;cases h;refine⟨rfl,f,?_⟩
   match x,hk with
   | [],hk=>cases a<;>cases hk
   |c::d::y,hk=>cases a<;>cases hk
   | [c],hk=>
    cases a
    ·exact Qa
    ·exact Qa
  ·cases h
 ·cases h
def wJ(c:UInt8)(t:Tk)(r:List Tk):(decide (t.1=4) && AR [c] t)=(bh c (t::r)).isSome:=by
 obtain⟨k,x,p⟩:=t;by_cases a:k=4
 ·subst a
  match x with
  | []=>simp[AR,bh]
  |b::d::y=>simp[AR,bh]
  | [b]=>
   show decide (0<=Lib.indexByte [c] b)=_;by_cases h:b=c
   ·subst h;rw[T_ ((By b b).2 rfl)];simp[bh]
   ·rw[F_ (by rw[By];exact h)];simp[bh,h]
 ·simp[bh,a]
def jN{c:UInt8}{t:Tk}{r a:List Tk}(h:bh c (t::r)=some a):a=r/\t.1=4:=by
 simp only[bh]at h;split at h
 ·rename_i b;cases h;exact⟨rfl,b.1⟩
 ·cases h
def UN(fid:FuncId)(ts:List Tk)(a:Int)(Y:Rx × List Tk):gG->Prop
 | .ok (e,r)=>ay prog fid [.box 900 0] [(900,fV ts a 0)] (.v (.one (dE e))) [(900,fV r a 0)]/\bX r
 | .error (p,c)=>c≠0/\ay prog fid [.box 900 0] [(900,fV ts a 0)] (.v (.one (dR Y.1))) [(900,fV Y.2 p c)]/\bX Y.2
def FJ{fid:FuncId}{a:Int}{g:List Tk->Option gG}(h:∀b x,bX b->g b=some x->Rd fid b a x):∃Y:List Tk->Rx × List Tk,∀b x,bX b->g b=some x->UN fid b a (Y b) x:=by
 have:∀b:List Tk,∃Y:Rx × List Tk,∀x,bX b->g b=some x->UN fid b a Y x:=fun b=>by
  by_cases e:bX b
  ·cases hg:g b with
   |none=>exact⟨(.mk 0 false [] false [] [] [],[]),fun x _ d=>by cases d⟩
   |some x=>
    have d:=h b x e hg;cases x with
    |ok y=>exact⟨(.mk 0 false [] false [] [] [],[]),fun x _ c=>by cases c;exact d⟩
    |error y=>obtain⟨p,q,i,j,l⟩:=d;exact⟨(q,i),fun x _ c=>by cases c;exact⟨p,j,l⟩⟩
  ·exact⟨(.mk 0 false [] false [] [] [],[]),fun x f=>absurd f e⟩
 obtain⟨Y,m⟩:=Classical.axiomOfChoice this;exact⟨Y,fun b x e d=>m b x e d⟩
noncomputable def gB(a:Bool)(Y:List Tk->Rx × List Tk):Nat->Ex->List Tk->Rx × List Tk
 |0,e,b=>(rx e,b)
 |f+1,e,b=>match eN a b with
  |some (k,r)=>match pP f (ey a) r with
   |some (.ok (c,d))=>gB a Y f (.bin k e c) d
   |_=>(.mk k.code false [] false [] [] [rx e,(Y r).1],(Y r).2)
  |none=>(rx e,b)
inductive LS where
 |run (f:Nat) (e:Ex) (ts:List Tk)
 |bad (y:Rx) (ts:List Tk) (p c:Int)
def LS.c1:LS->List AV
 | .run _ e _=>aE e
 | .bad y _ _ _=>aR y
def LS.c2(a:Int):LS->List AV
 | .run _ _ b=>fV b a 0
 | .bad _ b p c=>fV b p c
def bS(a:Bool)(b:FuncId)(c e:List AV):AS:=⟨[(0, .box 900 0),(1, .d (dL (od a))),(2, .mp (Rq a)),(3, .clo (.func b) [.box 900 0] []),(8, .box 0 0),(9, .box 1002 0)],[(0,some (af 0 false [] false [] [] 0 [])),(1002,some c),(900,some e)]⟩
abbrev QO(a:Bool)(b:FuncId):List TV:=[.box 900 0, .d (dL (od a)), .mp (Rq a), .clo (.func b) [.box 900 0] []]
def VW(f:Bool)(b:FuncId)(ts:List Tk)(a:Int):gG->Prop
 | .ok (e,r)=>ay prog 120 (QO f b) [(900,fV ts a 0)] (.v (.one (dE e))) [(900,fV r a 0)]/\bX r
 | .error (p,c)=>c≠0/\ ∃y d,ay prog 120 (QO f b) [(900,fV ts a 0)] (.v (.one (dR y))) [(900,fV d p c)]/\bX d
def LS.I(d:Bool)(Y:List Tk->Rx × List Tk)(f:Nat)(a:Int)(D:DV)(B:List AV):LS->Prop
 | .run g e b=>bX b/\g<=f/\ ∃h,pP g (.more d e) b=some h/\(match h with
  | .ok (i,j)=>D=dE i/\B=fV j a 0
  | .error (p,c)=>D=dR (gB d Y g e b).1/\B=fV (gB d Y g e b).2 p c)
 | .bad y b p c=>bX b/\c≠0/\D=dR y/\B=fV b p c
def LS.mu:LS->Nat
 | .run f _ _=>f+1
 | .bad _ _ _ _=>0
def oV(k:B4)(e:Ex)(y:Rx):aR (.mk k.code false [] false [] [] [rx e,y])=[.val (.int .i64 k.code)]++pk++[.val (vL []), .sl 2 (aE e++aR y)]:=by show [.val (.int .i64 k.code)]++FH false [] false []++[.val (vL []), .sl 2 (aR (rx e)++(aR y++[]))]=_;rw[c_];rfl
def Pd(b:Bool)(g:FuncId)(f:Nat)(a:Int)(Y:List Tk->Rx × List Tk)(hY:∀ts x,bX ts->pP f (ey b) ts=some x->UN g ts a (Y ts) x)(ts:List Tk)(hT:bX ts){e0:Ex}{O:List Tk}(h0:pP f (ey b) ts=some (.ok (e0,O))){D:DV}{B:List AV}(hB:B.length=3)(hI:LS.I b Y f a D B (.run f e0 O)):ay prog 120 (QO b g) [(900,fV ts a 0)] (.v (.one D)) [(900,B)]:=by
 obtain⟨Z,S⟩:=hY ts _ hT h0;obtain⟨t,r,hr⟩:=S.ne;obtain⟨o1,na1,xs1,nb1,ys1,nm1,n1,cs1,hA⟩:=aM e0;have hE:dE e0= .agg (af o1 na1 xs1 nb1 ys1 nm1 n1 cs1):=congrArg DV.agg hA;rw[hE]at Z;refine aX ah dz func120 rfl rfl rfl rfl rfl ((eL.one (Nat.le_of_eq hB.symm))) ?_;refine kW ?_;refine kZ Z ?_;refine av LS (LS.I b Y f a D B) (fun x=>bS b g x.c1 (x.c2 a)) LS.mu (.run f e0 O) hI (by refine Eq.mpr (congrArg (fun c=>au _ (bS b g c (fV O a 0))) hA) ?_;exact weak ⟨rfl,rfl,rfl,rfl,rfl,rfl,trivial⟩ ⟨rfl,rfl,rfl,trivial⟩ rfl) ?_
 intro x i;cases x with
 |bad y X p c=>obtain⟨L,N,rfl,rfl⟩:=i;obtain⟨t,r,rfl⟩:=L.ne;obtain⟨o1,na1,xs1,nb1,ys1,nm1,n1,cs1,hA⟩:=aJ y;have cis:=r8 (od b) t r p c L.head.1;rw[F_ N,Bool.false_and]at cis;refine Kt ?_;show fT _ _ _ _ _ (bS b g (aR y) (fV (t::r) p c));rw[hA];unfold bS;refine kW ?_;refine kD cis ?_;exact fE
 |run l e X=>
  obtain⟨L,hf,x',i,J⟩:=i;obtain⟨t,r,rfl⟩:=L.ne;obtain⟨o1,na1,xs1,nb1,ys1,nm1,n1,cs1,hA⟩:=aM e;have cis:=r8 (od b) t r a 0 L.head.1;rw[T_ rfl,Bool.true_and,Qc]at cis;show fT _ _ _ _ _ (bS b g (aE e) (fV (t::r) a 0));rw[hA];cases l with
  |zero=>cases i
  |succ l=>
  rw[dl]at i;cases ho:eN b (t::r)with
  |none=>rw[ho]at i cis;cases i;obtain⟨rfl,rfl⟩:=J;refine Iu ?_;have cis:ay prog 169 [.box 900 0, .d (dL (od b))] [(900,fV (t::r) a 0)] (.v (.one (dB false))) [(900,fV (t::r) a 0)]:=cis;unfold bS;refine kW ?_;refine kD cis ?_;exact fE
  |some q=>
   obtain⟨k,r2⟩:=q;obtain⟨rfl,h4,c,N,hl⟩:=jF ho;rw[ho]at i cis;have cis:ay prog 169 [.box 900 0, .d (dL (od b))] [(900,fV (t::r2) a 0)] (.v (.one (dB true))) [(900,fV (t::r2) a 0)]:=cis;have U:bX r2:=L.tail O_;obtain⟨k4,tx,p0⟩:=t;dsimp only at h4 N;subst h4 N;dsimp only at i;cases hy:pP l (ey b) r2 with
   |none=>rw[hy]at i;cases i
   |some y=>
    have cy:=hY r2 y U (hZ O_ hy);rw[hy]at i;cases y with
    |error z=>
     obtain⟨p,c1⟩:=z;cases i;obtain⟨hc1,cy,w⟩:=cy;have R:gB b Y (l+1) e ((4,[c],p0)::r2)=(.mk k.code false [] false [] [] [rx e,(Y r2).1],(Y r2).2):=by rw[gB,ho];dsimp only;rw[hy]
     rw[R]at J;obtain⟨W,A,F,C,G,E,V,u,j⟩:=aJ (Y r2).1;have m:=oV k e (Y r2).1;rw[hA,j]at m;rw[show dR (Y r2).1= .agg (af W A F C G E V u) from congrArg DV.agg j]at cy;generalize ad:(Y r2).2=ts2 at *;unfold bS;refine Bw ?_;refine Pi ?_;refine pD ?_;refine⟨.bad (.mk k.code false [] false [] [] [rx e,(Y r2).1]) ts2 p c1,⟨w,hc1,J.1,J.2⟩,Nat.succ_pos _,?_⟩;refine Eq.mpr (congrArg (fun c=>au _ (bS b g c (fV ts2 p c1))) m) ?_;exact kw
    |ok z=>
     obtain⟨H,Q⟩:=z;obtain⟨cy,w⟩:=cy;have i:pP l (.more b (.bin k e H)) Q=some x':=i;have R:gB b Y (l+1) e ((4,[c],p0)::r2)=gB b Y l (.bin k e H) Q:=by rw[gB,ho];dsimp only;rw[hy]
     rw[R]at J;obtain⟨W,A,F,C,G,E,V,u,j⟩:=aM H;have hbin:=mS k e H;rw[hA,j]at hbin;rw[show dE H= .agg (af W A F C G E V u) from congrArg DV.agg j]at cy;unfold bS;refine Bw ?_;refine Pi ?_;refine pD ?_;refine⟨.run l (.bin k e H) Q,⟨w,by omega,x',i,J⟩,by show l+1<l+1+1;omega,?_⟩;refine Eq.mpr (congrArg (fun c=>au _ (bS b g c (fV Q a 0))) hbin) ?_;exact kw
def Gt{b:Bool}{i:FuncId}{f:Nat}{a:Int}{Y:List Tk->Rx × List Tk}(p:∀c x,bX c->pP f (ey b) c=some x->UN i c a (Y c) x):∀(f':Nat)(e:Ex)(c:List Tk)(g:Ex)(d:List Tk),f'<=f->bX c->pP f' (.more b e) c=some (.ok (g,d))->bX d
 |0,_,_,_,_,_,_,h=>by cases h
 |f'+1,e,c,g,d,w,j,h=>by
  rw[dl]at h;obtain⟨t,r,rfl⟩:=j.ne;cases ho:eN b (t::r)with
  |none=>rw[ho]at h;cases h;exact j
  |some q=>
   obtain⟨k,m⟩:=q;obtain⟨rfl,v,_⟩:=jF ho;have l:bX m:=j.tail O_;rw[ho]at h;dsimp only at h ⊢;cases hy:pP f' (ey b) m with
   |none=>rw[hy]at h;cases h
   |some y=>
    have u:=p m y l (hZ O_ hy);rw[hy]at h;cases y with
    |error z=>cases h
    |ok z=>exact Gt p f' _ _ g d O_ u.2 h
def CX{b:Bool}{i:FuncId}{f:Nat}{a:Int}{Y:List Tk->Rx × List Tk}(m:∀d x,bX d->pP f (ey b) d=some x->UN i d a (Y d) x):∀(f':Nat)(e:Ex)(d:List Tk)(p:Nat)(c:Int),f'<=f->bX d->pP f' (.more b e) d=some (.error (p,c))->c≠0/\bX (gB b Y f' e d).2
 |0,_,_,_,_,_,_,h=>by cases h
 |f'+1,e,d,p,c,w,u,h=>by
  rw[dl]at h;rw[gB];obtain⟨t,r,rfl⟩:=u.ne;cases ho:eN b (t::r)with
  |none=>rw[ho]at h;cases h
  |some q=>
   obtain⟨k,l⟩:=q;obtain⟨rfl,v,_⟩:=jF ho;have j:bX l:=u.tail O_;rw[ho]at h;dsimp only at h ⊢;cases hy:pP f' (ey b) l with
   |none=>rw[hy]at h;cases h
   |some y=>
    have g:=m l y j (hZ O_ hy);rw[hy]at h;cases y with
    |error z=>cases h;exact⟨g.1,g.2.2⟩
    |ok z=>exact CX m f' _ _ p c O_ g.2 h
def vJ(b:Bool)(d:FuncId)(f:Nat)(a:Int)(hop:∀ts x,bX ts->pP f (ey b) ts=some x->Rd d ts a x)(ts:List Tk)(x:gG)(G:bX ts)(g:(match pP f (ey b) ts with
  |some (.ok (e,r))=>pP f (.more b e) r
  |y=>y)=some x):VW b d ts a x:=by
 obtain⟨Y,m⟩:=FJ hop;cases h0:pP f (ey b) ts with
 |none=>rw[h0]at g;cases g
 |some L=>
  rw[h0]at g;have i:=m ts L G h0;cases L with
  |error z=>cases g;obtain⟨p,c⟩:=z;obtain⟨F,i,u⟩:=i;refine⟨F,(Y ts).1,(Y ts).2,?_,u⟩;generalize(Y ts).1=y at *;generalize(Y ts).2=ts' at *;obtain⟨t,r,rfl⟩:=u.ne;obtain⟨I,v,D,A,E,C,H,l,O⟩:=aJ y;rw[show dR y= .agg (af I v D A E C H l) from congrArg DV.agg O]at i ⊢;have j:=r8 (od b) t r p c u.head.1;rw[F_ F,Bool.false_and]at j;refine aX ah dz func120 rfl rfl rfl rfl rfl ic ?_;refine kW ?_;refine kZ i ?_;refine av Unit (fun _=>True) (fun _=>bS b d (af I v D A E C H l) (fV (t::r) p c)) (fun _=>0) () trivial kw ?_;rintro _ _;unfold bS;refine kW ?_;refine kD j ?_;exact fE
  |ok z=>
   obtain⟨e,r⟩:=z;have g:pP f (.more b e) r=some x:=g;cases x with
   |ok w=>obtain⟨N,J⟩:=w;exact⟨Pd b d f a Y m ts G h0 (B:=fV J a 0) rfl ⟨i.2,l_ _,_,g,rfl,rfl⟩,Gt m f e r N J (l_ _) i.2 g⟩
   |error w=>obtain⟨p,c⟩:=w;obtain⟨F,u⟩:=CX m f e r p c (l_ _) i.2 g;exact⟨F,_,_,Pd b d f a Y m ts G h0 (B:=fV _ p c) rfl ⟨i.2,l_ _,_,g,rfl,rfl⟩,u⟩
structure UA (f:Nat) (a:Int):Prop where
 sum:∀ts x,bX ts->pP f .sum ts=some x->Rd 78 ts a x
 prod:∀ts x,bX ts->pP f .prod ts=some x->Rd 121 ts a x
 un:∀ts x,bX ts->pP f .un ts=some x->Rd 171 ts a x
 prim:∀ts x,bX ts->pP f .prim ts=some x->Rd 229 ts a x
def QD{f:Nat}{a:Int}(D:∀ts x,bX ts->pP f .prod ts=some x->Rd 121 ts a x)(ts:List Tk)(x:gG)(B:bX ts)(A:pP (f+1) .sum ts=some x):Rd 78 ts a x:=by
 have h:=vJ false 121 f a D ts x B (by rw[jE]at A;exact A);cases x with
 |ok z=>obtain⟨e,r⟩:=z;obtain⟨h,t⟩:=h;refine⟨?_,t⟩;obtain⟨v,d,j,g,l,i,u,b,m⟩:=aM e;rw[show dE e= .agg (af v d j g l i u b) from congrArg DV.agg m]at h ⊢;exact Qh
 |error z=>obtain⟨p,c⟩:=z;obtain⟨C,y,w,h,t⟩:=h;refine⟨C,y,w,?_,t⟩;obtain⟨v,d,j,g,l,i,u,b,m⟩:=aJ y;rw[show dR y= .agg (af v d j g l i u b) from congrArg DV.agg m]at h ⊢;exact Qh
def Lt{f:Nat}{a:Int}(D:∀ts x,bX ts->pP f .un ts=some x->Rd 171 ts a x)(ts:List Tk)(x:gG)(B:bX ts)(A:pP (f+1) .prod ts=some x):Rd 121 ts a x:=by
 have h:=vJ true 171 f a D ts x B (by rw[gK]at A;exact A);cases x with
 |ok z=>obtain⟨e,r⟩:=z;obtain⟨h,t⟩:=h;refine⟨?_,t⟩;obtain⟨v,d,j,g,l,i,u,b,m⟩:=aM e;rw[show dE e= .agg (af v d j g l i u b) from congrArg DV.agg m]at h ⊢;exact PJ
 |error z=>obtain⟨p,c⟩:=z;obtain⟨C,y,w,h,t⟩:=h;refine⟨C,y,w,?_,t⟩;obtain⟨v,d,j,g,l,i,u,b,m⟩:=aJ y;rw[show dR y= .agg (af v d j g l i u b) from congrArg DV.agg m]at h ⊢;exact PJ
def Gj(y:Rx):aR (.mk 3 false [] false [] [] [y])=[.val (.int .i64 3)]++pk++[.val (vL []), .sl 1 (aR y)]:=by show [.val (.int .i64 3)]++FH false [] false []++[.val (vL []), .sl 1 (aR y++[])]=_;rw[c_];rfl
def TI{f:Nat}{a:Int}(H:∀ts x,bX ts->pP f .un ts=some x->Rd 171 ts a x)(G:∀ts x,bX ts->pP f .prim ts=some x->Rd 229 ts a x)(ts:List Tk)(x:gG)(D:bX ts)(w:pP (f+1) .un ts=some x):Rd 171 ts a x:=by
 obtain⟨t,r,rfl⟩:=D.ne;rw[i8]at w;have cis:=r8 [45] t r a 0 D.head.1;rw[T_ rfl,Bool.true_and,wJ]at cis;cases hs:bh 45 (t::r)with
 |some r2=>
  obtain⟨rfl,J⟩:=jN hs;rw[hs]at w cis;have cis:ay prog 169 [.box 900 0, .d (dL [45])] [(900,fV (t::r2) a 0)] (.v (.one (dB true))) [(900,fV (t::r2) a 0)]:=cis;have F:bX r2:=D.tail O_;dsimp only at w;cases hy:pP f .un r2 with
  |none=>rw[hy]at w;cases w
  |some y=>
   have cy:=H r2 y F hy;rw[hy]at w;cases y with
   |ok z=>obtain⟨e,I⟩:=z;cases w;obtain⟨cy,g⟩:=cy;refine⟨?_,g⟩;obtain⟨B,i,m,j,u,l,A,b,hA⟩:=aM e;refine PQ ?_;rw[show dE e= .agg (af B i m j u l A b) from congrArg DV.agg hA]at cy;exact Ol
   |error z=>cases w;obtain⟨p,c⟩:=z;obtain⟨E,y,C,cy,g⟩:=cy;refine⟨E, .mk 3 false [] false [] [] [y],C,?_,g⟩;obtain⟨B,i,m,j,u,l,A,b,hA⟩:=aJ y;refine Qg ?_;rw[show dR y= .agg (af B i m j u l A b) from congrArg DV.agg hA]at cy;exact Ol
 |none=>
  rw[hs]at w cis;have cis:ay prog 169 [.box 900 0, .d (dL [45])] [(900,fV (t::r) a 0)] (.v (.one (dB false))) [(900,fV (t::r) a 0)]:=cis;have cy:=G (t::r) x D w;cases x with
  |ok z=>obtain⟨e,I⟩:=z;obtain⟨cy,g⟩:=cy;refine⟨?_,g⟩;obtain⟨B,i,m,j,u,l,A,b,hA⟩:=aM e;rw[show dE e= .agg (af B i m j u l A b) from congrArg DV.agg hA]at cy ⊢;refine JU ?_;exact Dq
  |error z=>obtain⟨p,c⟩:=z;obtain⟨E,y,C,cy,g⟩:=cy;refine⟨E,y,C,?_,g⟩;obtain⟨B,i,m,j,u,l,A,b,hA⟩:=aJ y;rw[show dR y= .agg (af B i m j u l A b) from congrArg DV.agg hA]at cy ⊢;refine JU ?_;exact Dq
def z7:Rx:= .mk 0 false [] false [] [] []
def Ni{f:Nat}{a:Int}(E:∀ts x,bX ts->pP f .sum ts=some x->Rd 78 ts a x)(ts:List Tk)(x:gG)(i:bX ts)(g:pP (f+1) .prim ts=some x):Rd 229 ts a x:=by
 obtain⟨t,r,rfl⟩:=i.ne;rw[eP]at g;have cis:=r8 [40] t r a 0 i.head.1;rw[T_ rfl,Bool.true_and,wJ]at cis;cases hs:bh 40 (t::r)with
 |some r2=>
  obtain⟨rfl,G⟩:=jN hs;rw[hs]at g cis;have cis:ay prog 169 [.box 900 0, .d (dL [40])] [(900,fV (t::r2) a 0)] (.v (.one (dB true))) [(900,fV (t::r2) a 0)]:=cis;have A:bX r2:=i.tail O_;dsimp only at g;cases hy:pP f .sum r2 with
  |none=>rw[hy]at g;cases g
  |some y=>
   have cy:=E r2 y A hy;rw[hy]at g;cases y with
   |error z=>cases g;obtain⟨p,c⟩:=z;obtain⟨l,y,j,cy,b⟩:=cy;refine⟨l,z7,j,?_,b⟩;obtain⟨u,r4,rfl⟩:=b.ne;obtain⟨o1,na1,xs1,nb1,ys1,nm1,n1,cs1,hA⟩:=aJ y;rw[show dR y= .agg (af o1 na1 xs1 nb1 ys1 nm1 n1 cs1) from congrArg DV.agg hA]at cy;have cis2:=r8 [41] u r4 p c b.head.1;rw[F_ l,Bool.false_and]at cis2;refine JG ?_;refine kD (tz u r4 p c 2 l) ?_;exact fE
   |ok z=>
    obtain⟨e,F⟩:=z;obtain⟨cy,b⟩:=cy;obtain⟨u,r4,rfl⟩:=b.ne;obtain⟨o1,na1,xs1,nb1,ys1,nm1,n1,cs1,hA⟩:=aM e;rw[show dE e= .agg (af o1 na1 xs1 nb1 ys1 nm1 n1 cs1) from congrArg DV.agg hA]at cy;have cis2:=r8 [41] u r4 a 0 b.head.1;rw[T_ rfl,Bool.true_and,wJ]at cis2;dsimp only at g;cases hs2:bh 41 (u::r4)with
    |some B=>obtain⟨rfl,D⟩:=jN hs2;rw[hs2]at g cis2;cases g;refine⟨?_,b.tail O_⟩;refine Iu ?_;have cis2:ay prog 169 [.box 900 0, .d (dL [41])] [(900,fV (u::B) a 0)] (.v (.one (dB true))) [(900,fV (u::B) a 0)]:=cis2;refine JG ?_;refine kD (jY u B a 0) ?_;exact fE
    |none=>rw[hs2]at g cis2;cases g;refine⟨by decide,z7,u::r4,?_,b⟩;have cis2:ay prog 169 [.box 900 0, .d (dL [41])] [(900,fV (u::r4) a 0)] (.v (.one (dB false))) [(900,fV (u::r4) a 0)]:=cis2;refine JG ?_;refine kD (i7 u r4 a 2) ?_;exact fE
 |none=>
  rw[hs]at g cis;dsimp only at g;have cis:ay prog 169 [.box 900 0, .d (dL [40])] [(900,fV (t::r) a 0)] (.v (.one (dB false))) [(900,fV (t::r) a 0)]:=cis;by_cases w:t.1=2
  ·rw[if_pos w]at g;cases g;obtain⟨u,r4,rfl⟩:=(i.tail O_).ne;have m:=E6 t u r4 a w i;cases hP:fg t (u::r4)with
   |ok z=>obtain⟨e,F⟩:=z;rw[hP]at m;obtain⟨cy,b⟩:=m;refine⟨?_,b⟩;obtain⟨o1,na1,xs1,nb1,ys1,nm1,n1,cs1,hA⟩:=aM e;rw[show dE e= .agg (af o1 na1 xs1 nb1 ys1 nm1 n1 cs1) from congrArg DV.agg hA]at cy ⊢;exact Ob
   |error z=>obtain⟨p,c⟩:=z;rw[hP]at m;obtain⟨l,y,j,cy,b⟩:=m;refine⟨l,y,j,?_,b⟩;obtain⟨o1,na1,xs1,nb1,ys1,nm1,n1,cs1,hA⟩:=aJ y;rw[show dR y= .agg (af o1 na1 xs1 nb1 ys1 nm1 n1 cs1) from congrArg DV.agg hA]at cy ⊢;exact Ob
  ·rw[if_neg w]at g;by_cases C:t.1=1
   ·rw[if_pos C]at g;cases g;refine⟨?_,i.tail O_⟩;refine LO ?_;refine kD (cH t r a 0) ?_;refine tn ?_;refine kD (cH t r a 0) ?_;refine Aa ?_;refine kD (jY t r a 0) ?_;exact fE
   ·rw[if_neg C]at g;cases g;refine⟨by decide,z7,t::r,?_,i⟩;refine LO ?_;refine kD (cH t r a 0) ?_;refine tn ?_;refine kD (cH t r a 0) ?_;refine tn ?_;refine kZ cis ?_;refine kD (i7 t r a 2) ?_;exact fE
def Bj(a:Int):∀f,UA f a
 |0=>⟨fun _ _ _ h=>(by cases h),fun _ _ _ h=>(by cases h),fun _ _ _ h=>(by cases h),fun _ _ _ h=>(by cases h)⟩
 |f+1=>by have e:=Bj a f;exact⟨fun d x b c=>QD e.prod d x b c,fun d x b c=>Lt e.un d x b c,fun d x b c=>TI e.un e.prim d x b c,fun d x b c=>Ni e.sum d x b c⟩
def Sn(o:List UInt8):List AV:=o.map fun c=>AV.val (.int .u8 c.toNat)
def qS(s:List UInt8)(p:Nat)(x:Nat × List UInt8):AS:=⟨[(0, .d (dL s)),(1, .d (dN .i64 p)),(4, .d (dN .i64 0)),(5, .d (dL [])),(6, .own 700 x.2.length 1 5),(7, .d (dN .i64 x.1))],[(700,some (Sn x.2))]⟩
def qT(s:List UInt8)(p i:Nat)(o:List UInt8)(x:UInt8):AS:=⟨[(0, .d (dL s)),(1, .d (dN .i64 p)),(4, .d (dN .i64 0)),(5, .d (dL [])),(6, .own 19003 (o.length+1) 1 5),(7, .d (dN .i64 i))],[(19003,some ((Sn o).take (o.length*1)++[.val (.int .u8 x.toNat)]))]⟩
def R6(s:List UInt8)(p i:Nat)(o:List UInt8)(x:UInt8):au (qT s p i o x) (qS s p (i,o++[x])):=by
 have e:Sn (o++[x])=(Sn o).take (o.length*1)++[.val (.int .u8 x.toNat)]:=by rw[K_ (by simp[Sn])];simp[Sn]
 unfold qS;rw[show(i,o++[x]).2=o++[x] from rfl,e,L_];exact(a8 (q:=6) (j:=19003) (j':=700) (m:=o.length+1) (k:=1) (e:=5) rfl rfl rfl rfl).trans kw
def xA(d:UInt8):Lib.indexByte [34,92,110] d<0↔ ¬(d=34∨d=92∨d=110):=by
 have:=pW [34,92,110] d;constructor
 ·intro h b;have:=this.2 (by simpa using b);omega
 ·intro h;by_cases a:0<=Lib.indexByte [34,92,110] d
  ·exact absurd (by simpa using this.1 a) h
  ·omega
def uP(s:List UInt8)(p:Nat)(c0:UInt8)(hp:s[p]? =some c0)(hl:s.length<=65536):
 ∃t,aa prog 160 [dL s,dN .i64 p] (.tup [dN .i64 ((if c0=34 then p+nH (s.drop p)else p:Nat)),dL t]):=by
 have Y:=an s;have H:=(G_.1 hp).1;by_cases w:c0=34
 ·have G:c0.toNat=34:=by rw[w];rfl
  refine⟨j8 (s.drop (p+1)) [],?_⟩;rw[if_pos w,nH,List.drop_drop];generalize U:ez (s.drop (p+1)) 1=E;generalize V:j8 (s.drop (p+1)) []=X;refine OD ?_;refine l6 ?_;refine kG ?_;refine kO ?_;refine kJ ((p+1:Nat)) ?_;refine kW ?_;refine av (Nat × List UInt8) (fun x=>p+1<=x.1/\x.1<=s.length/\x.2.length<=x.1/\ez (s.drop x.1) (x.1-p)=E/\j8 (s.drop x.1) x.2=X) (qS s p) (fun x=>s.length-x.1) (p+1,[]) ⟨l_ _,H,Nat.zero_le _,by rw[show p+1-p=1 by omega];exact U,V⟩
   kw ?_
  rintro⟨i,o⟩ ⟨Q,R,S,h4,h5⟩;dsimp only at Q R S h4 h5;unfold qS;dsimp only;refine kI ?_;refine kO3 ?_;by_cases C:i<s.length
  ·have hx:s[i]? =some s[i]:=by simp[C]
   have z:=List.drop_eq_getElem_cons C;generalize Z:s[i]=c at *;rw[z]at h4 h5;refine yg ?_;refine Pf ?_;refine kG ?_;refine kO ?_;by_cases f:c.toNat<32
   ·have D:c≠34:=fun e=>by rw[e]at f;exact absurd f D_
    rw[tc D f]at h4;rw[Kn D f]at h5;refine kT ?_;rw[<- h4,<- h5];exact am
   ·refine kE ?_;refine kG ?_;refine kO ?_;by_cases F:c=34
    ·have O:c.toNat=34:=by rw[F];rfl
     subst F;rw[pL]at h4;rw[Rt]at h5;refine kT ?_;repeat(first|refine .done ?_|refine bH (T:=TT) ?_|refine bR (T:=TT) ?_|refine eG (T:=TT) rfl ?_)
     refine iU (ep (q:=6) (j:=700) rfl rfl) rfl ?_;refine kO ?_;refine kJ ((p+E:Nat)) ?_;refine kO ?_;cases o with
     |nil=>refine R2 ah rfl rfl rfl rfl rfl rfl rfl rfl rfl rfl rfl ?_;rw[<- h5];exact am
     |cons a r=>refine O0 ah (l:=a::r) rfl S_ rfl rfl rfl rfl rfl rfl rfl rfl rfl rfl rfl ?_;rw[<- h5];exact am
    ·have O:¬c.toNat=34:=dU F;refine kE ?_;refine kG ?_;refine kO ?_;by_cases A:c=92
     ·have N:c.toNat=92:=by rw[A];rfl
      subst A;refine kT ?_;refine yK ?_;refine kG ?_;refine kO3 ?_;by_cases B:i+1=s.length
      ·rw[List.drop_eq_nil_of_le (Nat.le_of_eq B.symm)]at h4 h5;rw[sE D_]at h4;rw[Gv D_]at h5;refine kT ?_;rw[<- h4,<- h5];exact am
      ·have y:i+1<s.length:=O_;have hx2:s[i+1]? =some s[i+1]:=by simp[y]
       have m:=List.drop_eq_getElem_cons y;generalize hd:s[i+1]=d at *;rw[m,ov]at h4;rw[m,I3]at h5;refine kE ?_;refine kO3 ?_;refine B8 ?_;by_cases u:d=34
       ·have I:d.toNat=34:=by rw[u];rfl
        rw[if_neg (fun h=>(xA d).1 h (.inl u))]at h4 h5;refine l6 ?_;refine kW ?_;refine B8 ?_;refine kG ?_;refine kO ?_;refine kE ?_;rw[if_neg (by rw[u];decide)]at h5;refine Nn ?_;exact TF
       ·have I:¬d.toNat=34:=dU u;refine ox ?_;refine kO3 ?_;refine B8 ?_;by_cases v:d=92
        ·have J:d.toNat=92:=by rw[v];rfl
         rw[if_neg (fun h=>(xA d).1 h (.inr (.inl v)))]at h4 h5;refine l6 ?_;refine kW ?_;refine B8 ?_;refine kG ?_;refine kO ?_;refine kE ?_;rw[if_neg (by rw[v];decide)]at h5;refine Nn ?_;exact TF
        ·have J:¬d.toNat=92:=dU v;refine ox ?_;refine kO4 ?_;refine B8 ?_;by_cases g:d=110
         ·have L:d.toNat=110:=by rw[g];rfl
          rw[if_neg (fun h=>(xA d).1 h (.inr (.inr g)))]at h4 h5;refine l6 ?_;refine kW ?_;refine B8 ?_;refine kG ?_;refine kO ?_;refine kT ?_;rw[if_pos g]at h5;refine kG ?_;refine kO ?_;refine Nn ?_;exact⟨(i+2,o++[10]),⟨by dsimp only;omega,by dsimp only;omega,by simp;omega,by rw[show i+2-p=i-p+2 by omega];exact h4,h5⟩,by dsimp only;omega,au.trans (b:=qT s p (i+2) o 10) (weak ⟨rfl,rfl,rfl,rfl,rfl,aq O_ O_,trivial⟩ ⟨rfl,trivial⟩ rfl) (R6 s p (i+2) o 10)⟩
         ·have L:¬d.toNat=110:=dU g;rw[if_pos ((xA d).2 (fun h=>by rcases h with h|h|h;exact u h;exact v h;exact g h))]at h4 h5;refine ox ?_;rw[<- h4,<- h5];exact am
     ·have N:¬c.toNat=92:=dU A;rw[rA F f A]at h4;rw[LW F f A]at h5;refine kE ?_;refine Nn ?_;exact⟨(i+1,o++[c]),⟨by dsimp only;omega,by dsimp only;omega,by simp;omega,by rw[show i+1-p=i-p+1 by omega];exact h4,h5⟩,by dsimp only;omega,au.trans (b:=qT s p (i+1) o c) (weak ⟨rfl,rfl,rfl,rfl,rfl,aq O_ O_,trivial⟩ ⟨rfl,trivial⟩ rfl) (R6 s p (i+1) o c)⟩
  ·have W:i=s.length:=O_;rw[List.drop_eq_nil_of_le (Nat.le_of_eq W.symm)]at h4 h5;have h4:0=E:=h4;have h5:[]=X:=h5;refine kE ?_;rw[<- h4,<- h5];exact am
 ·have G:¬c0.toNat=34:=dU w;refine⟨[],?_⟩;rw[if_neg w];refine OD ?_;refine ox ?_;exact am
def UW(J:Nat):List Tk->TV
 | []=> .nil
 |a::r=> .own J (a::r).length 3 160
def Jp(J:Nat)(l:List Tk)(t:Tk):UW J (l++[t])= .own J (l.length+1) 3 160:=by
 cases l with
 |nil=>rfl
 |cons a r=>simp[UW]
def eH(s:List UInt8)(a:List Tk)(t:Tk)(m:Nat):(⟨[(0, .d (dL s)),(2, .nil),(3, .d (dN .i64 0)),(4, .d (dN .i64 0)),(5,UW 13001 (a++[t])),(6, .d (dN .i64 m))],[(13001,Sr (a++[t]))]⟩:AS)=⟨[(0, .d (dL s)),(2, .nil),(3, .d (dN .i64 0)),(4, .d (dN .i64 0)),(5, .own 13001 (a.length+1) 3 160),(6, .d (dN .i64 m))],[(13001,some ((ce a).take (a.length*3)++jU t))]⟩:=by rw[Jp,At,pv]
def K6{c:UInt8}(h:dy c=true):fF c=true:=by simp[fF,h]
def pA{p:UInt8->Bool}{c:UInt8}{r:List UInt8}(h:p c=true):0<aT p (c::r):=by simp[aT,List.takeWhile_cons,h]
def Cx{p:UInt8->Bool}{c:UInt8}{r:List UInt8}(h:p c=false):aT p (c::r)=0:=by simp[aT,List.takeWhile_cons,h]
def Is{c:UInt8}{r:List UInt8}(h:bC c=true):0<jZ (c::r):=by have:=pA (r:=r) h;unfold jZ;split <;>omega
inductive Nx (s:List UInt8) (i:Nat) (c:UInt8) (w m q:Nat):Nat->Nat->Prop
 |wd {n:Nat} (h0:0<n) (hw:w=n) (h:n<=24):Nx s i c w m q 1 n
 |lg {n:Nat} (hw:w=n) (h:24<n):Nx s i c w m q 1 n
 |nm {n:Nat} (h0:0<n) (hw:w=0) (hm:m=n):Nx s i c w m q 2 n
 |qt {n:Nat} (h0:0<n) (hw:w=0) (hm:m=0) (hq:q=n):Nx s i c w m q 3 n
 |sy (hw:w=0) (hm:m=0) (hq:q=0) (hs:uB c=true):Nx s i c w m q 4 1
 |nl (hw:w=0) (hm:m=0) (hq:q=0) (hs:uB c=false) (hc:c=10):Nx s i c w m q 5 1
 |no {k:Nat} (hw:w=0) (hm:m=0) (hq:q=0) (hs:uB c=false) (hc:c≠10):Nx s i c w m q k 0
def ON(s:List UInt8)(i:Nat)(c:UInt8)(r:List UInt8):Nx s i c (sH (c::r)) (if 0<aT bC (c::r)then jZ (c::r)else 0) (if c=34 then nH (c::r)else 0) (gx (c::r)).1 (gx (c::r)).2:=by
 rw[gx,sH];cases h1:dy c
 ·refine qL ?_;cases h2:bC c
  ·rw[Cx h2,if_neg (Nat.lt_irrefl 0)];refine qL ?_;by_cases b:c=34
   ·rw[if_pos b,if_pos b];dsimp only;by_cases a:nH (c::r)=0
    ·rw[a];exact .no rfl rfl rfl (by rw[b];decide) (by rw[b];decide)
    ·exact .qt O_ rfl rfl rfl
   ·rw[if_neg b,if_neg b];by_cases a:c=10
    ·rw[if_pos a];exact .nl rfl rfl rfl (by rw[a];decide) a
    ·rw[if_neg a];cases h5:uB c
     ·rw[if_neg D_];exact .no rfl rfl rfl h5 a
     ·rw[if_pos rfl];exact .sy rfl rfl rfl h5
  ·rw[if_pos (pA h2)];simp only[if_true];exact .nm (Is h2) rfl rfl
 ·simp only[if_true];have:=pA (r:=r) (K6 h1);by_cases h:aT fF (c::r)<=24
  ·exact .wd this rfl h
  ·exact .lg rfl O_
def md(s:List UInt8)(C:s.length<=65536):aa prog 114 [dL s] (ma (dw (s.length+1) s 0 [])):=by
 have hB:=an s;generalize A:dw (s.length+1) s 0 []=R;refine kU func114 ?_;refine FU ?_;refine kY ?_;refine av (Nat × List Tk) (fun x=>x.1<=s.length/\x.2.length<=x.1/\ ∃f,s.length-x.1<f/\dw f (s.drop x.1) x.1 x.2=R) (fun x=>⟨[(0, .d (dL s)),(2, .nil),(3, .d (dN .i64 0)),(4, .d (dN .i64 0)),(5,UW 13001 x.2),(6, .d (dN .i64 x.1))],[(13001,Sr x.2)]⟩) (fun x=>s.length-x.1) (0,[]) ⟨Nat.zero_le _,l_ _,s.length+1,by dsimp only;omega,A⟩
  kw ?_
 rintro⟨i,acc⟩ ⟨z,g,f,y,h3⟩;dsimp only at z g y h3 ⊢;cases f with
 |zero=>exact absurd y (Nat.not_lt_zero _)
 |succ f=>
 refine kI ?_;refine kO3 ?_;by_cases hlt:i<s.length
 ·have hx:s[i]? =some s[i]:=by simp[hlt]
  have hdrop:=List.drop_eq_getElem_cons hlt;have v:=qM s i O_ O_;have cm:=uU s i O_ O_ rfl;obtain⟨qt,cq⟩:=uP s i s[i] hx C;have cs:=uN s[i];generalize hc:s[i]=c at *;rw[show((if c=34 then i+nH (s.drop i)else i:Nat))=i+(if c=34 then nH (s.drop i)else 0) by split <;>omega]at cq;refine yg ?_;refine Pf ?_;by_cases hsp:c=32∨c=9
  ·exact OW
  ·have e32:¬c.toNat=32:=dU (fun e=>hsp (.inl e));have e9:¬c.toNat=9:=dU (fun e=>hsp (.inr e));have B:(s.drop i).length=s.length-i:=n_;have D:=wM (s.drop i);have t:=ON s i c (s.drop (i+1));rw[<- hdrop]at t;rw[hdrop,dw,if_neg hsp]at h3;rw[<- hdrop]at h3;generalize(gx (s.drop i)).1=k at *;generalize(gx (s.drop i)).2=n at *;generalize sH (s.drop i)=w at *;generalize(if 0<aT bC (s.drop i)then jZ (s.drop i)else 0)=m at *;generalize(if c=34 then nH (s.drop i)else 0)=q at *;rw[List.drop_drop]at h3;have u:(s.take (i+n)).drop i=(s.drop i).take n:=by rw[List.drop_take];congr 1;omega
   rw[<- u]at h3;cases acc with
   |nil=>
    refine kE ?_;refine s5 ?_;refine Oy ?_;refine kC v ?_;refine kG ?_;refine kO2 ?_;cases t with
    |lg hw h=>exact NM
    |wd h0 hw h=>subst hw;refine kJ ((w:Nat)) ?_;refine kE ?_;rw[if_neg O_,if_neg O_]at h3;refine kG ?_;refine Gn ?_;refine Gn ?_;refine MI ?_;refine OC ?_;refine Hg ?_;exact⟨(i+w,([]:List Tk)++[(1,(s.take (i+w)).drop i,i)]),⟨by dsimp only;omega,by rw[L_];dsimp only[List.length_cons,List.length_nil]at g ⊢;omega,f,by dsimp only;omega,h3⟩,by dsimp only;omega,by exact Eq.mpr (congrArg (au _) (eH s ([]:List Tk) (1,(s.take (i+w)).drop i,i) (i+w))) (au.trans (b:=⟨[(0, .d (dL s)),(2, .nil),(3, .d (dN .i64 0)),(4, .d (dN .i64 0)),(5, .own 13002 (([]:List Tk).length+1) 3 160),(6, .d (dN .i64 ((i+w:Nat))))],[(13002,some ((ce ([]:List Tk)).take (([]:List Tk).length*3)++jU (1,(s.take (i+w)).drop i,i)))]⟩) kw ((a8 (q:=5) (j:=13002) (j':=13001) (m:=([]:List Tk).length+1) (k:=3) (e:=160) (cs:=(ce ([]:List Tk)).take (([]:List Tk).length*3)++jU (1,(s.take (i+w)).drop i,i)) rfl rfl rfl rfl).trans kw))⟩
    |nm h0 hw hm=>subst hw hm;refine Ah ?_;refine kG ?_;rw[if_neg O_,if_neg O_]at h3;refine Gn ?_;refine Gn ?_;refine NQ ?_;refine Hg ?_;exact⟨(i+m,([]:List Tk)++[(2,(s.take (i+m)).drop i,i)]),⟨by dsimp only;omega,by rw[L_];dsimp only[List.length_cons,List.length_nil]at g ⊢;omega,f,by dsimp only;omega,h3⟩,by dsimp only;omega,by exact Eq.mpr (congrArg (au _) (eH s ([]:List Tk) (2,(s.take (i+m)).drop i,i) (i+m))) (au.trans (b:=⟨[(0, .d (dL s)),(2, .nil),(3, .d (dN .i64 0)),(4, .d (dN .i64 0)),(5, .own 13002 (([]:List Tk).length+1) 3 160),(6, .d (dN .i64 ((i+m:Nat))))],[(13002,some ((ce ([]:List Tk)).take (([]:List Tk).length*3)++jU (2,(s.take (i+m)).drop i,i)))]⟩) kw ((a8 (q:=5) (j:=13002) (j':=13001) (m:=([]:List Tk).length+1) (k:=3) (e:=160) (cs:=(ce ([]:List Tk)).take (([]:List Tk).length*3)++jU (2,(s.take (i+m)).drop i,i)) rfl rfl rfl rfl).trans kw))⟩
    |qt h0 hw hm hq=>subst hw hm hq;refine Ah ?_;refine IM ?_;refine kW ?_;refine kC cq ?_;refine kG ?_;rw[if_neg O_,if_neg O_]at h3;refine Gn ?_;refine MI ?_;refine Qb ?_;refine Hg ?_;exact⟨(i+q,([]:List Tk)++[(3,(s.take (i+q)).drop i,i)]),⟨by dsimp only;omega,by rw[L_];dsimp only[List.length_cons,List.length_nil]at g ⊢;omega,f,by dsimp only;omega,h3⟩,by dsimp only;omega,by exact Eq.mpr (congrArg (au _) (eH s ([]:List Tk) (3,(s.take (i+q)).drop i,i) (i+q))) (au.trans (b:=⟨[(0, .d (dL s)),(2, .nil),(3, .d (dN .i64 0)),(4, .d (dN .i64 0)),(5, .own 13002 (([]:List Tk).length+1) 3 160),(6, .d (dN .i64 ((i+q:Nat))))],[(13002,some ((ce ([]:List Tk)).take (([]:List Tk).length*3)++jU (3,(s.take (i+q)).drop i,i)))]⟩) kw ((a8 (q:=5) (j:=13002) (j':=13001) (m:=([]:List Tk).length+1) (k:=3) (e:=160) (cs:=(ce ([]:List Tk)).take (([]:List Tk).length*3)++jU (3,(s.take (i+q)).drop i,i)) rfl rfl rfl rfl).trans kw))⟩
    |sy hw hm hq hs=>subst hw hm hq;refine Ap ?_;rw[hs]at cs;refine kC cs ?_;rw[if_neg O_,if_neg O_]at h3;refine yK ?_;refine kG ?_;refine Gn ?_;refine Mc ?_;refine Hg ?_;exact⟨(i+1,([]:List Tk)++[(4,(s.take (i+1)).drop i,i)]),⟨by dsimp only;omega,by rw[L_];dsimp only[List.length_cons,List.length_nil]at g ⊢;omega,f,by dsimp only;omega,h3⟩,by dsimp only;omega,by exact Eq.mpr (congrArg (au _) (eH s ([]:List Tk) (4,(s.take (i+1)).drop i,i) (i+1))) (au.trans (b:=⟨[(0, .d (dL s)),(2, .nil),(3, .d (dN .i64 0)),(4, .d (dN .i64 0)),(5, .own 13002 (([]:List Tk).length+1) 3 160),(6, .d (dN .i64 ((i+1:Nat))))],[(13002,some ((ce ([]:List Tk)).take (([]:List Tk).length*3)++jU (4,(s.take (i+1)).drop i,i)))]⟩) kw ((a8 (q:=5) (j:=13002) (j':=13001) (m:=([]:List Tk).length+1) (k:=3) (e:=160) (cs:=(ce ([]:List Tk)).take (([]:List Tk).length*3)++jU (4,(s.take (i+1)).drop i,i)) rfl rfl rfl rfl).trans kw))⟩
    |nl hw hm hq hs hc=>
     subst hw hm hq;refine Ap ?_;rw[hs]at cs;refine kC cs ?_;refine IM ?_;refine s5 ?_;have e10:c.toNat=10:=by rw[hc];rfl
     refine kT ?_;rw[if_neg O_,if_neg O_]at h3;refine yK ?_;refine kG ?_;refine MI ?_;refine Mc ?_;refine Hg ?_;exact⟨(i+1,([]:List Tk)++[(5,(s.take (i+1)).drop i,i)]),⟨by dsimp only;omega,by rw[L_];dsimp only[List.length_cons,List.length_nil]at g ⊢;omega,f,by dsimp only;omega,h3⟩,by dsimp only;omega,by exact Eq.mpr (congrArg (au _) (eH s ([]:List Tk) (5,(s.take (i+1)).drop i,i) (i+1))) (au.trans (b:=⟨[(0, .d (dL s)),(2, .nil),(3, .d (dN .i64 0)),(4, .d (dN .i64 0)),(5, .own 13002 (([]:List Tk).length+1) 3 160),(6, .d (dN .i64 ((i+1:Nat))))],[(13002,some ((ce ([]:List Tk)).take (([]:List Tk).length*3)++jU (5,(s.take (i+1)).drop i,i)))]⟩) kw ((a8 (q:=5) (j:=13002) (j':=13001) (m:=([]:List Tk).length+1) (k:=3) (e:=160) (cs:=(ce ([]:List Tk)).take (([]:List Tk).length*3)++jU (5,(s.take (i+1)).drop i,i)) rfl rfl rfl rfl).trans kw))⟩
    |no hw hm hq hs hc=>exact NZ
   |cons a r=>
    refine kE ?_;refine s5 ?_;refine Oy ?_;refine kC v ?_;refine kG ?_;refine kO2 ?_;cases t with
    |lg hw h=>exact NM
    |wd h0 hw h=>subst hw;refine kJ ((w:Nat)) ?_;refine kE ?_;rw[if_neg O_,if_neg O_]at h3;refine kG ?_;refine Gn ?_;refine Gn ?_;refine MI ?_;refine OC ?_;refine BT ?_;exact⟨(i+w,(a::r)++[(1,(s.take (i+w)).drop i,i)]),⟨by dsimp only;omega,by rw[L_];dsimp only[List.length_cons,List.length_nil]at g ⊢;omega,f,by dsimp only;omega,h3⟩,by dsimp only;omega,by exact Eq.mpr (congrArg (au _) (eH s (a::r) (1,(s.take (i+w)).drop i,i) (i+w))) (au.trans (b:=⟨[(0, .d (dL s)),(2, .nil),(3, .d (dN .i64 0)),(4, .d (dN .i64 0)),(5, .own 13002 ((a::r).length+1) 3 160),(6, .d (dN .i64 ((i+w:Nat))))],[(13002,some ((ce (a::r)).take ((a::r).length*3)++jU (1,(s.take (i+w)).drop i,i)))]⟩) kw ((a8 (q:=5) (j:=13002) (j':=13001) (m:=(a::r).length+1) (k:=3) (e:=160) (cs:=(ce (a::r)).take ((a::r).length*3)++jU (1,(s.take (i+w)).drop i,i)) rfl rfl rfl rfl).trans kw))⟩
    |nm h0 hw hm=>subst hw hm;refine Ah ?_;refine kG ?_;rw[if_neg O_,if_neg O_]at h3;refine Gn ?_;refine Gn ?_;refine NQ ?_;refine BT ?_;exact⟨(i+m,(a::r)++[(2,(s.take (i+m)).drop i,i)]),⟨by dsimp only;omega,by rw[L_];dsimp only[List.length_cons,List.length_nil]at g ⊢;omega,f,by dsimp only;omega,h3⟩,by dsimp only;omega,by exact Eq.mpr (congrArg (au _) (eH s (a::r) (2,(s.take (i+m)).drop i,i) (i+m))) (au.trans (b:=⟨[(0, .d (dL s)),(2, .nil),(3, .d (dN .i64 0)),(4, .d (dN .i64 0)),(5, .own 13002 ((a::r).length+1) 3 160),(6, .d (dN .i64 ((i+m:Nat))))],[(13002,some ((ce (a::r)).take ((a::r).length*3)++jU (2,(s.take (i+m)).drop i,i)))]⟩) kw ((a8 (q:=5) (j:=13002) (j':=13001) (m:=(a::r).length+1) (k:=3) (e:=160) (cs:=(ce (a::r)).take ((a::r).length*3)++jU (2,(s.take (i+m)).drop i,i)) rfl rfl rfl rfl).trans kw))⟩
    |qt h0 hw hm hq=>subst hw hm hq;refine Ah ?_;refine IM ?_;refine kW ?_;refine kC cq ?_;refine kG ?_;rw[if_neg O_,if_neg O_]at h3;refine Gn ?_;refine MI ?_;refine Qb ?_;refine BT ?_;exact⟨(i+q,(a::r)++[(3,(s.take (i+q)).drop i,i)]),⟨by dsimp only;omega,by rw[L_];dsimp only[List.length_cons,List.length_nil]at g ⊢;omega,f,by dsimp only;omega,h3⟩,by dsimp only;omega,by exact Eq.mpr (congrArg (au _) (eH s (a::r) (3,(s.take (i+q)).drop i,i) (i+q))) (au.trans (b:=⟨[(0, .d (dL s)),(2, .nil),(3, .d (dN .i64 0)),(4, .d (dN .i64 0)),(5, .own 13002 ((a::r).length+1) 3 160),(6, .d (dN .i64 ((i+q:Nat))))],[(13002,some ((ce (a::r)).take ((a::r).length*3)++jU (3,(s.take (i+q)).drop i,i)))]⟩) kw ((a8 (q:=5) (j:=13002) (j':=13001) (m:=(a::r).length+1) (k:=3) (e:=160) (cs:=(ce (a::r)).take ((a::r).length*3)++jU (3,(s.take (i+q)).drop i,i)) rfl rfl rfl rfl).trans kw))⟩
    |sy hw hm hq hs=>subst hw hm hq;refine Ap ?_;rw[hs]at cs;refine kC cs ?_;rw[if_neg O_,if_neg O_]at h3;refine yK ?_;refine kG ?_;refine Gn ?_;refine Mc ?_;refine BT ?_;exact⟨(i+1,(a::r)++[(4,(s.take (i+1)).drop i,i)]),⟨by dsimp only;omega,by rw[L_];dsimp only[List.length_cons,List.length_nil]at g ⊢;omega,f,by dsimp only;omega,h3⟩,by dsimp only;omega,by exact Eq.mpr (congrArg (au _) (eH s (a::r) (4,(s.take (i+1)).drop i,i) (i+1))) (au.trans (b:=⟨[(0, .d (dL s)),(2, .nil),(3, .d (dN .i64 0)),(4, .d (dN .i64 0)),(5, .own 13002 ((a::r).length+1) 3 160),(6, .d (dN .i64 ((i+1:Nat))))],[(13002,some ((ce (a::r)).take ((a::r).length*3)++jU (4,(s.take (i+1)).drop i,i)))]⟩) kw ((a8 (q:=5) (j:=13002) (j':=13001) (m:=(a::r).length+1) (k:=3) (e:=160) (cs:=(ce (a::r)).take ((a::r).length*3)++jU (4,(s.take (i+1)).drop i,i)) rfl rfl rfl rfl).trans kw))⟩
    |nl hw hm hq hs hc=>
     subst hw hm hq;refine Ap ?_;rw[hs]at cs;refine kC cs ?_;refine IM ?_;refine s5 ?_;have e10:c.toNat=10:=by rw[hc];rfl
     refine kT ?_;rw[if_neg O_,if_neg O_]at h3;refine yK ?_;refine kG ?_;refine MI ?_;refine Mc ?_;refine BT ?_;exact⟨(i+1,(a::r)++[(5,(s.take (i+1)).drop i,i)]),⟨by dsimp only;omega,by rw[L_];dsimp only[List.length_cons,List.length_nil]at g ⊢;omega,f,by dsimp only;omega,h3⟩,by dsimp only;omega,by exact Eq.mpr (congrArg (au _) (eH s (a::r) (5,(s.take (i+1)).drop i,i) (i+1))) (au.trans (b:=⟨[(0, .d (dL s)),(2, .nil),(3, .d (dN .i64 0)),(4, .d (dN .i64 0)),(5, .own 13002 ((a::r).length+1) 3 160),(6, .d (dN .i64 ((i+1:Nat))))],[(13002,some ((ce (a::r)).take ((a::r).length*3)++jU (5,(s.take (i+1)).drop i,i)))]⟩) kw ((a8 (q:=5) (j:=13002) (j':=13001) (m:=(a::r).length+1) (k:=3) (e:=160) (cs:=(ce (a::r)).take ((a::r).length*3)++jU (5,(s.take (i+1)).drop i,i)) rfl rfl rfl rfl).trans kw))⟩
    |no hw hm hq hs hc=>exact NZ
 ·exact PK
section
variable {P:Program}{T:TypeId->Option Ty}{n:Nat}{ops:Array Oper}{id:Nat}{draw:Bool}{K:AS->Prop}{s:AS}{k:Nat}{o:Oper}{os:List Oper}{fps:List FP}
def tr:∀(b c:BL),(∀x∈c,x∈b)->dY b c=[]
 |_,[],_=>rfl
 |b,(j,f)::r,h=>by
  rw[dY];have a:(ak (aB b) j).isSome:=by
   have d:=h (j,f) S_;clear h;induction b with
   |nil=>cases d
   |cons y l m=>
    obtain⟨i,p⟩:=y;by_cases e:i=j
    ·subst e;rw[aB,ap];rfl
    ·rw[aB,az _ _ e];rcases f_.1 d with h|h
     ·cases h;exact absurd rfl e
     ·exact m h
  cases hl:ak (aB b) j with
  |none=>rw[hl]at a;cases a
  |some x=>exact tr b r (fun x g=>h x (List.mem_cons_of_mem _ g))
def AE{s:AS}:∀{b:BL},ug s (aB b)-> ∀j,ak (aB b++s.b) j=ak s.b j
 | [],_,_=>rfl
 |(i,c)::r,h,j=>by
  have a:s.bx i=some c:=h.1;have d:ug s (aB r):=h.2;by_cases e:i=j
  ·subst e;rw[aB,List.cons_append,ap];unfold AS.bx at a;split at a
   ·rename_i x f;cases a;exact f.symm
   ·cases a
  ·rw[aB,List.cons_append,az _ _ e];exact AE d j
def IU{f:Operand}{fid:FuncId}{args:Array Operand}{tys:Array TypeId}{ts:List TV}{b:BL}{r:RT}(L:ay P fid ts b r b)(E:gd ops s o=some true)(u:o.op= .call ⟨.value f,args,tys⟩)(q:xc s f args.toList=some (fid,ts))(c:uF s f=true)(R:(Gm (aB b) (ts.flatMap eu) && vB (aB b) (aB b))=true)(J:ug s (aB b))(t:dV [] s.b=true)(hnew:pq s b b=true)(F:aO n o.dst=true)(G:gO draw ops (aH ops o ⟨r.tv,none⟩ (b.map (·.1))) k fps=true)(h:aw P T n ops id draw K (k+1) os (s.eff o.dst ⟨r.tv,none⟩) (aH ops o ⟨r.tv,none⟩ (b.map (·.1))::fps)):aw P T n ops id draw K k (o::os) s fps:=by
 refine .run E (.genC (lC t) fun v p z l=>?_) F G h;have y:v.ev f=s.ev f:=aP z (by rw[u];simp[Op.operands,Call.operands]);have i:=s6 (s':=v) (s:=s) (f:=f) (args:=args.toList) y (fun x S=>aP z (by rw[u];simp[Op.operands,Call.operands];exact .inr (by simpa using S)));have d:uF v f=true:=by unfold uF at c ⊢;rw[y];exact c
 have e:=oW l J;have:=qC L u (i.trans q) d R e (fun j C O _=>p j C O) ((m7 l).trans hnew);intro n A V g a w K Q I N H;refine this n A V g a w K Q I N fun D B U m=>H D B U (m.ext (fun k=>?_) (fun j=>?_))
 ·cases o.dst<;>rfl
 ·rw[tr b b (fun _ h=>h),c_];exact(AE e j).symm
end
def fK(ts:List Tk)(b a e:Int):List AV:=[.sl ts.length (ce ts), .val (.int .i64 b), .val (.int .i64 a), .val (.int .i64 e)]
def iP{ts c:List Tk}{a e d f b b':Int}:eL [(900,fK ts b a e)] [(900,fK c b' d f)]:=eL.one (l_ 4)
def bu(t:Tk)(r:List Tk)(b a e:Int):ay prog 115 [.box 900 0] [(900,fK (t::r) b a e)] (.v (.one (.agg (jU t)))) [(900,fK (t::r) b a e)]:=by refine aX ah dz func115 rfl rfl rfl rfl rfl iP ?_;exact P5
def nZ(ts:List Tk)(b a p c:Int):ay prog 164 [.box 900 0, .d (dN .i64 p), .d (dN .i64 c)] [(900,fK ts b a 0)] (.v (.tup [])) [(900,fK ts b p c)]:=by refine aX ah dz func164 rfl rfl rfl rfl rfl iP ?_;exact fE
def JK(ts:List Tk)(b a e p c:Int)(he:e≠0):ay prog 164 [.box 900 0, .d (dN .i64 p), .d (dN .i64 c)] [(900,fK ts b a e)] (.v (.tup [])) [(900,fK ts b a e)]:=by refine aX ah dz func164 rfl rfl rfl rfl rfl iP ?_;refine kI ?_;exact IH
def qd(E:Nat)(b:Int)(p:Nat)(c:Int):Int:=if p=E/\b≠0 then b else c
def c7(E:Nat)(ts:List Tk):Prop:=∀t∈ts,(t.1=0->t.2.2=E)/\(t.1≠0->t.2.2<E)
def c7.tail{E:Nat}{t:Tk}{r:List Tk}(h:c7 E (t::r)):c7 E r:=fun u a=>h u (List.mem_cons_of_mem _ a)
def B6{E:Nat}{b:Int}{t:Tk}{r:List Tk}{c:Int}(h:c7 E (t::r))(a:t.1≠0):qd E b t.2.2 c=c:=by have:=(h t S_).2 a;exact if_neg (fun e=>by omega)
def DT{E:Nat}{b:Int}{t:Tk}{r:List Tk}{c:Int}(h:c7 E (t::r))(d:t.1=0)(a:b≠0):qd E b t.2.2 c=b:=by have:=(h t S_).1 d;exact if_pos ⟨by omega,a⟩
def zT{E:Nat}{p:Nat}{c:Int}:qd E 0 p c=c:=if_neg (fun e=>e.2 rfl)
def mM{E:Nat}{b:Int}{p:Nat}{c:Int}(a:c≠0):qd E b p c≠0:=by
 unfold qd;split
 ·rename_i h;exact h.2
 ·exact a
def oj{E:Nat}(t:Tk)(r:List Tk)(b a:Int)(d:c7 E (t::r)):ay prog 117 [.box 900 0] [(900,fK (t::r) b a 0)] (.v (.tup [])) [(900,fK (t::r) b t.2.2 (qd E b t.2.2 2))]:=by
 by_cases h0:t.1=0
 ·by_cases c:b=0
  ·subst c;rw[zT];refine KJ ?_;refine kD (bu t r 0 a 0) ?_;refine kO ?_;refine kT ?_;refine kO5 ?_;refine kB false ?_ ?_
   ·exact(by simp)
   refine kW ?_;refine bB (show fT _ _ _ _ _ _ from ?_);refine kW ?_;refine kZ (bu t r 0 a 0) ?_;refine kD (nZ (t::r) 0 a t.2.2 2) ?_;exact fE
  ·rw[DT d h0 c];refine KJ ?_;refine kD (bu t r b a 0) ?_;refine kO ?_;refine kT ?_;refine kO5 ?_;refine kB true ?_ ?_
   ·exact(by simp[c])
   refine kW ?_;refine IU (bu t r b a 0) rfl rfl rfl rfl rfl ⟨rfl,trivial⟩ rfl rfl rfl rfl ?_;refine kW ?_;refine kZ (nZ (t::r) b a t.2.2 b) ?_;show fT _ _ _ _ _ _;refine kW ?_;refine kZ (bu t r b t.2.2 b) ?_;refine kD (JK (t::r) b t.2.2 b t.2.2 2 c) ?_;exact fE
 ·rw[B6 d h0];refine KJ ?_;refine kD (bu t r b a 0) ?_;refine tn ?_;refine bB (show fT _ _ _ _ _ _ from ?_);refine kW ?_;refine kZ (bu t r b a 0) ?_;refine kD (nZ (t::r) b a t.2.2 2) ?_;exact fE
def ej(c:UInt8)(p:Nat)(r:List Tk)(b a:Int):ay prog 163 [.box 900 0, .d (dL [c])] [(900,fK ((4,[c],p)::r) b a 0)] (.v (.one (dB true))) [(900,fK r b a 0)]:=by refine JQ ?_;refine kW ?_;refine kZ (bu (4,[c],p) r b a 0) ?_;refine kD (bu (4,[c],p) r b a 0) ?_;refine kO2 ?_;refine aj rfl rfl rfl rfl rfl rfl rfl (ee (a:=[c]) rfl) ?_;refine kG ?_;refine kO5 ?_;refine Aq (m:=((4,[c],p)::r).length) (i:=1) (q:=3) ah (by rw[ky];exact l_ _) S_ rfl rfl rfl rfl rfl rfl rfl rfl ?_;exact fE
def f3(c:UInt8)(t:Tk)(r:List Tk)(b a e:Int)(f:e≠0):ay prog 163 [.box 900 0, .d (dL [c])] [(900,fK (t::r) b a e)] (.v (.one (dB false))) [(900,fK (t::r) b a e)]:=by
 refine JQ ?_;refine pi ?_;refine kB true ?_ ?_
 ·exact(by simp[f])
 exact fE
def fo(c:UInt8)(t:Tk)(r:List Tk)(b a:Int)(f:bh c (t::r)=none):ay prog 163 [.box 900 0, .d (dL [c])] [(900,fK (t::r) b a 0)] (.v (.one (dB false))) [(900,fK (t::r) b a 0)]:=by
 obtain⟨k,x,p⟩:=t;have f:¬(k=4/\x=[c]):=by intro h;simp[bh,h]at f
 refine JQ ?_;refine kW ?_;refine kD (bu (k,x,p) r b a 0) ?_;refine kO ?_;by_cases g:k=4
 ·refine kB false ?_ ?_
  ·exact(by simp[g])
  refine kO2 ?_;refine kO ?_;refine kD (bu (k,x,p) r b a 0) ?_;refine kO2 ?_;refine aj rfl rfl rfl rfl rfl rfl rfl (eM (a:=x) (b:=[c]) (fun e=>f ⟨g,e⟩)) ?_;exact fE
 ·refine ox ?_;exact fE
def Rf(fid:FuncId)(xs:List TV)(E:Nat)(ts:List Tk)(b a:Int):gG->Prop
 | .ok (e,r)=>ay prog fid (.box 900 0::xs) [(900,fK ts b a 0)] (.v (.one (dE e))) [(900,fK r b a 0)]/\bX r/\c7 E r
 | .error (p,c)=>c≠0/\ ∃y d,ay prog fid (.box 900 0::xs) [(900,fK ts b a 0)] (.v (.one (dR y))) [(900,fK d b p (qd E b p c))]/\bX d/\c7 E d
def VV(t:Tk)(ts:List Tk)(b a:Int):gG->Prop
 | .ok (e,r)=>ay prog 280 [.box 900 0, .d (.agg (jU t))] [(900,fK ts b a 0)] (.v (.one (dE e))) [(900,fK r b a 0)]/\bX r/\(r=ts∨r=ts.tail)
 | .error (p,c)=>c≠0/\p=t.2.2/\ay prog 280 [.box 900 0, .d (.agg (jU t))] [(900,fK ts b a 0)] (.v (.one (dR z7))) [(900,fK ts b p c)]
def Fh(t u:Tk)(r:List Tk)(b a:Int)(f:t.2.1.length<=500)(j:bX (u::r)):VV t (u::r) b a (fg t (u::r)):=by
 have cp:=AC t.2.1;unfold Si at cp;cases hq:b8 t.2.1 with
 |none=>
  have d:fg t (u::r)= .error (t.2.2,2):=by unfold fg;rw[hq]
  rw[d];rw[hq]at cp;dsimp only at cp;refine⟨by decide,rfl,?_⟩;refine Me ?_;refine kD (nZ (u::r) b a t.2.2 2) ?_;exact fE
 |some q=>
  rw[hq]at cp;dsimp only at cp;obtain⟨l,c,_⟩:=lj (ib f hq) D_;cases hd:fZ q with
  |none=>
   have d:fg t (u::r)= .error (t.2.2,3):=by unfold fg;rw[hq];dsimp only;rw[hd]
   rw[hd]at c;have c:aa prog 111 [dQ q] (.tup [dL l,dB false]):=c;rw[d];refine⟨by decide,rfl,?_⟩;refine Me ?_;refine kQ c ?_;refine kD (nZ (u::r) b a t.2.2 3) ?_;exact fE
  |some z=>
   rw[hd]at c;have c:aa prog 111 [dQ q] (.tup [dL l,dB true]):=c;by_cases g:u.1=1
   ·have d:fg t (u::r)= .ok (.num q u.2.1,r):=by unfold fg;rw[hq];dsimp only;rw[hd];dsimp only;rw[if_pos g]
    rw[d];refine⟨?_,j.tail O_, .inr rfl⟩;refine Me ?_;refine kQ c ?_;refine kD (bu u r b a 0) ?_;refine Aa ?_;refine kZ (bu u r b a 0) ?_;refine Aq (m:=(u::r).length) (i:=1) (q:=3) ah (by rw[ky];exact l_ _) S_ rfl rfl rfl rfl rfl rfl rfl rfl ?_;exact fE
   ·have d:fg t (u::r)= .ok (.num q [],u::r):=by unfold fg;rw[hq];dsimp only;rw[hd];dsimp only;rw[if_neg g]
    rw[d];refine⟨?_,j, .inl rfl⟩;refine Me ?_;refine kQ c ?_;refine kD (bu u r b a 0) ?_;refine kO ?_;refine kE ?_;exact fE
def Up{E f:Nat}{b a:Int}(J:∀ts x,bX ts->c7 E ts->pP f .un ts=some x->Rf 162 [] E ts b a x)(H:∀ts x,bX ts->c7 E ts->pP f .prim ts=some x->Rf 227 [] E ts b a x)(ts:List Tk)(x:gG)(D:bX ts)(I:c7 E ts)(v:pP (f+1) .un ts=some x):Rf 162 [] E ts b a x:=by
 obtain⟨t,r,rfl⟩:=D.ne;rw[i8]at v;cases hs:bh 45 (t::r)with
 |some r2=>
  have w:=hs;obtain⟨rfl,O⟩:=jN hs;have G:bX r2:=D.tail O_;obtain⟨k,N,p0⟩:=t;obtain⟨rfl,rfl⟩:k=4/\N=[45]:=by
   simp only[bh]at w;split at w
   ·assumption
   ·cases w
  rw[hs]at v;dsimp only at v;cases hy:pP f .un r2 with
  |none=>rw[hy]at v;cases v
  |some y=>
   have cy:=J r2 y G I.tail hy;rw[hy]at v;cases y with
   |ok z=>obtain⟨e,L⟩:=z;cases v;obtain⟨cy,g⟩:=cy;refine⟨?_,g⟩;obtain⟨B,i,m,j,u,l,A,d,hA⟩:=aM e;refine PQ ?_;rw[show dE e= .agg (af B i m j u l A d) from congrArg DV.agg hA]at cy;exact OS
   |error z=>cases v;obtain⟨p,c⟩:=z;obtain⟨F,y,C,cy,g⟩:=cy;refine⟨F, .mk 3 false [] false [] [] [y],C,?_,g⟩;obtain⟨B,i,m,j,u,l,A,d,hA⟩:=aJ y;refine Qg ?_;rw[show dR y= .agg (af B i m j u l A d) from congrArg DV.agg hA]at cy;exact OS
 |none=>
  rw[hs]at v;have cy:=H (t::r) x D I v;have cis:=fo 45 t r b a hs;cases x with
  |ok z=>obtain⟨e,L⟩:=z;obtain⟨cy,g⟩:=cy;refine⟨?_,g⟩;obtain⟨B,i,m,j,u,l,A,d,hA⟩:=aM e;rw[show dE e= .agg (af B i m j u l A d) from congrArg DV.agg hA]at cy ⊢;refine Kh ?_;exact Dq
  |error z=>obtain⟨p,c⟩:=z;obtain⟨F,y,C,cy,g⟩:=cy;refine⟨F,y,C,?_,g⟩;obtain⟨B,i,m,j,u,l,A,d,hA⟩:=aJ y;rw[show dR y= .agg (af B i m j u l A d) from congrArg DV.agg hA]at cy ⊢;refine Kh ?_;exact Dq
def L3{E f:Nat}{b a:Int}(V:∀ts x,bX ts->c7 E ts->pP f .sum ts=some x->Rf 116 [.d (dN .i64 1)] E ts b a x)(ts:List Tk)(x:gG)(C:bX ts)(v:c7 E ts)(g:pP (f+1) .prim ts=some x):Rf 227 [] E ts b a x:=by
 obtain⟨t,r,rfl⟩:=C.ne;rw[eP]at g;cases hs:bh 40 (t::r)with
 |some D=>
  have A:=hs;obtain⟨rfl,Z⟩:=jN hs;have L:bX D:=C.tail O_;obtain⟨k,Q,N⟩:=t;obtain⟨rfl,rfl⟩:k=4/\Q=[40]:=by
   simp only[bh]at A;split at A
   ·assumption
   ·cases A
  rw[hs]at g;dsimp only at g;cases hy:pP f .sum D with
  |none=>rw[hy]at g;cases g
  |some y=>
   have cy:=V D y L v.tail hy;rw[hy]at g;cases y with
   |error z=>
    cases g;obtain⟨p,c⟩:=z;obtain⟨G,y,O,cy,j⟩:=cy;refine⟨G,y,O,?_,j⟩;have I:qd E b p c≠0:=mM G;generalize qd E b p c=c2 at *;obtain⟨o1,na1,xs1,nb1,ys1,nm1,n1,cs1,hA⟩:=aJ y;rw[show dR y= .agg (af o1 na1 xs1 nb1 ys1 nm1 n1 cs1) from congrArg DV.agg hA]at cy ⊢;refine RX ?_;refine kZ (ej 40 N D b a) ?_;refine kD cy ?_;refine kG ?_;refine kO4 ?_;refine kB false ?_ ?_
    ·exact F_ I
    exact fE
   |ok z=>
    obtain⟨e,X⟩:=z;obtain⟨cy,j,B⟩:=cy;obtain⟨u,r4,rfl⟩:=j.ne;obtain⟨o1,na1,xs1,nb1,ys1,nm1,n1,cs1,hA⟩:=aM e;rw[show dE e= .agg (af o1 na1 xs1 nb1 ys1 nm1 n1 cs1) from congrArg DV.agg hA]at cy;dsimp only at g;cases hs2:bh 41 (u::r4)with
    |some Y=>
     have l:=hs2;obtain⟨rfl,S⟩:=jN hs2;obtain⟨k,Q,W⟩:=u;obtain⟨rfl,rfl⟩:k=4/\Q=[41]:=by
      simp only[bh]at l;split at l
      ·assumption
      ·cases l
     rw[hs2]at g;cases g;refine⟨?_,j.tail O_,B.tail⟩;refine Iu ?_;refine RX ?_;refine kD (ej 40 N D b a) ?_;refine pD ?_;refine kD (ej 41 W Y b a) ?_;exact fE
    |none=>rw[hs2]at g;cases g;refine⟨by decide,rx e,u::r4,?_,j,B⟩;have J:dR (rx e)= .agg (af o1 na1 xs1 nb1 ys1 nm1 n1 cs1):=congrArg DV.agg hA;rw[J];refine RX ?_;refine kD (ej 40 N D b a) ?_;refine pD ?_;refine kZ (fo 41 u r4 b a hs2) ?_;refine kD (oj u r4 b a B) ?_;exact fE
 |none=>
  rw[hs]at g;dsimp only at g;have cis:=fo 40 t r b a hs;by_cases H:t.1=2
  ·rw[if_pos H]at g;cases g;have w:=C.tail O_;obtain⟨u,r4,rfl⟩:=w.ne;have F:=Fh t u r4 b a (C.head.2 H) w;cases hP:fg t (u::r4)with
   |ok z=>
    obtain⟨e,X⟩:=z;rw[hP]at F;obtain⟨cy,j,U⟩:=F;refine⟨?_,j,?_⟩
    ·obtain⟨o1,na1,xs1,nb1,ys1,nm1,n1,cs1,hA⟩:=aM e;rw[show dE e= .agg (af o1 na1 xs1 nb1 ys1 nm1 n1 cs1) from congrArg DV.agg hA]at cy ⊢;exact O2
    ·rcases U with rfl|rfl
     ·exact v.tail
     ·exact v.tail.tail
   |error z=>obtain⟨p,c⟩:=z;rw[hP]at F;obtain⟨G,rfl,cy⟩:=F;refine⟨G,z7,u::r4,?_,w,v.tail⟩;rw[B6 v O_];exact O2
  ·rw[if_neg H]at g;by_cases R:t.1=1
   ·rw[if_pos R]at g;cases g;refine⟨?_,C.tail O_,v.tail⟩;refine Rl ?_;refine Bw ?_;refine kD (bu t r b a 0) ?_;iterate 2 refine kG ?_
    refine kO2 ?_;refine kX ?_;refine OE ?_;exact fE
   ·rw[if_neg R]at g;cases g;refine⟨by decide,z7,t::r,?_,C,v⟩;refine Rl ?_;refine Bw ?_;refine kD (bu t r b a 0) ?_;iterate 2 refine kG ?_
    refine kO2 ?_;refine Oy ?_;refine kY ?_;refine kD (oj t r b a v) ?_;exact fE
def Sq(fid:FuncId)(xs:List TV)(E:Nat)(ts:List Tk)(b a:Int)(Y:Rx × List Tk):gG->Prop
 | .ok (e,r)=>ay prog fid (.box 900 0::xs) [(900,fK ts b a 0)] (.v (.one (dE e))) [(900,fK r b a 0)]/\bX r/\c7 E r
 | .error (p,c)=>c≠0/\ay prog fid (.box 900 0::xs) [(900,fK ts b a 0)] (.v (.one (dR Y.1))) [(900,fK Y.2 b p (qd E b p c))]/\bX Y.2/\c7 E Y.2
def vi{fid:FuncId}{xs:List TV}{E:Nat}{b a:Int}{g:List Tk->Option gG}(h:∀c x,bX c->c7 E c->g c=some x->Rf fid xs E c b a x):∃Y:List Tk->Rx × List Tk,∀c x,bX c->c7 E c->g c=some x->Sq fid xs E c b a (Y c) x:=by
 have:∀c:List Tk,∃Y:Rx × List Tk,∀x,bX c->c7 E c->g c=some x->Sq fid xs E c b a Y x:=fun c=>by
  by_cases f:bX c
  ·by_cases i:c7 E c
   ·cases hg:g c with
    |none=>exact⟨(z7,[]),fun x _ _ e=>by cases e⟩
    |some x=>
     have e:=h c x f i hg;cases x with
     |ok y=>exact⟨(z7,[]),fun x _ _ d=>by cases d;exact e⟩
     |error y=>obtain⟨t,u,m,p,q⟩:=e;exact⟨(u,m),fun x _ _ d=>by cases d;exact⟨t,p,q⟩⟩
   ·exact⟨(z7,[]),fun x _ l=>absurd l i⟩
  ·exact⟨(z7,[]),fun x j=>absurd j f⟩
 obtain⟨Y,r⟩:=Classical.axiomOfChoice this;exact⟨Y,fun c x f i e=>r c x f i e⟩
def LS.d2(b a:Int):LS->List AV
 | .run _ _ d=>fK d b a 0
 | .bad _ d p c=>fK d b p c
def rS(c:Int)(a b:List AV):AS:=⟨[(0, .box 900 0),(1, .d (dN .i64 c)),(4, .box 0 0),(5, .box 3004 0)],[(0,some (af 0 false [] false [] [] 0 [])),(3004,some a),(900,some b)]⟩
def LS.J(g:Bool)(Y:List Tk->Rx × List Tk)(f E:Nat)(b a:Int)(D:DV)(B:List AV):LS->Prop
 | .run h e d=>bX d/\c7 E d/\h<=f/\ ∃i,pP h (.more g e) d=some i/\(match i with
  | .ok (j,l)=>D=dE j/\B=fK l b a 0
  | .error (p,c)=>D=dR (gB g Y h e d).1/\B=fK (gB g Y h e d).2 b p (qd E b p c))
 | .bad y d p c=>bX d/\c≠0/\D=dR y/\B=fK d b p c
def IW{a:Bool}{t:Tk}{r:List Tk}(h:eN a (t::r)=none):∀c∈od a,bh c (t::r)=none:=by
 obtain⟨k,x,p⟩:=t;intro c g;have f:=Qc a (k,x,p) r;rw[h]at f;rw[<- Option.not_isSome_iff_eq_none,<- wJ c (k,x,p) r];intro b;simp only[B_,decide_eq_true_eq]at b;have e:AR (od a) (k,x,p)=true:=by
  obtain⟨j,b⟩:=b
  match x,b with
  | [d],b=>have i:0<=Lib.indexByte [c] d:=h_ b;have:d=c:=(By c d).1 i;subst this;exact T_ ((pW _ _).2 g)
 rw[e,T_ b.1]at f;cases f
def I1{a:Bool}{t:Tk}{r e:List Tk}{k:B4}(h:eN a (t::r)=some (k,e)):e=r/\ ∃c p,t=(4,[c],p)/\mF a [c]=some k:=by
 obtain⟨rfl,b,c,d,_⟩:=jF h;obtain⟨g,x,p⟩:=t;dsimp only at b d;subst b d;refine⟨rfl,c,p,rfl,?_⟩;simp only[eN,if_true]at h;cases ho:mF a [c]with
 |none=>rw[ho]at h;cases h
 |some f=>rw[ho]at h;cases h;rfl
def GF{c:UInt8}{k:B4}(h:mF false [c]=some k):(c=43/\k= .add)∨(c=45/\k= .sub):=by exact PL
def zL(f E:Nat)(b a:Int)(Y:List Tk->Rx × List Tk)(hY:∀ts x,bX ts->c7 E ts->pP f (ey false) ts=some x->Sq 116 [.d (dN .i64 2)] E ts b a (Y ts) x)(ts:List Tk)(hT:bX ts)(X:c7 E ts){e0:Ex}{S:List Tk}(h0:pP f (ey false) ts=some (.ok (e0,S))){D:DV}{B:List AV}(hB:B.length=4)(hI:LS.J false Y f E b a D B (.run f e0 S)):ay prog 116 [.box 900 0, .d (dN .i64 1)] [(900,fK ts b a 0)] (.v (.one D)) [(900,B)]:=by
 obtain⟨c0,V,al⟩:=hY ts _ hT X h0;obtain⟨t,r,hr⟩:=V.ne;obtain⟨o1,na1,xs1,nb1,ys1,nm1,n1,cs1,hA⟩:=aM e0;have hE:dE e0= .agg (af o1 na1 xs1 nb1 ys1 nm1 n1 cs1):=congrArg DV.agg hA;rw[hE]at c0;refine aX ah dz func116 rfl rfl rfl rfl rfl ((eL.one (Nat.le_of_eq hB.symm))) ?_;refine kW ?_;refine kZ c0 ?_;refine av LS (LS.J false Y f E b a D B) (fun x=>rS 1 x.c1 (x.d2 b a)) LS.mu (.run f e0 S) hI (by refine Eq.mpr (congrArg (fun c=>au _ (rS 1 c (fK S b a 0))) hA) ?_;exact weak ⟨rfl,rfl,rfl,rfl,trivial⟩ ⟨rfl,rfl,rfl,trivial⟩ rfl) ?_
 intro x g;cases x with
 |bad y ad p c=>obtain⟨R,hc,rfl,rfl⟩:=g;obtain⟨t,r,rfl⟩:=R.ne;obtain⟨o1,na1,xs1,nb1,ys1,nm1,n1,cs1,hA⟩:=aJ y;refine Kt ?_;show fT _ _ _ _ _ (rS 1 (aR y) (fK (t::r) b p c));rw[hA];unfold rS;refine kW ?_;refine kZ (f3 43 t r b p c hc) ?_;refine kD (f3 45 t r b p c hc) ?_;exact fE
 |run i e ad=>
  obtain⟨R,X,hf,x',g,u⟩:=g;obtain⟨t,r,rfl⟩:=R.ne;obtain⟨o1,na1,xs1,nb1,ys1,nm1,n1,cs1,hA⟩:=aM e;show fT _ _ _ _ _ (rS 1 (aE e) (fK (t::r) b a 0));rw[hA];cases i with
  |zero=>cases g
  |succ i=>
  rw[dl]at g;cases ho:eN false (t::r)with
  |none=>rw[ho]at g;cases g;obtain⟨rfl,rfl⟩:=u;refine Iu ?_;have O:=IW ho;unfold rS;refine kW ?_;refine bw (fo 43 t r b a (O 43 (by simp[od]))) rfl rfl rfl rfl rfl ⟨rfl,trivial⟩ rfl rfl rfl rfl ?_;refine kW ?_;refine bw (fo 45 t r b a (O 45 (by simp[od]))) rfl rfl rfl rfl rfl ⟨rfl,trivial⟩ rfl rfl rfl rfl ?_;exact fE
  |some q=>
   obtain⟨k,r2⟩:=q;obtain⟨rfl,c,p0,rfl,hk⟩:=I1 ho;rw[ho]at g;have W:bX r2:=R.tail (by dsimp only;omega);have Z:=X.tail;dsimp only at g;cases hy:pP i (ey false) r2 with
   |none=>rw[hy]at g;cases g
   |some y=>
    have cy:=hY r2 y W Z (hZ O_ hy);rw[hy]at g;cases y with
    |error z=>
     obtain⟨p,c1⟩:=z;cases g;obtain⟨hc1,cy,m,_⟩:=cy;have U:gB false Y (i+1) e ((4,[c],p0)::r2)=(.mk k.code false [] false [] [] [rx e,(Y r2).1],(Y r2).2):=by rw[gB,ho];dsimp only;rw[hy]
     rw[U]at u;dsimp only at u;obtain⟨o2,C,H,F,I,G,n2,w,j⟩:=aJ (Y r2).1;have l:=oV k e (Y r2).1;rw[hA,j]at l;rw[show dR (Y r2).1= .agg (af o2 C H F I G n2 w) from congrArg DV.agg j]at cy;have N:qd E b p c1≠0:=mM hc1;generalize qd E b p c1=c2 at *;generalize ag:(Y r2).2=ts2 at *;unfold rS;rcases GF hk with⟨rfl,rfl⟩| ⟨rfl,rfl⟩
     ·refine kW ?_;refine kD (ej 43 p0 r2 b a) ?_;refine pD ?_;refine⟨.bad (.mk (B4.code .add) false [] false [] [] [rx e,(Y r2).1]) ts2 p c2,⟨m,N,u.1,u.2⟩,Nat.succ_pos _,?_⟩;refine Eq.mpr (congrArg (fun c=>au _ (rS 1 c (fK ts2 b p c2))) l) ?_;exact kw
     ·refine OV ?_;refine pD ?_;refine⟨.bad (.mk (B4.code .sub) false [] false [] [] [rx e,(Y r2).1]) ts2 p c2,⟨m,N,u.1,u.2⟩,Nat.succ_pos _,?_⟩;refine Eq.mpr (congrArg (fun c=>au _ (rS 1 c (fK ts2 b p c2))) l) ?_;exact kw
    |ok z=>
     obtain⟨A,L⟩:=z;obtain⟨cy,m,Q⟩:=cy;have g:pP i (.more false (.bin k e A)) L=some x':=g;have U:gB false Y (i+1) e ((4,[c],p0)::r2)=gB false Y i (.bin k e A) L:=by rw[gB,ho];dsimp only;rw[hy]
     rw[U]at u;obtain⟨o2,C,H,F,I,G,n2,w,j⟩:=aM A;have hbin:=mS k e A;rw[hA,j]at hbin;rw[show dE A= .agg (af o2 C H F I G n2 w) from congrArg DV.agg j]at cy;unfold rS;rcases GF hk with⟨rfl,rfl⟩| ⟨rfl,rfl⟩
     ·refine kW ?_;refine kD (ej 43 p0 r2 b a) ?_;refine pD ?_;refine⟨.run i (.bin .add e A) L,⟨m,Q,by omega,x',g,u⟩,by show i+1<i+1+1;omega,?_⟩;refine Eq.mpr (congrArg (fun c=>au _ (rS 1 c (fK L b a 0))) hbin) ?_;exact kw
     ·refine OV ?_;refine pD ?_;refine⟨.run i (.bin .sub e A) L,⟨m,Q,by omega,x',g,u⟩,by show i+1<i+1+1;omega,?_⟩;refine Eq.mpr (congrArg (fun c=>au _ (rS 1 c (fK L b a 0))) hbin) ?_;exact kw
def Dv{c:UInt8}{k:B4}(h:mF true [c]=some k):(c=42/\k= .mul)∨(c=47/\k= .div):=by exact PL
def vM(f E:Nat)(b a:Int)(Y:List Tk->Rx × List Tk)(hY:∀ts x,bX ts->c7 E ts->pP f (ey true) ts=some x->Sq 116 [.d (dN .i64 3)] E ts b a (Y ts) x)(ts:List Tk)(hT:bX ts)(X:c7 E ts){e0:Ex}{S:List Tk}(h0:pP f (ey true) ts=some (.ok (e0,S))){D:DV}{B:List AV}(hB:B.length=4)(hI:LS.J true Y f E b a D B (.run f e0 S)):ay prog 116 [.box 900 0, .d (dN .i64 2)] [(900,fK ts b a 0)] (.v (.one D)) [(900,B)]:=by
 obtain⟨c0,V,al⟩:=hY ts _ hT X h0;obtain⟨t,r,hr⟩:=V.ne;obtain⟨o1,na1,xs1,nb1,ys1,nm1,n1,cs1,hA⟩:=aM e0;have hE:dE e0= .agg (af o1 na1 xs1 nb1 ys1 nm1 n1 cs1):=congrArg DV.agg hA;rw[hE]at c0;refine aX ah dz func116 rfl rfl rfl rfl rfl ((eL.one (Nat.le_of_eq hB.symm))) ?_;refine kW ?_;refine kZ c0 ?_;refine av LS (LS.J true Y f E b a D B) (fun x=>rS 2 x.c1 (x.d2 b a)) LS.mu (.run f e0 S) hI (by refine Eq.mpr (congrArg (fun c=>au _ (rS 2 c (fK S b a 0))) hA) ?_;exact weak ⟨rfl,rfl,rfl,rfl,trivial⟩ ⟨rfl,rfl,rfl,trivial⟩ rfl) ?_
 intro x g;cases x with
 |bad y ad p c=>obtain⟨R,hc,rfl,rfl⟩:=g;obtain⟨t,r,rfl⟩:=R.ne;obtain⟨o1,na1,xs1,nb1,ys1,nm1,n1,cs1,hA⟩:=aJ y;refine Kt ?_;show fT _ _ _ _ _ (rS 2 (aR y) (fK (t::r) b p c));rw[hA];unfold rS;refine kW ?_;refine kZ (f3 42 t r b p c hc) ?_;refine kD (f3 47 t r b p c hc) ?_;exact fE
 |run i e ad=>
  obtain⟨R,X,hf,x',g,u⟩:=g;obtain⟨t,r,rfl⟩:=R.ne;obtain⟨o1,na1,xs1,nb1,ys1,nm1,n1,cs1,hA⟩:=aM e;show fT _ _ _ _ _ (rS 2 (aE e) (fK (t::r) b a 0));rw[hA];cases i with
  |zero=>cases g
  |succ i=>
  rw[dl]at g;cases ho:eN true (t::r)with
  |none=>rw[ho]at g;cases g;obtain⟨rfl,rfl⟩:=u;refine Iu ?_;have O:=IW ho;unfold rS;refine kW ?_;refine bw (fo 42 t r b a (O 42 (by simp[od]))) rfl rfl rfl rfl rfl ⟨rfl,trivial⟩ rfl rfl rfl rfl ?_;refine kW ?_;refine bw (fo 47 t r b a (O 47 (by simp[od]))) rfl rfl rfl rfl rfl ⟨rfl,trivial⟩ rfl rfl rfl rfl ?_;exact fE
  |some q=>
   obtain⟨k,r2⟩:=q;obtain⟨rfl,c,p0,rfl,hk⟩:=I1 ho;rw[ho]at g;have W:bX r2:=R.tail (by dsimp only;omega);have Z:=X.tail;dsimp only at g;cases hy:pP i (ey true) r2 with
   |none=>rw[hy]at g;cases g
   |some y=>
    have cy:=hY r2 y W Z (hZ O_ hy);rw[hy]at g;cases y with
    |error z=>
     obtain⟨p,c1⟩:=z;cases g;obtain⟨hc1,cy,m,_⟩:=cy;have U:gB true Y (i+1) e ((4,[c],p0)::r2)=(.mk k.code false [] false [] [] [rx e,(Y r2).1],(Y r2).2):=by rw[gB,ho];dsimp only;rw[hy]
     rw[U]at u;dsimp only at u;obtain⟨o2,C,H,F,I,G,n2,w,j⟩:=aJ (Y r2).1;have l:=oV k e (Y r2).1;rw[hA,j]at l;rw[show dR (Y r2).1= .agg (af o2 C H F I G n2 w) from congrArg DV.agg j]at cy;have N:qd E b p c1≠0:=mM hc1;generalize qd E b p c1=c2 at *;generalize ag:(Y r2).2=ts2 at *;unfold rS;rcases Dv hk with⟨rfl,rfl⟩| ⟨rfl,rfl⟩
     ·refine kW ?_;refine kD (ej 42 p0 r2 b a) ?_;refine pD ?_;refine⟨.bad (.mk (B4.code .mul) false [] false [] [] [rx e,(Y r2).1]) ts2 p c2,⟨m,N,u.1,u.2⟩,Nat.succ_pos _,?_⟩;refine Eq.mpr (congrArg (fun c=>au _ (rS 2 c (fK ts2 b p c2))) l) ?_;exact kw
     ·refine N7 ?_;refine pD ?_;refine⟨.bad (.mk (B4.code .div) false [] false [] [] [rx e,(Y r2).1]) ts2 p c2,⟨m,N,u.1,u.2⟩,Nat.succ_pos _,?_⟩;refine Eq.mpr (congrArg (fun c=>au _ (rS 2 c (fK ts2 b p c2))) l) ?_;exact kw
    |ok z=>
     obtain⟨A,L⟩:=z;obtain⟨cy,m,Q⟩:=cy;have g:pP i (.more true (.bin k e A)) L=some x':=g;have U:gB true Y (i+1) e ((4,[c],p0)::r2)=gB true Y i (.bin k e A) L:=by rw[gB,ho];dsimp only;rw[hy]
     rw[U]at u;obtain⟨o2,C,H,F,I,G,n2,w,j⟩:=aM A;have hbin:=mS k e A;rw[hA,j]at hbin;rw[show dE A= .agg (af o2 C H F I G n2 w) from congrArg DV.agg j]at cy;unfold rS;rcases Dv hk with⟨rfl,rfl⟩| ⟨rfl,rfl⟩
     ·refine kW ?_;refine kD (ej 42 p0 r2 b a) ?_;refine pD ?_;refine⟨.run i (.bin .mul e A) L,⟨m,Q,by omega,x',g,u⟩,by show i+1<i+1+1;omega,?_⟩;refine Eq.mpr (congrArg (fun c=>au _ (rS 2 c (fK L b a 0))) hbin) ?_;exact kw
     ·refine N7 ?_;refine pD ?_;refine⟨.run i (.bin .div e A) L,⟨m,Q,by omega,x',g,u⟩,by show i+1<i+1+1;omega,?_⟩;refine Eq.mpr (congrArg (fun c=>au _ (rS 2 c (fK L b a 0))) hbin) ?_;exact kw
def xe{d:Bool}{j:FuncId}{xs:List TV}{E f:Nat}{b a:Int}{Y:List Tk->Rx × List Tk}(v:∀c x,bX c->c7 E c->pP f (ey d) c=some x->Sq j xs E c b a (Y c) x):∀(f':Nat)(e:Ex)(c:List Tk)(i:Ex)(g:List Tk),f'<=f->bX c->c7 E c->pP f' (.more d e) c=some (.ok (i,g))->bX g/\c7 E g
 |0,_,_,_,_,_,_,_,h=>by cases h
 |f'+1,e,c,i,g,B,l,w,h=>by
  rw[dl]at h;obtain⟨t,r,rfl⟩:=l.ne;cases ho:eN d (t::r)with
  |none=>rw[ho]at h;cases h;exact⟨l,w⟩
  |some q=>
   obtain⟨k,p⟩:=q;obtain⟨rfl,A,_⟩:=jF ho;have m:bX p:=l.tail O_;rw[ho]at h;dsimp only at h ⊢;cases hy:pP f' (ey d) p with
   |none=>rw[hy]at h;cases h
   |some y=>
    have u:=v p y m w.tail (hZ O_ hy);rw[hy]at h;cases y with
    |error z=>cases h
    |ok z=>exact xe v f' _ _ i g O_ u.2.1 u.2.2 h
def tB{d:Bool}{j:FuncId}{xs:List TV}{E f:Nat}{b a:Int}{Y:List Tk->Rx × List Tk}(u:∀g x,bX g->c7 E g->pP f (ey d) g=some x->Sq j xs E g b a (Y g) x):∀(f':Nat)(e:Ex)(g:List Tk)(p:Nat)(c:Int),f'<=f->bX g->c7 E g->pP f' (.more d e) g=some (.error (p,c))->c≠0/\bX (gB d Y f' e g).2/\c7 E (gB d Y f' e g).2
 |0,_,_,_,_,_,_,_,h=>by cases h
 |f'+1,e,g,p,c,B,v,w,h=>by
  rw[dl]at h;rw[gB];obtain⟨t,r,rfl⟩:=v.ne;cases ho:eN d (t::r)with
  |none=>rw[ho]at h;cases h
  |some q=>
   obtain⟨k,m⟩:=q;obtain⟨rfl,A,_⟩:=jF ho;have l:bX m:=v.tail O_;rw[ho]at h;dsimp only at h ⊢;cases hy:pP f' (ey d) m with
   |none=>rw[hy]at h;cases h
   |some y=>
    have i:=u m y l w.tail (hZ O_ hy);rw[hy]at h;cases y with
    |error z=>cases h;exact⟨i.1,i.2.2⟩
    |ok z=>exact tB u f' _ _ p c O_ i.2.1 i.2.2 h
def QX{f E:Nat}{b a:Int}(hop:∀ts x,bX ts->c7 E ts->pP f (ey false) ts=some x->Rf 116 [.d (dN .i64 2)] E ts b a x)(ts:List Tk)(x:gG)(H:bX ts)(I:c7 E ts)(i:pP (f+1) .sum ts=some x):Rf 116 [.d (dN .i64 1)] E ts b a x:=by
 have i:(match pP f (ey false) ts with
  |some (.ok (e,r))=>pP f (.more false e) r
  |y=>y)=some x:=i
 obtain⟨Y,l⟩:=vi hop;cases h0:pP f (ey false) ts with
 |none=>rw[h0]at i;cases i
 |some Q=>
  rw[h0]at i;have g:=l ts Q H I h0;cases Q with
  |error z=>cases i;obtain⟨p,c⟩:=z;obtain⟨F,g,G,J⟩:=g;refine⟨F,(Y ts).1,(Y ts).2,?_,G,J⟩;have m:qd E b p c≠0:=mM F;generalize qd E b p c=c2 at *;generalize(Y ts).1=y at *;generalize(Y ts).2=ts' at *;obtain⟨t,r,rfl⟩:=G.ne;obtain⟨N,u,C,v,D,A,L,j,S⟩:=aJ y;rw[show dR y= .agg (af N u C v D A L j) from congrArg DV.agg S]at g ⊢;refine DH ?_;refine kZ g ?_;refine av Unit (fun _=>True) (fun _=>rS 1 (af N u C v D A L j) (fK (t::r) b p c2)) (fun _=>0) () trivial kw ?_;rintro _ _;unfold rS;refine kW ?_;refine kZ (f3 43 t r b p c2 m) ?_;refine kD (f3 45 t r b p c2 m) ?_;exact fE
  |ok z=>
   obtain⟨e,r⟩:=z;have i:pP f (.more false e) r=some x:=i;cases x with
   |ok w=>obtain⟨R,O⟩:=w;exact⟨zL f E b a Y l ts H I h0 (B:=fK O b a 0) rfl ⟨g.2.1,g.2.2,l_ _,_,i,rfl,rfl⟩,xe l f e r R O (l_ _) g.2.1 g.2.2 i⟩
   |error w=>obtain⟨p,c⟩:=w;obtain⟨F,G⟩:=tB l f e r p c (l_ _) g.2.1 g.2.2 i;exact⟨F,_,_,zL f E b a Y l ts H I h0 (B:=fK _ b p (qd E b p c)) rfl ⟨g.2.1,g.2.2,l_ _,_,i,rfl,rfl⟩,G⟩
def ND{f E:Nat}{b a:Int}(hop:∀ts x,bX ts->c7 E ts->pP f (ey true) ts=some x->Rf 116 [.d (dN .i64 3)] E ts b a x)(ts:List Tk)(x:gG)(H:bX ts)(I:c7 E ts)(i:pP (f+1) .prod ts=some x):Rf 116 [.d (dN .i64 2)] E ts b a x:=by
 have i:(match pP f (ey true) ts with
  |some (.ok (e,r))=>pP f (.more true e) r
  |y=>y)=some x:=i
 obtain⟨Y,l⟩:=vi hop;cases h0:pP f (ey true) ts with
 |none=>rw[h0]at i;cases i
 |some Q=>
  rw[h0]at i;have g:=l ts Q H I h0;cases Q with
  |error z=>cases i;obtain⟨p,c⟩:=z;obtain⟨F,g,G,J⟩:=g;refine⟨F,(Y ts).1,(Y ts).2,?_,G,J⟩;have m:qd E b p c≠0:=mM F;generalize qd E b p c=c2 at *;generalize(Y ts).1=y at *;generalize(Y ts).2=ts' at *;obtain⟨t,r,rfl⟩:=G.ne;obtain⟨N,u,C,v,D,A,L,j,S⟩:=aJ y;rw[show dR y= .agg (af N u C v D A L j) from congrArg DV.agg S]at g ⊢;refine DH ?_;refine kZ g ?_;refine av Unit (fun _=>True) (fun _=>rS 2 (af N u C v D A L j) (fK (t::r) b p c2)) (fun _=>0) () trivial kw ?_;rintro _ _;unfold rS;refine kW ?_;refine kZ (f3 42 t r b p c2 m) ?_;refine kD (f3 47 t r b p c2 m) ?_;exact fE
  |ok z=>
   obtain⟨e,r⟩:=z;have i:pP f (.more true e) r=some x:=i;cases x with
   |ok w=>obtain⟨R,O⟩:=w;exact⟨vM f E b a Y l ts H I h0 (B:=fK O b a 0) rfl ⟨g.2.1,g.2.2,l_ _,_,i,rfl,rfl⟩,xe l f e r R O (l_ _) g.2.1 g.2.2 i⟩
   |error w=>obtain⟨p,c⟩:=w;obtain⟨F,G⟩:=tB l f e r p c (l_ _) g.2.1 g.2.2 i;exact⟨F,_,_,vM f E b a Y l ts H I h0 (B:=fK _ b p (qd E b p c)) rfl ⟨g.2.1,g.2.2,l_ _,_,i,rfl,rfl⟩,G⟩
def GP{f E:Nat}{b a:Int}(hop:∀ts x,bX ts->c7 E ts->pP f .un ts=some x->Rf 162 [] E ts b a x)(ts:List Tk)(x:gG)(C:bX ts)(G:c7 E ts)(F:pP f .un ts=some x):Rf 116 [.d (dN .i64 3)] E ts b a x:=by
 have g:=hop ts x C G F;cases x with
 |ok z=>obtain⟨e,H⟩:=z;obtain⟨g,j⟩:=g;refine⟨?_,j⟩;obtain⟨A,l,t,m,u,r,w,i,v⟩:=aM e;rw[show dE e= .agg (af A l t m u r w i) from congrArg DV.agg v]at g ⊢;refine DH ?_;refine kD g ?_;exact fE
 |error z=>obtain⟨p,c⟩:=z;obtain⟨D,y,B,g,j⟩:=g;refine⟨D,y,B,?_,j⟩;obtain⟨A,l,t,m,u,r,w,i,v⟩:=aJ y;rw[show dR y= .agg (af A l t m u r w i) from congrArg DV.agg v]at g ⊢;refine DH ?_;refine kD g ?_;exact fE
structure Tn (f E:Nat) (b a:Int):Prop where
 sum:∀ts x,bX ts->c7 E ts->pP f .sum ts=some x->Rf 116 [.d (dN .i64 1)] E ts b a x
 prod:∀ts x,bX ts->c7 E ts->pP f .prod ts=some x->Rf 116 [.d (dN .i64 2)] E ts b a x
 un:∀ts x,bX ts->c7 E ts->pP f .un ts=some x->Rf 162 [] E ts b a x
 prim:∀ts x,bX ts->c7 E ts->pP f .prim ts=some x->Rf 227 [] E ts b a x
def Ci(E:Nat)(b a:Int):∀f,Tn f E b a
 |0=>⟨fun _ _ _ _ h=>(by cases h),fun _ _ _ _ h=>(by cases h),fun _ _ _ _ h=>(by cases h),fun _ _ _ _ h=>(by cases h)⟩
 |f+1=>by have i:=Ci E b a f;exact⟨fun g x c e d=>QX i.prod g x c e d,fun g x c e d=>ND (fun g x c e d=>GP i.un g x c e d) g x c e d,fun g x c e d=>Up i.un i.prim g x c e d,fun g x c e d=>L3 i.sum g x c e d⟩
def io(p:UInt8->Bool):∀(r:List UInt8)(m:Nat),aT p (r.take m)=min m (aT p r)
 | [],m=>by simp[aT]
 |c::r,0=>by simp[aT]
 |c::r,m+1=>by
  have a:=io p r m;unfold aT at a ⊢;rw[List.take_succ_cons,List.takeWhile_cons,List.takeWhile_cons];split
  ·simp only[List.length_cons];omega
  ·simp
def EW{r:List UInt8}{m:Nat}(h:jZ r<=m):jZ (r.take m)=jZ r:=by
 unfold jZ at h ⊢;rw[io];generalize e:aT bC r=d at *;have c:d<=m:=by split at h<;>omega
 rw[Nat.min_eq_right c,List.drop_take,io,List.getElem?_take];split at h
 ·rename_i a;rw[if_pos a,if_pos (by omega:d<m)];rw[if_pos ⟨a.1,by omega⟩];omega
 ·rename_i a;rw[if_neg a];by_cases b:d<m
  ·rw[if_pos b,if_neg (fun h=>a ⟨h.1,by omega⟩)]
  ·rw[if_neg b,if_neg (fun h=>by cases h.1)]
def FQ:∀(n:Nat)(r:List UInt8)(i m:Nat),r.length<=n->0<ez r i->ez r i<=i+m->ez (r.take m) i=ez r i:=by
 intro n;induction n using Nat.strongRecOn with
 |_ n j=>
  intro r i m b h0 e
  match r,b with
  | [],_=>simp
  | [c],_=>
   by_cases a:c=34
   ·subst a;rw[pL]at e ⊢;obtain⟨m,rfl⟩:∃k,m=k+1:=⟨m-1,by omega⟩;rw[List.take_succ_cons,pL]
   ·rw[sE a]at h0;omega
  |c::d::r,b=>
   have p:=yT n (c::d::r) i b;obtain⟨m,rfl⟩:∃k,m=k+1:=⟨m-1,by omega⟩;by_cases a:c=34
   ·subst a;rw[List.take_succ_cons,pL,pL]
   ·by_cases g:c.toNat<32
    ·rw[tc a g]at h0;omega
    ·by_cases f:c=92
     ·subst f;rw[ov]at h0 e ⊢;split at h0
      ·omega
      ·rename_i h;rw[if_neg h]at e ⊢;simp at b;have l:=yT n r (i+2) O_;obtain⟨m,rfl⟩:∃k,m=k+1:=⟨m-1,by omega⟩;rw[List.take_succ_cons,List.take_succ_cons,ov,if_neg h];exact j (n-2) O_ r (i+2) m O_ h0 O_
     ·rw[rA a g f]at h0 e ⊢;rw[List.take_succ_cons,rA a g f];simp at b;exact j (n-1) O_ (d::r) (i+1) m (by simp;omega) h0 O_
def HE{r:List UInt8}{m:Nat}(h0:0<(gx r).2)(a:(gx r).2<=m):gx (r.take m)=gx r:=by
 cases r with
 |nil=>simp
 |cons c r=>
  obtain⟨m,rfl⟩:∃k,m=k+1:=⟨m-1,by omega⟩;have e:(c::r).take (m+1)=c::r.take m:=rfl;have d:aT fF (c::r.take m)=min (m+1) (aT fF (c::r)):=by rw[<- e,io]
  rw[e];simp only[gx]at h0 a ⊢;split
  ·rename_i h;rw[if_pos h]at h0 a;dsimp only at a;rw[d,Nat.min_eq_right a]
  ·rename_i h;rw[if_neg h]at h0 a;split
   ·rename_i b;rw[if_pos b]at h0 a;rw[<- e,EW a]
   ·rename_i b;rw[if_neg b]at h0 a;split
    ·rename_i f;rw[if_pos f]at h0 a;dsimp only at h0 a;have:nH (c::r.take m)=nH (c::r):=by unfold nH at h0 a ⊢;exact FQ _ r 1 m (l_ _) h0 (by rw[Nat.add_comm];exact a)
     rw[this]
    ·rfl
def RW{c:UInt8}{r:List UInt8}{k n:Nat}(h:gx (c::r)=(k,n))(h0:0<n):k≠0/\(k=4-> ∃d,(c::r).take n=[d]):=by
 have a:=ON [] 0 c r;rw[h]at a;cases a with
 |wd=>exact⟨by decide,fun e=>by cases e⟩
 |lg=>exact⟨by decide,fun e=>by cases e⟩
 |nm=>exact⟨by decide,fun e=>by cases e⟩
 |qt=>exact⟨by decide,fun e=>by cases e⟩
 |sy=>exact⟨by decide,fun _=>⟨c,rfl⟩⟩
 |nl=>exact⟨by decide,fun e=>by cases e⟩
 |no=>exact absurd h0 (Nat.lt_irrefl 0)
structure mR (E:Nat) (T:List Tk) (m:Nat):Prop where
 w:m<=500->bX T
 z:c7 E T
 s:∀t∈T,t.2.1.length<=m
def mR.one{E m:Nat}:mR E [(0,[],E)] m:=⟨fun _=>rfl,fun t a=>by cases d_.1 a;exact⟨fun _=>rfl,fun h=>absurd rfl h⟩,fun t a=>by cases d_.1 a;exact Nat.zero_le _⟩
def mR.ne{E m:Nat}{T:List Tk}(h:mR E T m)(a:T≠[]):∃t r,T=t::r:=by
 cases T with
 |nil=>exact absurd rfl a
 |cons t r=>exact⟨t,r,rfl⟩
def mR.cons{E m f:Nat}{T:List Tk}{k p:Nat}{x:List UInt8}(h:mR E T f)(l:f<=m)(j:T≠[])(b:k≠0)(g:k=4-> ∃d,x=[d])(q:p<E)(c:x.length<=m):mR E ((k,x,p)::T) m:=by
 obtain⟨t,r,rfl⟩:=h.ne j;exact⟨fun i=>⟨⟨b,g,fun _=>V_ c i⟩,h.w O_⟩,fun t a=>by
  rcases f_.1 a with rfl|a
  ·exact⟨fun e=>absurd e b,fun _=>q⟩
  ·exact h.z t a,fun t a=>by
  rcases f_.1 a with rfl|a
  ·exact c
  ·exact V_ (h.s t a) l⟩
def mR.up{E m a:Nat}{T:List Tk}(h:mR E T a)(b:a<=m)(d:m<=500->bX T):mR E T m:=⟨d,h.z,fun t c=>V_ (h.s t c) b⟩
def gQ:∀(f:Nat)(r:List UInt8)(b:Nat)(d:List Tk),r.length<f->match dw f r b d with
  | .ok L=>∃T,T≠[]/\L=d++T/\mR (b+r.length) T r.length
  | .error (a,e)=>(e=2∨e=3)/\b<=a/\a<=b+r.length/\ ∃T,T≠[]/\(∀f' acc',a-b<f'->dw f' (r.take (a-b)) b acc'= .ok (acc'++T))/\mR a T r.length
 |0,_,_,_,h=>absurd h (Nat.not_lt_zero _)
 |f+1,[],b,d,_=>by simp only[dw];exact⟨[(0,[],b)],by simp,rfl, .one⟩
 |f+1,c::r,b,d,h=>by
  simp only[List.length_cons]at h;rw[dw];by_cases g:c=32∨c=9
  ·rw[if_pos g];have D:=gQ f r (b+1) d O_;revert D;cases dw f r (b+1) d with
   |ok L=>rintro⟨T,h0,m,i⟩;refine⟨T,h0,m,?_⟩;rw[show b+(c::r).length=b+1+r.length by simp;omega];exact i.up S_ (fun h5=>i.w (by simp at h5;omega))
   |error z=>obtain⟨a,e⟩:=z;rintro⟨u,m,i,T,h0,y,p⟩;refine⟨u,by omega,by simp;omega,T,h0,fun f' acc' hf=>?_,p.up S_ (fun h5=>p.w (by simp at h5;omega))⟩;obtain⟨f',rfl⟩:∃k,f'=k+1:=⟨f'-1,by omega⟩;rw[show a-b=(a-(b+1))+1 by omega,List.take_succ_cons,dw,if_pos g];exact y f' acc' O_
  ·rw[if_neg g];have l:=wM (c::r);simp only[List.length_cons]at l;cases hN:gx (c::r)with
   |mk k n=>
   rw[hN]at l;dsimp only at l ⊢;have j:∀e:Int,e=2∨e=3->(match(Except.error (b,e):Except (Nat × Int) (List Tk))with
    | .ok L=>∃T,T≠[]/\L=d++T/\mR (b+(c::r).length) T (c::r).length
    | .error (a,e)=>(e=2∨e=3)/\b<=a/\a<=b+(c::r).length/\ ∃T,T≠[]/\(∀f' acc',a-b<f'->dw f' ((c::r).take (a-b)) b acc'= .ok (acc'++T))/\mR a T (c::r).length):=fun e u=>by
    refine⟨u,l_ _,by omega,[(0,[],b)],by simp,fun f' acc' hf=>?_, .one⟩;obtain⟨f',rfl⟩:∃k,f'=k+1:=⟨f'-1,by omega⟩;rw[Nat.sub_self,List.take_zero,dw]
   by_cases C:n=0
   ·rw[if_pos C];exact j 2 (.inl rfl)
   ·rw[if_neg C];by_cases B:k=1/\24<n
    ·rw[if_pos B];exact j 3 (.inr rfl)
    ·rw[if_neg B];have x:=RW hN O_;have t:((c::r).drop n).length=r.length+1-n:=S_;have D:=gQ f ((c::r).drop n) (b+n) (d++[(k,(c::r).take n,b)]) O_;have v:((c::r).take n).length=n:=by simp;omega
     revert D;cases dw f ((c::r).drop n) (b+n) (d++[(k,(c::r).take n,b)])with
     |ok L=>rintro⟨T,h0,m,i⟩;rw[t]at i;refine⟨(k,(c::r).take n,b)::T,by simp,by rw[m,e_];rfl,?_⟩;rw[show b+(c::r).length=b+n+(r.length+1-n) by simp;omega];exact i.cons S_ h0 x.1 x.2 O_ (by rw[v];simp;omega)
     |error z=>
      obtain⟨a,e⟩:=z;rintro⟨u,m,i,T,h0,y,p⟩;rw[t]at i p;refine⟨u,by omega,by simp;omega,(k,(c::r).take n,b)::T,by simp,fun f' acc' hf=>?_,p.cons S_ h0 x.1 x.2 O_ (by rw[v];simp;omega)⟩;obtain⟨f',rfl⟩:∃q,f'=q+1:=⟨f'-1,by omega⟩;obtain⟨q,G⟩:∃q,a-b=q+1:=⟨a-b-1,by omega⟩;have A:gx (c::r.take q)=(k,n):=by rw[show c::r.take q=(c::r).take (q+1) from rfl,HE (by rw[hN];show 0<n;omega) (by rw[hN];show n<=q+1;omega),hN]
      rw[G,List.take_succ_cons];rw[dw,if_neg g,A];dsimp only;rw[if_neg C,if_neg B];have E:(c::r.take q).drop n=((c::r).drop n).take (a-(b+n)):=by rw[show c::r.take q=(c::r).take (q+1) from rfl,List.drop_take];congr 1;omega
      have F:(c::r.take q).take n=(c::r).take n:=by rw[show c::r.take q=(c::r).take (q+1) from rfl,List.take_take,Nat.min_eq_left O_]
      rw[E,F,y f' _ O_,e_];rfl
def uf{a:Bool}{ts r:List Tk}{k:B4}(h:eN a ts=some (k,r)):∀t∈r,t∈ts:=by
 cases ts with
 |nil=>cases h
 |cons t b=>
  simp only[eN]at h;split at h
  ·exact I5
  ·cases h
def fc{c:UInt8}{ts r:List Tk}(h:bh c ts=some r):∀t∈r,t∈ts:=by
 cases ts with
 |nil=>cases h
 |cons t a=>simp only[bh]at h;exact I5
def ze{t:Tk}{r b:List Tk}{e:Ex}(h:fg t r= .ok (e,b)):∃q u,e= .num q u/\(u=[]∨ ∃v∈r,u=v.2.1)/\ ∀x∈b,x∈r:=by
 unfold fg at h;split at h
 ·cases h
 ·rename_i q _;split at h
  ·cases h
  ·split at h
   ·rename_i v c;split at h
    ·cases h;exact⟨q,_,rfl, .inr ⟨v,by simp,rfl⟩,fun x a=>List.mem_cons_of_mem _ a⟩
    ·cases h;exact⟨q,_,rfl, .inl rfl,fun x a=>a⟩
   ·cases h;exact⟨q,_,rfl, .inl rfl,fun x a=>a⟩
def pT:Wd []:=fun x a=>by cases a
def jr:∀(f:Nat)(m:Md)(j:List Tk)(e:Ex)(r:List Tk),(∀t∈j,t.2.1.length<=65536)->(∀d e0,m= .more d e0->vY (rx e0))->pP f m j=some (.ok (e,r)) ->
 vY (rx e)/\(∀t∈r,t∈j)/\jx (rx e)+r.length<=j.length+(match m with| .more _ e0=>jx (rx e0)|_=>0)
 |0,_,_,_,_,_,_,h=>by cases h
 |f+1, .sum,j,e,r,hs,l,h=>by
  rw[jE]at h;split at h
  ·rename_i g w h1;exact Pq
  ·exact jK
 |f+1, .prod,j,e,r,hs,l,h=>by
  rw[gK]at h;split at h
  ·rename_i g w h1;exact Pq
  ·exact jK
 |f+1, .more d e0,j,e,r,hs,l,h=>by
  rw[dl]at h;split at h
  ·rename_i k w h0;have z:=sh h0;have c:=uf h0;split at h
   ·rename_i g A h1;have a:=jr f _ _ _ _ (fun t ht=>hs t (c t ht)) (fun _ _ h=>by cases d<;>cases h) h1;have C:vY (rx (.bin k e0 g)):= .mk (by cases k<;>decide) (by cases k<;>decide) pT pT D_ S_ (fun x i=>by
     rcases f_.1 i with rfl|i
     ·exact l d e0 rfl
     ·cases d_.1 i;exact a.1)
    have b:=jr f _ _ _ _ (fun t ht=>hs t (c t (a.2.1 t ht))) (fun _ _ h=>by cases h;exact C) h;refine⟨b.1,fun t ht=>c t (a.2.1 t (b.2.1 t ht)),?_⟩;have h1:=a.2.2;have y:=b.2.2;have B:jx (rx (.bin k e0 g))=jx (rx e0)+jx (rx g)+1:=by simp[rx,jx,lV]
    cases d<;>dsimp only[ey]at * <;>omega
   ·exact jK
  ·cases h;exact⟨l d _ rfl,fun t ht=>ht,by dsimp only;omega⟩
 |f+1, .un,j,e,r,hs,l,h=>by
  rw[i8]at h;split at h
  ·rename_i w h0;have z:=eX h0;have c:=fc h0;split at h
   ·rename_i g A h1;have a:=jr f _ _ _ _ (fun t ht=>hs t (c t ht)) (fun _ _ h=>by cases h) h1;cases h;have B:jx (rx (.neg g))=jx (rx g)+1:=by simp[rx,jx,lV]
    refine⟨.mk D_ D_ pT pT D_ S_ (fun x i=>by cases d_.1 i;exact a.1),fun t ht=>c t (a.2.1 t ht),?_⟩;have:=a.2.2;dsimp only at *;omega
   ·exact jK
  ·have a:=jr f _ _ _ _ hs (fun _ _ h=>by cases h) h;exact a
 |f+1, .prim,j,e,r,hs,l,h=>by
  rw[eP]at h;split at h
  ·rename_i w h0;have z:=eX h0;have c:=fc h0;split at h
   ·rename_i g A h1;have a:=jr f _ _ _ _ (fun t ht=>hs t (c t ht)) (fun _ _ h=>by cases h) h1;split at h
    ·rename_i F y;have b:=eX y;cases h;refine⟨a.1,fun t ht=>c t (a.2.1 t (fc y t ht)),?_⟩;have:=a.2.2;dsimp only at *;omega
    ·cases h
   ·exact jK
  ·split at h
   ·rename_i t w _;split at h
    ·injection h with h;have y:=AI h;obtain⟨q,u,rfl,D,c⟩:=ze h;refine⟨.mk D_ D_ (ab _) (ab _) ?_ D_ (fun x i=>by cases i),fun t ht=>List.mem_cons_of_mem _ (c t ht),?_⟩
     ·rcases D with rfl| ⟨v,E,rfl⟩
      ·decide
      ·have:=hs v (List.mem_cons_of_mem _ E);omega
     ·simp[rx,jx,lV];omega
    ·split at h
     ·cases h;refine⟨.mk D_ D_ pT pT ?_ D_ (fun x i=>by cases i),fun t ht=>List.mem_cons_of_mem _ ht,?_⟩
      ·have:=hs t S_;omega
      ·simp[rx,jx,lV];omega
     ·cases h
   ·cases h
end Go.Proofs.YtnchbpoopnjghaaGreatDoor
