/- Parts of a proof: contracts of the functions that the laws reach. -/
import Derived.Test.YtnchbpoopnjghaaGreatDoorRZ7
set_option maxHeartbeats 100000000
set_option linter.all false
open Go.Proofs.Tryz
namespace Go.Proofs.YtnchbpoopnjghaaGreatDoor
open Go.RowKit
def xh{fid:FuncId}{p:Rx->Bool}(args:List Rx)(m:∀x∈args,aa prog fid [dR x] (.one (dB (p x))))(v:args.length<=1000000):aa prog 86 [.leaf (.sl args.length (gc args)),dF fid] (.one (dN .i64 (if args.findIdx p<args.length then((args.findIdx p:Nat):Int)else -1))):=by
 have u:=List.findIdx_le_length (p:=p) (xs:=args);have l:∀(i:Nat)(g:i<args.length),i<args.findIdx p->p args[i]=false:=fun i g h=>by have:=List.not_of_lt_findIdx h;simpa using this
 have t:∀(h:args.findIdx p<args.length),p (args[args.findIdx p])=true:=fun h=>List.findIdx_getElem;generalize args.findIdx p=f at *;refine kV func86 ?_;refine av Nat (fun i=>i<=f) (fun i=>⟨[(0, .d (.leaf (.sl args.length (gc args)))),(1, .d (dF fid)),(4, .d (dN .i64 0)),(7, .d (dN .i64 args.length)),(8, .d (dN .i64 i))],[]⟩) (fun i=>args.length-i) 0 (Nat.zero_le _)
  kw ?_
 intro i g;refine kI ?_;by_cases hlt:i<args.length
 ·refine kT ?_;obtain⟨o1,na1,xs1,nb1,ys1,nm1,n1,cs1,b⟩:=aJ args[i];have r:args[i]? =some args[i]:=by simp[hlt]
  have hat:∀(j:Nat)(a:AV),(af o1 na1 xs1 nb1 ys1 nm1 n1 cs1)[j]? =some a->(gc args)[i*7+j]? =some a:=fun j a h=>fO args i args[i] r j a (by rw[b];exact h);have c:=m args[i] (List.getElem_mem hlt);rw[show dR args[i]= .agg (af o1 na1 xs1 nb1 ys1 nm1 n1 cs1) from congrArg DV.agg b]at c;refine kW ?_;refine x4 ?_;refine kO ?_;cases hb:p args[i]
  ·rw[hb]at c;refine kQ c ?_;refine⟨i+1,?_,by omega,weak ⟨rfl,rfl,rfl,rfl,aq O_ O_,trivial⟩ trivial rfl⟩;by_cases e:i=f
   ·subst e;have:=t hlt;rw[hb]at this;cases this
   ·omega
  ·rw[hb]at c;have e:i=f:=by
    by_cases e:i<f
    ·have:=l i hlt e;rw[hb]at this;cases this
    ·omega
   subst e;rw[if_pos hlt];refine kC c ?_;exact am
 ·rw[if_neg O_];refine kE ?_;exact am
def eQ{fid:FuncId}{p:Rx->Bool}(args:List Rx)(g:∀x∈args,aa prog fid [dR x] (.one (dB (p x))))(f:args.length<=1000000){b:Bool}(d:args.any p=b):aa prog 42 [.leaf (.sl args.length (gc args)),dF fid] (.one (dB b)):=by
 have c:=xh args g f;have a:(args.findIdx p<args.length)↔args.any p=true:=by rw[List.any_eq_true];exact List.findIdx_lt_length
 cases b with
 |true=>rw[if_pos (a.2 d)]at c;refine kV func42 ?_;refine kC c ?_;refine kT ?_;exact am
 |false=>rw[if_neg (fun h=>by rw[a.1 h]at d;cases d)]at c;refine kV func42 ?_;refine kC c ?_;exact am
def tf:aa prog 126 [HI] (.one (dB true)):=by show aa prog _ [.agg pk] _;refine kU func126 ?_;exact am
def gL{x:Rx}{b:Bool}(h:aa prog 87 [dR x] (.one (dB b))):aa prog 127 [dR x] (.one (dB (!b))):=by
 obtain⟨m,c,g,d,i,f,l,a,j⟩:=aJ x;rw[show dR x= .agg (af m c g d i f l a) from congrArg DV.agg j]at h ⊢;cases b;all_goals
  refine kV func127 ?_;refine kC h ?_;exact kF
def U7(a:Ex):gc [rx a]=aE a:=by show aR (rx a)++[]=_;rw[c_];rfl
def Vg(a b:Ex):gc [rx a,rx b]=aE a++aE b:=by show aR (rx a)++(aR (rx b)++[])=_;rw[c_];rfl
def iB:∀(e:Ex),gR e->aa prog 87 [dE e] (.one (dB true))
 | .num v u,d=>by
  obtain⟨F,G,H⟩:=d;obtain⟨t,c,S⟩:=i6 G D_;rw[F]at c;refine KE ?_;by_cases l:u=[]
  ·subst l;refine iA ?_;refine EC ?_;refine kW ?_;refine kC c ?_;refine kG ?_;refine kO4 ?_;refine JE ?_;exact am
  ·have f:=H.resolve_left l;have g:=kr u (by
    cases u with
    |nil=>exact absurd rfl l
    |cons c r=>simp only[mq,B_,decide_eq_true_eq]at f;omega)
   rw[f]at g;refine iA ?_;refine EC ?_;refine kW ?_;refine kC c ?_;refine kG ?_;refine kO4 ?_;refine aj rfl rfl rfl rfl rfl rfl rfl (bA (a:=u) (b:=[]) l) ?_;refine kO3 ?_;refine kC g ?_;exact am
 | .nam s,d=>by
  have f:mq s=true:=d;have g:=kr s (by
   cases s with
   |nil=>cases f
   |cons c r=>simp only[mq,B_,decide_eq_true_eq]at f;omega)
  rw[f]at g;show aa prog _ [.agg ([.val (.int .i64 2)]++pk++[.val (vL s), .sl 0 []])] _;refine iA ?_;refine Iz ?_;refine kW ?_;refine kQ tf ?_;refine kC g ?_;exact am
 | .neg a,d=>by
  have c:=eQ (fid:=127) (p:=fun _=>false) [rx a] (fun x j=>by cases d_.1 j;exact gL (iB a d)) S_ (b:=false) rfl
  rw[U7]at c;obtain⟨O,z,C,A,D,B,I,m,w⟩:=aM a;rw[show dE (.neg a)= .agg ([.val (.int .i64 3)]++pk++[.val (vL []), .sl 1 (aE a)]) from congrArg DV.agg (pK a)];rw[w]at c ⊢;refine iA ?_;refine Ka ?_;refine Kw ?_;exact am
 | .bin k a b,d=>by
  have c:=eQ (fid:=127) (p:=fun _=>false) [rx a,rx b] (fun x j=>by
   rcases f_.1 j with rfl|j
   ·exact gL (iB a d.1)
   ·cases d_.1 j;exact gL (iB b d.2)) S_ (b:=false) rfl
  rw[Vg]at c;obtain⟨O,z,C,A,D,B,I,m,w⟩:=aM a;obtain⟨V,J,Q,L,R,N,U,E,y⟩:=aM b;refine PS ?_;rw[w,y]at c ⊢;cases k
  ·refine iA ?_;refine Ju ?_;refine Kw ?_;exact am
  ·refine iA ?_;refine GI ?_;refine Kw ?_;exact am
  ·refine iA ?_;refine Ir ?_;refine Kw ?_;exact am
  ·refine iA ?_;refine GD ?_;refine Kw ?_;exact am
def Cc{e:Ex}(j:gR e)(m:vY (rx e))(l:jx (rx e)<=1000000)(u:pZ (rx e)<=40):aa prog 44 [dE e] (.one (dN .i64 0)):=by have c1:=iB e j;have c2:aa prog 81 [dE e] (.one (dN .i64 (pZ (rx e)))):=mE (rx e) m l;obtain⟨t,b,f,c,g,d,r,a,i⟩:=aM e;rw[show dE e= .agg (af t b f c g d r a) from congrArg DV.agg i]at c1 c2 ⊢;refine kU func44 ?_;exact Jy
def QK:∀(e:Ex),gR e->aF e 0≠[]
 | .num v u,c=>by obtain⟨d,f⟩:=Option.isSome_iff_exists.1 c.1;show gC 4 0 (Ae v++fj u)≠[];rw[uW,Ae,f];intro h;exact rz f (List.append_eq_nil_iff.1 h).1
 | .nam s,c=>by show gC 4 0 s≠[];rw[uW];intro h;subst h;cases c
 | .neg a,c=>by show gC 3 0 ([45]++aF a 3)≠[];rw[uW];simp
 | .bin k a b,c=>by show gC (bM k) 0 (aF a (bM k)++gW k++aF b (bM k+1))≠[];rw[uW];cases k<;>simp[gW]
def yd{e:Ex}(b:gR e)(y:vY (rx e))(x:jx (rx e)<=1000000)(w:pZ (rx e)<=40)(B:(aF e 0).length<=65536):aa prog 63 [dE e] (.tup [dL (aF e 0),dN .i64 0]):=by have c1:=Cc b y x w;have l:ay prog 105 [.box 850 0, .d (dE e), .d (dN .i64 0)] VQ (.v (.tup [])) (Mu 701 (aF e 0)):=((m6 e b 0 D_).w0 O_).swap 950 850 rfl;have m:=Ra (aF e 0) O_;have r:=Gc (aF e 0) (QK e b);generalize aF e 0=t at *;obtain⟨A,c,i,f,j,g,z,a,u⟩:=aM e;rw[show dE e= .agg (af A c i f j g z a) from congrArg DV.agg u]at c1 l ⊢;refine kU func63 ?_;refine pN ?_;refine TK yj rfl rfl rfl rfl rfl rfl ?_;refine kW ?_;refine kZ l ?_;refine kD m ?_;refine kY ?_;refine kD r ?_;exact am
def Rv(ts:List Tk):Prop:=∀t∈ts,(t.1=1->mq t.2.1=true)/\(t.1=2->t.2.1.length<=500)
def Rv.sub{ts r:List Tk}(h:Rv ts)(a:∀t∈r,t∈ts):Rv r:=fun t b=>h t (a t b)
def Nq{t:Tk}{r j:List Tk}{e:Ex}(c:t.2.1.length<=500)(g:Rv r)(h:fg t r= .ok (e,j)):gR e:=by
 unfold fg at h;split at h
 ·cases h
 ·rename_i q b;split at h
  ·cases h
  ·rename_i d f;have a:(fZ q).isSome=true:=by rw[f];rfl
   split at h
   ·rename_i v l;split at h
    ·rename_i i;cases h;exact⟨a,ib c b, .inr ((g v S_).1 i)⟩
    ·cases h;exact⟨a,ib c b, .inl rfl⟩
   ·cases h;exact⟨a,ib c b, .inl rfl⟩
def qu:∀(f:Nat)(m:Md)(c:List Tk)(e:Ex)(r:List Tk),Rv c->(∀b e0,m= .more b e0->gR e0)->pP f m c=some (.ok (e,r))->gR e
 |0,_,_,_,_,_,_,h=>by cases h
 |f+1, .sum,c,e,r,hs,d,h=>by
  rw[jE]at h;split at h
  ·rename_i j i h1;exact N0
  ·exact jK
 |f+1, .prod,c,e,r,hs,d,h=>by
  rw[gK]at h;split at h
  ·rename_i j i h1;exact N0
  ·exact jK
 |f+1, .more b e0,c,e,r,hs,d,h=>by
  rw[dl]at h;split at h
  ·rename_i k i h0;split at h
   ·rename_i j q h1;have g:=hs.sub (uf h0);have a:=qu f _ _ _ _ g (fun _ _ h=>by cases b<;>cases h) h1;exact qu f _ _ _ _ (g.sub (gv f _ _ _ _ h1)) (fun _ _ h=>by cases h;exact⟨d b e0 rfl,a⟩) h
   ·exact jK
  ·cases h;exact d b _ rfl
 |f+1, .un,c,e,r,hs,d,h=>by
  rw[i8]at h;split at h
  ·rename_i i h0;split at h
   ·rename_i j q h1;cases h;have a:=qu f .un _ _ _ (hs.sub (fc h0)) (fun _ _ h=>by cases h) h1;exact a
   ·exact jK
  ·exact qu f .prim _ _ _ hs (fun _ _ h=>by cases h) h
 |f+1, .prim,c,e,r,hs,d,h=>by
  rw[eP]at h;split at h
  ·rename_i i h0;split at h
   ·rename_i j q h1;split at h
    ·rename_i v l;cases h;exact qu f .sum _ _ _ (hs.sub (fc h0)) (fun _ _ h=>by cases h) h1
    ·cases h
   ·exact jK
  ·split at h
   ·rename_i t i _;split at h
    ·rename_i l;injection h with h;exact Nq ((hs t S_).2 l) (hs.sub (fun t u=>List.mem_cons_of_mem _ u)) h
    ·split at h
     ·rename_i h1;cases h;exact(hs t S_).1 h1
     ·cases h
   ·cases h
def Fc(p:UInt8->Bool):∀r:List UInt8,aT p (r.take (aT p r))=(r.take (aT p r)).length:=fun r=>by rw[io,Nat.min_self,U_,Nat.min_eq_left (gb p r)]
def J3{r:List UInt8}{n:Nat}(h:gx r=(1,n))(d:n<=24)(h0:0<n):mq (r.take n)=true:=by
 cases r with
 |nil=>cases h
 |cons c r=>
  rw[gx]at h;split at h
  ·rename_i b;cases h;have a:=Fc fF (c::r);generalize aT fF (c::r)=n at *;obtain⟨n,rfl⟩:∃k,n=k+1:=⟨n-1,by omega⟩;rw[List.take_succ_cons]at a ⊢;have hlen:(c::r.take n).length<=n+1:=by simp;omega
   simp only[mq,B_,decide_eq_true_eq];exact⟨by omega,b,a⟩
  ·split at h
   ·cases h
   ·split at h
    ·cases h
    ·split at h
     ·cases h
     ·split at h<;>cases h
def wG:∀(f:Nat)(r:List UInt8)(e:Nat)(b L:List Tk),dw f r e b= .ok L->(∀t∈b,t.1=1->mq t.2.1=true)-> ∀t∈L,t.1=1->mq t.2.1=true
 |0,_,_,_,_,h,_=>by cases h
 |f+1,[],e,b,L,h,g=>by
  rw[dw]at h;cases h;intro t a d;rcases List.mem_append.1 a with a|a
  ·exact g t a d
  ·cases d_.1 a;cases d
 |f+1,c::r,e,b,L,h,g=>by
  rw[dw]at h;split at h
  ·exact wG f _ _ _ _ h g
  ·split at h
   ·cases h
   ·rename_i l;split at h
    ·cases h
    ·rename_i j;refine wG f _ _ _ _ h ?_;intro t a d;rcases List.mem_append.1 a with a|a
     ·exact g t a d
     ·cases d_.1 a;have d:(gx (c::r)).1=1:=d;exact J3 (Prod.ext d rfl) (by
       by_cases i:24<(gx (c::r)).2
       ·exact absurd ⟨d,i⟩ j
       ·omega) O_
def yC{na nb:Bool}{xs ys:List Nat}(c:xs.length<=2147483648)(a:ys.length<=2147483648):aa prog 24 [Gp na xs nb ys,Gp na xs nb ys] (.one (dB true)):=by have c1:aa prog 59 [dI na xs,dI na xs] (.one (dB true)):=fW c (kz rfl);have b:aa prog 59 [dI nb ys,dI nb ys] (.one (dB true)):=fW a (kz rfl);refine kU func24 ?_;refine pN ?_;refine kC b ?_;exact am
inductive P8:Rx->Prop
 |mk {op:Int} {na:Bool} {xs:List Nat} {nb:Bool} {ys:List Nat} {nm:List UInt8} {args:List Rx}:xs.length<=2147483648->ys.length<=2147483648->args.length<=1000000->(∀x∈args,P8 x)->P8 (.mk op na xs nb ys nm args)
def gR.lw:∀(e:Ex),gR e->P8 (rx e)
 | .num v u,h=> .mk (V_ h.2.1.1.digs D_) (V_ h.2.1.2.digs D_) S_ (fun x c=>by cases c)
 | .nam s,h=> .mk S_ S_ S_ (fun x c=>by cases c)
 | .neg a,h=> .mk S_ S_ S_ (fun x c=>by cases d_.1 c;exact gR.lw a h)
 | .bin k a b,h=> .mk S_ S_ S_ (fun x c=>by
  rcases f_.1 c with rfl|c
  ·exact gR.lw a h.1
  ·cases d_.1 c;exact gR.lw b h.2)
def uE:∀(x:Rx),P8 x->aa prog 70 [dR x,dR x] (.one (dB true)):=by
 refine iN fun l na m nb r g f A t=>?_;obtain⟨w,y,B,z⟩:=t;have v:=yC (na:=na) (nb:=nb) w y;show aa prog _ [.agg (af l na m nb r g f.length (gc f)), .agg (af l na m nb r g f.length (gc f))] _;refine kU func70 ?_;refine pi ?_;refine kB false ?_ ?_
 ·exact(by simp)
 refine kO5 ?_;refine aj rfl rfl rfl rfl rfl rfl rfl (ee (a:=g) (b:=g) rfl) ?_;iterate 8 refine kO ?_
 refine kB false ?_ ?_
 ·exact(by simp)
 iterate 6 refine kO ?_
 refine kQ v ?_;refine av Nat (fun i=>i<=f.length) (fun i=>⟨[(2, .box 0 0),(3, .box 1 0),(4, .d (dB false)),(5, .d (dN .i64 i))],[(0,some (af l na m nb r g f.length (gc f))),(1,some (af l na m nb r g f.length (gc f)))]⟩) (fun i=>f.length-i) 0 (Nat.zero_le _)
  kw ?_
 intro i C;refine kI ?_;refine kO4 ?_;by_cases hlt:i<f.length
 ·refine kT ?_;obtain⟨o1,na1,xs1,nb1,ys1,nm1,n1,cs1,u⟩:=aJ f[i];have t:f[i]? =some f[i]:=by simp[hlt]
  have hat:∀(j:Nat)(a:AV),(af o1 na1 xs1 nb1 ys1 nm1 n1 cs1)[j]? =some a->(gc f)[i*7+j]? =some a:=fun j a h=>fO f i f[i] t j a (by rw[u];exact h);have c:=A f[i] (List.getElem_mem hlt) (z _ (List.getElem_mem hlt));rw[show dR f[i]= .agg (af o1 na1 xs1 nb1 ys1 nm1 n1 cs1) from congrArg DV.agg u]at c;refine kW ?_;refine x4 ?_;refine kW ?_;refine x4 ?_;refine kW ?_;refine kQ c ?_;exact⟨i+1,hlt,by omega,weak ⟨rfl,rfl,rfl,aq O_ O_,trivial⟩ ⟨rfl,rfl,trivial⟩ rfl⟩
 ·refine kE ?_;exact am
def TJ:P8 z7:= .mk S_ S_ S_ (fun x a=>by cases a)
def Bi(q:Rat):∀k,pw q k=q*(((10^k:Nat):Int):Rat)
 |0=>by simp[pw]
 |k+1=>by
  have e:(((10^(k+1):Nat):Int):Rat)=(((10^k:Nat):Int):Rat)*((10:Int):Rat):=by rw[<- Rat.intCast_mul];congr 1
  rw[pw,Bi q k,e,Rat.mul_assoc]
def MM{q:Rat}{k:Nat}(h:((pw q k).den:Int)=1):Rat.divInt (pw q k).num ((10^k:Nat):Int)=q:=by
 have b:((pw q k).num:Rat)=pw q k:=by have c:(pw q k).den=1:=O_;have:=Rat.num_divInt_den (pw q k);rw[c]at this;rw[<- this];exact(Rat.num_divInt_den (((pw q k).num:Int):Rat)).symm ▸ rfl
 have a:(((10^k:Nat):Int):Rat)≠0:=by intro h;have:=Rat.intCast_eq_zero_iff.1 h;have a:=Nat.pow_pos (n:=k) (show 0<10 by decide);omega
 rw[Rat.divInt_eq_div,b,Bi,Rat.div_def,Rat.mul_assoc,Rat.mul_inv_cancel _ a,Rat.mul_one]
def Rg(t:List UInt8):Prop:=∃a,iz false a/\(t=a∨ ∃b,b≠[]/\(∀x∈b,cM x)/\t=a++46::b)
def ju{q:Rat}{t:List UInt8}(h:fZ q=some t):Rg t/\t.length<=40/\b8 t=some q:=by
 have S:¬N1 q<0:=fun hn=>by rw[fZ,if_pos hn]at h;cases h
 obtain⟨K,V,_,d⟩:=mQ S;rcases d with⟨_,d⟩| ⟨V,X,d⟩
 ·rw[d]at h;cases h
 rw[d]at h;split at h
 ·rename_i hlen;cases h;have Q:=MM X;have E:0<=(pw q K).num:=by
   have h0:0<=q.num:=by have:=Int.sign_nonneg_iff (x:=q.num);unfold N1 at S;omega
   have:(0:Rat)<=pw q K:=by rw[Bi];exact Rat.mul_nonneg (Rat.num_nonneg.1 h0) (Rat.intCast_nonneg.2 (Int.natCast_nonneg _))
   exact Rat.num_nonneg.2 this
  obtain⟨N,W⟩:=Int.eq_ofNat_of_zero_le E;rw[W]at Q hlen ⊢;rw[rB]at hlen ⊢;have G:=nX N;have j:=DM N;have l:=AA N;have f:1<(jQ N).length-> ∀c r,jQ N=c::r->c≠48:=fun I=>by
   rcases j.2.2 with h|h
   ·exact h
   ·omega
  generalize jQ N=u at *;have C:0<u.length:=List.length_pos_iff.2 j.1;have L:=Af K u;have D:∀c∈dx K u,cM c:=fun c d=>by
   unfold dx at d;rcases List.mem_append.1 d with d|d
   ·rw[List.eq_of_mem_replicate d];decide
   ·exact G c d
  have O:num (dx K u)=N:=by rw[dx,Ge,l]
  by_cases h0:0<K
  ·have R:=List.take_append_drop ((dx K u).length-K) (dx K u);have J:K+1<u.length->dx K u=u:=fun I=>by unfold dx;rw[show K+1-u.length=0 by omega];rfl
   rw[jV,if_pos h0]at hlen ⊢;have A:((dx K u).take ((dx K u).length-K)).length=(dx K u).length-K:=by rw[U_];omega
   have i:((dx K u).drop ((dx K u).length-K)).length=K:=by rw[n_];omega
   have g:∀c∈(dx K u).take ((dx K u).length-K),cM c:=fun c d=>D c (List.mem_of_mem_take d);have p:∀c∈(dx K u).drop ((dx K u).length-K),cM c:=fun c d=>D c (List.mem_of_mem_drop d);have H:∀c r,(dx K u).take ((dx K u).length-K)=c::r->1<(dx K u).length-K->c≠48:=fun c r e I=>by
    rw[J O_]at e I L;cases d:u with
    |nil=>rw[d]at C;simp at C
    |cons x y=>have:=f O_ x y d;rw[d]at e;obtain⟨m,hm⟩:∃m,(x::y).length-K=m+1:=⟨(x::y).length-K-1,by rw[<- d];omega⟩;rw[hm,List.take_succ_cons]at e;cases e;exact this
   have F:num ((dx K u).take ((dx K u).length-K))*10^K+num ((dx K u).drop ((dx K u).length-K))=N:=by
    rw[<- O];conv=>rhs;rw[<- R]
    rw[m8,i]
   generalize(dx K u).take ((dx K u).length-K)=a at *;generalize(dx K u).drop ((dx K u).length-K)=b at *;rw[e_,List.singleton_append]at hlen ⊢;have v:iz false a:=⟨fun e=>by rw[e]at A;simp at A;omega,g,by
    by_cases U:1<(dx K u).length-K
    ·exact .inl fun c r e=>H c r e U
    ·exact .inr ⟨by omega,rfl⟩⟩
   have B:b≠[]:=fun e=>by rw[e]at i;simp at i;omega
   refine⟨⟨a,v, .inr ⟨b,B,p,rfl⟩⟩,hlen,?_⟩;have f:∀c r,a++46::b=c::r->cM c:=fun c r e=>by
    cases a with
    |nil=>exact absurd rfl v.1
    |cons x y=>cases e;exact g _ S_
   have w:=CJ (b:=false) f;simp only[Bool.false_eq_true,if_false,List.nil_append]at w;have z:fJ (a++46::b)=some q:=by
    rw[Dx (fun hm=>?_) (fun hm=>Qt (g _ hm)),if_pos ⟨v,B,p⟩,i,F]
    ·rw[show((N:Nat):Int)=(N:Int) from rfl,Q]
    ·rcases List.mem_append.1 hm with hm|hm
     ·exact Gr (g _ hm)
     ·rcases f_.1 hm with hm|hm
      ·exact absurd hm D_
      ·exact Gr (p _ hm)
   unfold b8;rw[if_pos O_,w.1,w.2,z];rfl
  ·obtain rfl:K=0:=O_;have Y:jV 0 u=u:=by rw[jV,if_neg h0,dx,show 0+1-u.length=0 by omega];rfl
   rw[Y]at hlen ⊢;refine⟨⟨u,j, .inl rfl⟩,hlen,?_⟩;have f:∀c r,u=c::r->cM c:=fun c r e=>G c (by rw[e];simp);have w:=CJ (b:=false) f;simp only[Bool.false_eq_true,if_false,List.nil_append]at w;have z:fJ u=some q:=by rw[yH (fun hm=>Gr (G _ hm)) (fun hm=>Qt (G _ hm)),if_pos j,l];congr 1;rw[<- Q];exact(Rat.num_divInt_den ((N:Int):Rat)).symm
   unfold b8;rw[if_pos O_,w.1,w.2,z];rfl
 ·cases h
def K3(r:List UInt8):Prop:=∀c a,r=c::a->c=32∨c=41
def lP{p:UInt8->Bool}{a r:List UInt8}(b:∀c∈a,p c=true)(d:∀c e,r=c::e->p c=false):aT p (a++r)=a.length:=by
 unfold aT;rw[List.takeWhile_append_of_pos b];cases r with
 |nil=>simp
 |cons c r=>rw[List.takeWhile_cons,d c r rfl];simp
def vm{p:UInt8->Bool}{s:List UInt8}(h:aT p s=s.length):∀c∈s,p c=true:=by
 induction s with
 |nil=>intro c b;cases b
 |cons a s d=>
  unfold aT at h d;rw[List.takeWhile_cons]at h;split at h
  ·rename_i e;intro c b;rcases f_.1 b with rfl|b
   ·exact e
   ·exact d (by simpa using h) c b
  ·simp at h
def Q6{r:List UInt8}(h:K3 r):∀c a,r=c::a->fF c=false:=fun c a e=>by rcases h c a e with rfl|rfl <;>rfl
def Cp{s r:List UInt8}(h:mq s=true)(e:K3 r):gx (s++r)=(1,s.length)/\s.length<=24:=by
 cases s with
 |nil=>cases h
 |cons c s=>simp only[mq,B_,decide_eq_true_eq]at h;obtain⟨a,b,d⟩:=h;refine⟨?_,a⟩;rw[List.cons_append,gx,if_pos b,<- List.cons_append,lP (vm d) (Q6 e)]
def n7{c:UInt8}:bC c=true↔cM c:=by unfold bC cM;simp
def LR{c:UInt8}(h:cM c):dy c=false:=by unfold cM at h;unfold dy;simp;omega
def NF{t r:List UInt8}(h:Rg t)(m:K3 r):jZ (t++r)=t.length:=by
 obtain⟨a,v,h⟩:=h;have d:∀c∈a,bC c=true:=fun c l=>n7.2 (v.2.1 c l);have f:∀c g,r=c::g->bC c=false:=fun c g e=>by rcases m c g e with rfl|rfl <;>rfl
 rcases h with rfl| ⟨b,w,j,rfl⟩
 ·have e:=lP d f;unfold jZ;rw[e,if_neg];rintro⟨i,_⟩;rw[g_ (l_ _),Nat.sub_self]at i;cases r with
  |nil=>cases i
  |cons c r=>cases i;rcases m 46 r rfl with h|h<;>exact absurd h D_
 ·have e:aT bC (a++46::b++r)=a.length:=by rw[e_];exact lP d (fun c g e=>by cases e;rfl)
  have p:(a++46::b++r).drop (a.length+1)=b++r:=by rw[e_,List.drop_append];simp
  have q:aT bC (b++r)=b.length:=lP (fun c l=>n7.2 (j c l)) f;have u:(a++46::b++r)[a.length]? =some 46:=by rw[e_,g_ (l_ _),Nat.sub_self];rfl
  unfold jZ;rw[e,p,q,u,if_pos ⟨rfl,List.length_pos_iff.2 w⟩];simp;omega
def Rg.head{t:List UInt8}(h:Rg t):∃c r,t=c::r/\cM c:=by
 obtain⟨a,d,h⟩:=h;cases a with
 |nil=>exact absurd rfl d.1
 |cons c a=>
  have e:=d.2.1 c S_;rcases h with rfl| ⟨b,_,_,rfl⟩
  ·exact⟨c,a,rfl,e⟩
  ·exact⟨c,a++46::b,rfl,e⟩
def QQ{t r:List UInt8}(h:Rg t)(d:K3 r):gx (t++r)=(2,t.length):=by have b:=NF h d;obtain⟨c,s,rfl,a⟩:=h.head;rw[List.cons_append]at b ⊢;rw[gx,LR a,n7.2 a,b];rfl
def Mi(c:UInt8):Bool:=c == 40 || c == 41 || c == 43 || c == 45 || c == 42 || c == 47
def Rs{c:UInt8}(r:List UInt8)(h:Mi c=true):gx (c::r)=(4,1):=by
 simp only[Mi,Bool.or_eq_true,beq_iff_eq]at h;have a:∀c:UInt8,dy c=false->bC c=false->c≠34->c≠10->uB c=true->gx (c::r)=(4,1):=fun c b d e f g=>by simp[gx,b,d,e,f,g]
 rcases h with((((rfl|rfl)|rfl)|rfl)|rfl)|rfl <;>exact a _ D_ D_ D_ D_ D_
def TR(r:List UInt8)(p:Nat)(T:List Tk)(c:List UInt8)(p':Nat):Prop:=∀f a,r.length<f-> ∃b,c.length<b/\dw f r p a=dw b c p' (a++T)
def TR.trans{r d e:List UInt8}{p p' c:Nat}{T b:List Tk}(h:TR r p T d p')(m:TR d p' b e c):TR r p (T++b) e c:=fun f a u=>by obtain⟨j,q,g⟩:=h f a u;obtain⟨l,t,i⟩:=m j (a++T) q;exact⟨l,t,by rw[g,i,e_]⟩
def TR.sp(r:List UInt8)(p:Nat):TR (32::r) p [] r (p+1):=fun f a h=>by obtain⟨f,rfl⟩:∃k,f=k+1:=⟨f-1,by omega⟩;exact⟨f,by simp at h;omega,by rw[dw,if_pos (.inl rfl),c_]⟩
def TR.one{x r:List UInt8}{k:Nat}(p:Nat)(h:gx (x++r)=(k,x.length))(h0:∃c y,x=c::y/\ ¬(c=32∨c=9))(e:k=1->x.length<=24):TR (x++r) p [(k,x,p)] r (p+x.length):=fun f a d=>by obtain⟨c,y,rfl,b⟩:=h0;obtain⟨f,rfl⟩:∃k,f=k+1:=⟨f-1,by omega⟩;refine⟨f,by simp at d;omega,?_⟩;rw[List.cons_append,dw,if_neg b,<- List.cons_append,h];dsimp only;rw[if_neg S_,if_neg (fun h=>by have:=e h.1;omega),List.drop_left,List.take_left]
def TR.sy{c:UInt8}(r:List UInt8)(p:Nat)(h:Mi c=true):TR (c::r) p [(4,[c],p)] r (p+1):=by refine TR.one (x:=[c]) p (Rs r h) ⟨c,[],rfl,?_⟩ (fun h=>by cases h);rintro(rfl|rfl)<;>cases h
def TR.nm{s r:List UInt8}(p:Nat)(h:mq s=true)(d:K3 r):TR (s++r) p [(1,s,p)] r (p+s.length):=by
 obtain⟨a,b⟩:=Cp h d;refine TR.one p a ?_ (fun _=>b);cases s with
 |nil=>cases h
 |cons c s=>simp only[mq,B_,decide_eq_true_eq]at h;exact⟨c,s,rfl,by rintro(rfl|rfl)<;>exact absurd h.2.1 D_⟩
def TR.dc{t r:List UInt8}(p:Nat)(h:Rg t)(b:K3 r):TR (t++r) p [(2,t,p)] r (p+t.length):=by refine TR.one p (QQ h b) ?_ (fun h=>by cases h);obtain⟨c,s,rfl,a⟩:=h.head;exact⟨c,s,rfl,by rintro(rfl|rfl)<;>exact absurd a D_⟩
def Fn(T:List Tk)(p p':Nat):Prop:=∀t∈T,t.1≠0/\(t.1=4-> ∃c,t.2.1=[c])/\t.2.1.length<=500/\p<=t.2.2/\t.2.2<p'
def Fn.app{T g:List Tk}{p i j p':Nat}(h:Fn T p i)(l:Fn g j p')(m:i<=p')(q:p<=j):Fn (T++g) p p':=fun t f=>by
 rcases List.mem_append.1 f with f|f
 ·obtain⟨a,b,c,d,e⟩:=h t f;exact⟨a,b,c,d,by omega⟩
 ·obtain⟨a,b,c,d,e⟩:=l t f;exact⟨a,b,c,by omega,e⟩
def Fn.one{k p p' q:Nat}{x:List UInt8}(h0:k≠0)(d:k=4-> ∃c,x=[c])(f:x.length<=500)(a:p<=q)(b:q<p'):Fn [(k,x,q)] p p':=fun t e=>by cases d_.1 e;exact⟨h0,d,f,a,b⟩
def PP(m:Md)(ts:List Tk)(x:gG):Prop:=∃f,pP f m ts=some x
def Vw(r:List Tk):Prop:=∀t u,r=t::u->t.1≠1
def VB(r:List Tk):Prop:=eN true r=none
def S3(e:Ex)(T:List Tk):Prop:=∀r,Vw r->PP .un (T++r) (.ok (e,r))
def S2(e:Ex)(T:List Tk):Prop:=∀r x,Vw r->PP (.more true e) r x->PP .prod (T++r) x
def S1(e:Ex)(T:List Tk):Prop:=∀r x,Vw r->VB r->PP (.more false e) r x->PP .sum (T++r) x
def S3.s2{e:Ex}{T:List Tk}(h:S3 e T):S2 e T:=fun r x a⟨f,b⟩=>by obtain⟨g,c⟩:=h r a;exact⟨max f g+1,by rw[gK,hZ (Nat.le_max_right f g) c];exact hZ (Nat.le_max_left f g) b⟩
def nu{a:Bool}{e:Ex}{r:List Tk}(h:eN a r=none):PP (.more a e) r (.ok (e,r)):=⟨1,by rw[dl,h]⟩
def S2.s1{e:Ex}{T:List Tk}(h:S2 e T):S1 e T:=fun r x a b⟨f,c⟩=>by obtain⟨g,d⟩:=h r _ a (nu b);exact⟨max f g+1,by rw[jE,hZ (Nat.le_max_right f g) d];exact hZ (Nat.le_max_left f g) c⟩
def Sc{e:Ex}{T:List Tk}{p p':Nat}(h:∀r,PP .sum (T++(4,[41],p')::r) (.ok (e,(4,[41],p')::r))):S3 e ([(4,[40],p)]++T++[(4,[41],p')]):=fun r i=>by
 obtain⟨f,g⟩:=h r;refine⟨f+2,?_⟩;have a:[(4,[40],p)]++T++[(4,[41],p')]++r=(4,[40],p)::(T++(4,[41],p')::r):=S_;have b:bh 45 ((4,[40],p)::(T++(4,[41],p')::r))=none:=by simp[bh]
 have c:bh 40 ((4,[40],p)::(T++(4,[41],p')::r))=some (T++(4,[41],p')::r):=by simp[bh]
 have d:bh 41 ((4,[41],p')::r)=some r:=by simp[bh]
 rw[a,i8,b];dsimp only;rw[eP,c];dsimp only;rw[g];dsimp only;rw[d]
def S1.par{e:Ex}{T:List Tk}{p p':Nat}(h:S1 e T):S3 e ([(4,[40],p)]++T++[(4,[41],p')]):=
 Sc fun r=>h ((4,[41],p')::r) (.ok (e,(4,[41],p')::r)) (fun t u e=>by cases e;show(4:Nat)≠1;decide) (by rfl) (nu (by rfl))
def S3.neg{e:Ex}{T:List Tk}{p:Nat}(h:S3 e T):S3 (.neg e) ([(4,[45],p)]++T):=fun r b=>by
 obtain⟨f,c⟩:=h r b;refine⟨f+1,?_⟩;have a:bh 45 ([(4,[45],p)]++T++r)=some (T++r):=by simp[bh]
 rw[i8,a];dsimp only;rw[c]
def S3.nam(s:List UInt8)(p:Nat):S3 (.nam s) [(1,s,p)]:=fun r _=>⟨2,by simp[i8,eP,bh]⟩
def S3.num{q:Rat}{t u:List UInt8}(p p':Nat)(h:fZ q=some t):S3 (.num q u) ((2,t,p)::if u=[]then []else [(1,u,p')]):=fun r d=>by
 refine⟨2,?_⟩;have e:=(ju h).2.2;have b:∀L,bh 45 ((2,t,p)::L)=none:=fun L=>by simp[bh]
 have c:∀L,bh 40 ((2,t,p)::L)=none:=fun L=>by simp[bh]
 rw[List.cons_append,i8,b];dsimp only;rw[eP,c];dsimp only;rw[if_pos rfl];congr 1;unfold fg;dsimp only;rw[e];dsimp only;rw[h];dsimp only;by_cases a:u=[]
 ·subst a;rw[if_pos rfl,List.nil_append];cases r with
  |nil=>rfl
  |cons v r=>dsimp only;rw[if_neg (d v r rfl)]
 ·rw[if_neg a];rfl
def U6{k:B4}{a b:Ex}{h d:List Tk}{p:Nat}{c:UInt8}(q:mF false [c]=some k)(j:mF true [c]=none)(l:S1 a h)(m:S2 b d):S1 (.bin k a b) (h++[(4,[c],p)]++d):=fun r x i v⟨f,hf⟩=>by
 obtain⟨g,hg⟩:=m r _ i (nu v);have e:h++[(4,[c],p)]++d++r=h++((4,[c],p)::(d++r)):=S_;rw[e];refine l _ x (fun t u e=>by cases e;show(4:Nat)≠1;decide) (by simp[VB,eN,j]) ⟨max f g+1,?_⟩;have e2:eN false ((4,[c],p)::(d++r))=some (k,d++r):=by simp[eN,q]
 exact PH
def Vs{k:B4}{a b:Ex}{h d:List Tk}{p:Nat}{c:UInt8}(m:mF true [c]=some k)(j:S2 a h)(l:S3 b d):S2 (.bin k a b) (h++[(4,[c],p)]++d):=fun r x i⟨f,hf⟩=>by
 obtain⟨g,hg⟩:=l r i;have e:h++[(4,[c],p)]++d++r=h++((4,[c],p)::(d++r)):=S_;rw[e];refine j _ x (fun t u e=>by cases e;show(4:Nat)≠1;decide) ⟨max f g+1,?_⟩;have e2:eN true ((4,[c],p)::(d++r))=some (k,d++r):=by simp[eN,m]
 exact PH
def Sx:Nat->Ex->List Tk->Prop
 |0,e,T=>S1 e T
 |1,e,T=>S1 e T
 |2,e,T=>S2 e T
 |_+3,e,T=>S3 e T
def Sx.of3{e:Ex}{T:List Tk}(h:S3 e T):∀n,Sx n e T
 |0=>h.s2.s1
 |1=>h.s2.s1
 |2=>h.s2
 |_+3=>h
def Sx.low{e:Ex}{T:List Tk}:∀{n m:Nat},n<=m->Sx m e T->Sx n e T
 |0,0,_,h=>h
 |0,1,_,h=>h
 |0,2,_,h=>S2.s1 h
 |0,_+3,_,h=>h.s2.s1
 |1,1,_,h=>h
 |1,2,_,h=>S2.s1 h
 |1,_+3,_,h=>h.s2.s1
 |2,2,_,h=>h
 |2,_+3,_,h=>h.s2
 |_+3,_+3,_,h=>h
 |1,0,h,_=>absurd h D_
 |2,0,h,_=>absurd h D_
 |2,1,h,_=>absurd h D_
 |n+3,0,h,_=>absurd h O_
 |n+3,1,h,_=>absurd h O_
 |n+3,2,h,_=>absurd h O_
def UR(e:Ex)(n:Nat):Prop:=∀p r,K3 r-> ∃T,TR (aF e n++r) p T r (p+(aF e n).length)/\Fn T p (p+(aF e n).length)/\Sx n e T
def LG(e:Ex):1<=uD e:=by
 cases e with
 |num=>exact N_ rfl
 |nam=>exact N_ rfl
 |neg=>exact N_ rfl
 |bin k=>cases k<;>exact N_ rfl
def UR.lift{e:Ex}(h:UR e (uD e))(n:Nat)(m:n<=3):UR e n:=by
 intro p r j;have h0:aF e (uD e)=aF e 0:=by rw[n8 e (uD e),gC,if_neg (Nat.lt_irrefl _)]
 have a:=n8 e n;by_cases g:uD e<n
 ·rw[gC,if_pos g]at a;have l:K3 (41::r):=fun c q e=>by cases e;exact .inr rfl
  obtain⟨T,b,d,f⟩:=h (p+1) (41::r) l;rw[h0]at b d;have hlen:(aF e n).length=(aF e 0).length+2:=by rw[a];simp
  rw[hlen];have i:aF e n++r=40::(aF e 0++41::r):=by rw[a];simp
  rw[i];refine⟨[(4,[40],p)]++T++[(4,[41],p+1+(aF e 0).length)],?_,?_,?_⟩
  ·have:=((TR.sy (aF e 0++41::r) p (c:=40) rfl).trans b).trans (TR.sy (c:=41) r _ rfl);rwa[show p+((aF e 0).length+2)=p+1+(aF e 0).length+1 by omega]
  ·exact((Fn.one (p':=p+1) D_ (fun _=>⟨_,rfl⟩) D_ (l_ _) O_).app d O_ O_).app (Fn.one (p:=p) (p':=p+((aF e 0).length+2)) D_ (fun _=>⟨_,rfl⟩) D_ O_ O_) O_ (l_ _)
  ·exact Sx.of3 (S1.par (Sx.low (LG e) f)) n
 ·rw[gC,if_neg g,<- h0]at a;obtain⟨T,b,d,f⟩:=h p r j;rw[a];exact⟨T,b,d,Sx.low O_ f⟩
def T5(k:B4):∃c,gW k=[32,c,32]/\Mi c=true/\((bM k=1/\mF false [c]=some k/\mF true [c]=none)∨(bM k=2/\mF true [c]=some k)):=by
 cases k
 ·exact⟨43,rfl,rfl, .inl ⟨rfl,rfl,rfl⟩⟩
 ·exact⟨45,rfl,rfl, .inl ⟨rfl,rfl,rfl⟩⟩
 ·exact⟨42,rfl,rfl, .inr ⟨rfl,rfl⟩⟩
 ·exact⟨47,rfl,rfl, .inr ⟨rfl,rfl⟩⟩
def wD:∀(e:Ex),gR e->UR e (uD e)
 | .num v u,d=>by
  intro p r f;obtain⟨i,z,C⟩:=d;obtain⟨t,A⟩:=Option.isSome_iff_exists.1 i;obtain⟨w,Z,_⟩:=ju A;have e0:aF (.num v u) (uD (.num v u))=t++fj u:=by show gC 4 4 (Ae v++fj u)=_;rw[gC,if_neg D_,Ae,A];rfl
  rw[e0];by_cases j:u=[]
  ·subst j;refine⟨[(2,t,p)],?_,?_,?_⟩
   ·have:=TR.dc p w f;simpa[fj]using this
   ·obtain⟨c,y,rfl,_⟩:=w.head;exact Fn.one D_ (fun h=>by cases h) O_ (l_ _) S_
   ·exact Sx.of3 (S3.num (u:=[]) p 0 A) _
  ·have E:=C.resolve_left j;have S:=(Cp (r:=[]) E (fun c D e=>by cases e)).2;have g:K3 (32::(u++r)):=fun c D e=>by cases e;exact .inl rfl
   have x:fj u=32::u:=if_neg j;have B:t++fj u++r=t++(32::(u++r)):=by rw[x];simp
   have N:(t++fj u).length=t.length+1+u.length:=by rw[x];simp;omega
   rw[B,N];refine⟨[(2,t,p)]++[]++[(1,u,p+t.length+1)],?_,?_,?_⟩
   ·have:=((TR.dc p w g).trans (TR.sp (u++r) _)).trans (TR.nm _ E f);rwa[show p+(t.length+1+u.length)=p+t.length+1+u.length by omega]
   ·obtain⟨c,y,rfl,_⟩:=w.head;have V:0<u.length:=List.length_pos_iff.2 j;rw[c_];exact(Fn.one (p':=p+((c::y).length+1+u.length)) D_ (fun h=>by cases h) O_ (l_ _) O_).app (Fn.one (p:=p) D_ (fun h=>by cases h) O_ O_ O_) (l_ _) (l_ _)
   ·have:=S3.num (u:=u) p (p+t.length+1) A;rw[if_neg j]at this;exact Sx.of3 this _
 | .nam s,d=>by
  intro p r f;have d:mq s=true:=d;have S:=(Cp (r:=[]) d (fun c D e=>by cases e)).2;have e0:aF (.nam s) (uD (.nam s))=s:=by show gC 4 4 s=_;rw[gC,if_neg D_]
  rw[e0];refine⟨[(1,s,p)],TR.nm p d f,?_,Sx.of3 (S3.nam s p) _⟩;have:0<s.length:=by
   cases s with
   |nil=>cases d
   |cons c s=>simp
  exact Fn.one D_ (fun h=>by cases h) O_ (l_ _) O_
 | .neg a,d=>by
  intro p r f;have e0:aF (.neg a) (uD (.neg a))=45::aF a 3:=by show gC 3 3 ([45]++aF a 3)=_;rw[gC,if_neg D_];rfl
  rw[e0];obtain⟨T,W,X,Y⟩:=(wD a d).lift 3 (l_ _) (p+1) r f;refine⟨[(4,[45],p)]++T,?_,?_,?_⟩
  ·have:=(TR.sy (aF a 3++r) p (c:=45) rfl).trans W;rwa[show p+(45::aF a 3).length=p+1+(aF a 3).length by simp;omega]
  ·rw[show p+(45::aF a 3).length=p+1+(aF a 3).length by simp;omega];exact(Fn.one (p':=p+1) D_ (fun _=>⟨_,rfl⟩) D_ (l_ _) O_).app X O_ O_
  ·exact Sx.of3 (S3.neg Y) _
 | .bin k a b,d=>by
  intro p r f;obtain⟨c,O,U,Q⟩:=T5 k;have e0:aF (.bin k a b) (uD (.bin k a b))=aF a (bM k)++[32,c,32]++aF b (bM k+1):=by show gC (bM k) (bM k) (aF a (bM k)++gW k++aF b (bM k+1))=_;rw[gC,if_neg (Nat.lt_irrefl _),O]
  have R:bM k<=2:=by cases k<;>decide
  have x:aF (.bin k a b) (uD (.bin k a b))++r=aF a (bM k)++(32::c::32::(aF b (bM k+1)++r)):=by rw[e0];simp
  have B:(aF (.bin k a b) (uD (.bin k a b))).length=(aF a (bM k)).length+3+(aF b (bM k+1)).length:=by rw[e0];simp;omega
  rw[x,B];have g:∀l,K3 (32::l):=fun l c D e=>by cases e;exact .inl rfl
  obtain⟨F,H,I,m⟩:=(wD a d.1).lift (bM k) O_ p (32::c::32::(aF b (bM k+1)++r)) (g _);obtain⟨G,J,L,q⟩:=(wD b d.2).lift (bM k+1) O_ (p+(aF a (bM k)).length+3) r f;refine⟨F++[(4,[c],p+(aF a (bM k)).length+1)]++G,?_,?_,?_⟩
  ·have:=(((H.trans (TR.sp _ _)).trans (TR.sy _ _ U)).trans (TR.sp _ _)).trans J;simp only[c_]at this;rwa[show p+((aF a (bM k)).length+3+(aF b (bM k+1)).length)=p+(aF a (bM k)).length+3+(aF b (bM k+1)).length by omega]
  ·rw[show p+((aF a (bM k)).length+3+(aF b (bM k+1)).length)=p+(aF a (bM k)).length+3+(aF b (bM k+1)).length by omega];exact(I.app (Fn.one (p:=p) (p':=p+(aF a (bM k)).length+3) D_ (fun _=>⟨_,rfl⟩) S_ O_ O_) O_ (l_ _)).app L O_ O_
  ·show Sx (bM k) _ _;rcases Q with⟨i,z,C⟩| ⟨i,z⟩
   ·rw[i]at m q ⊢;exact U6 z C m q
   ·rw[i]at m q ⊢;exact Vs z m q
def Ag{e:Ex}(q:gR e)(p:pZ (rx e)<=40)(A:(aF e 0).length<=65536):∃T,dw ((aF e 0).length+1) (aF e 0) 0 []= .ok T/\wS T (aF e 0).length/\l0 T 0 (aF e 0).length= .ok e:=by
 obtain⟨T,l,d,z⟩:=(wD e q).lift 0 D_ 0 [] (fun c B e=>by cases e);rw[c_,J_]at l;rw[J_]at d;obtain⟨f,b,i⟩:=l ((aF e 0).length+1) [] (m_ _);obtain⟨f,rfl⟩:∃k,f=k+1:=⟨f-1,by simp at b;omega⟩;rw[List.nil_append,dw]at i;have hlen:=jf _ _ _ _ _ i;generalize(aF e 0).length=E at *
 have w:∀T,Fn T 0 E->bX (T++[(0,[],E)]):=by
  intro T;induction T with
  |nil=>intro _;rfl
  |cons t T y=>
   intro h;have a:=h t S_;have:=y (fun u v=>h u (by simp[v]));cases T with
   |nil=>exact⟨⟨a.1,a.2.1,fun _=>a.2.2.1⟩,this⟩
   |cons u T=>exact⟨⟨a.1,a.2.1,fun _=>a.2.2.1⟩,this⟩
 refine⟨_,i,⟨w T d,fun t a=>?_,fun t a=>?_,?_⟩,?_⟩
 ·rcases List.mem_append.1 a with a|a
  ·have:=d t a;exact⟨fun h=>absurd h this.1,fun _=>this.2.2.2.2⟩
  ·cases d_.1 a;exact⟨fun _=>rfl,fun h=>absurd rfl h⟩
 ·rcases List.mem_append.1 a with a|a
  ·have:=(d t a).2.2.1;omega
  ·cases d_.1 a;exact Nat.zero_le _
 ·simp at hlen ⊢;omega
 ·obtain⟨g,r⟩:=z [(0,[],E)] (.ok (e,[(0,[],E)])) (fun t u e=>by cases e;show(0:Nat)≠1;decide) rfl (nu rfl);obtain⟨x,j⟩:=fP (T++[(0,[],E)]);have b:=hZ (Nat.le_max_left g (5*(T++[(0,[],E)]).length+5)) r;have m:=hZ (Nat.le_max_right g (5*(T++[(0,[],E)]).length+5)) j;rw[m]at b;cases b;unfold l0;rw[j];dsimp only;rw[if_neg (fun h=>h rfl),if_neg (fun h=>h rfl),if_pos p]
inductive K4:Rx->Prop
 |mk {op:Int} {na:Bool} {xs:List Nat} {nb:Bool} {ys:List Nat} {nm:List UInt8} {args:List Rx}:xs.length<=510->ys.length<=510->nm.length<=65536->(∀x∈args,K4 x)->K4 (.mk op na xs nb ys nm args)
def wg{s:List UInt8}(h:mq s=true):s.length<=24:=by
 cases s with
 |nil=>simp
 |cons c r=>simp only[mq,B_,decide_eq_true_eq]at h;exact h.1
def gR.lm:∀e,gR e->K4 (rx e)
 | .num v u,h=> .mk h.2.1.1.digs h.2.1.2.digs (by
  rcases h.2.2 with rfl|h
  ·simp
  ·have:=wg h;omega) (fun x c=>by cases c)
 | .nam s,h=> .mk S_ S_ (by have:=wg h;omega) (fun x c=>by cases c)
 | .neg a,h=> .mk S_ S_ S_ (fun x c=>by cases d_.1 c;exact gR.lm a h)
 | .bin k a b,h=> .mk S_ S_ S_ (fun x c=>by
  rcases f_.1 c with rfl|c
  ·exact gR.lm a h.1
  ·cases d_.1 c;exact gR.lm b h.2)
def nK{na nb:Bool}{xs ys:List Nat}{q:Rat}(e:FH na xs nb ys=aQ q)(a:xs=digs q.num.natAbs)(b:ys=digs (q.den:Int).natAbs)(f:fL na xs nb ys=true):mO na xs nb ys=fZ q:=by
 have c:na=decide (q.num<0):=by have:=congrArg (fun l:List AV=>l[0]?) e;exact Dc
 have d:nb=decide ((q.den:Int)<0):=by have:=congrArg (fun l:List AV=>l[2]?) e;exact Dc
 unfold mO;rw[if_pos f];congr 1;have g:bv na xs=q.num:=by
  rw[a,c,zp];by_cases h:q.num<0
  ·rw[T_ h,if_pos rfl];omega
  ·rw[F_ h,if_neg D_];omega
 have i:bv nb ys=q.den:=by rw[b,d,zp,F_ O_,if_neg D_];omega
 rw[g,i,Rat.num_divInt_den]
def yM{na nb:Bool}{xs ys:List Nat}(g:Wd xs)(a:Wd ys)(d:xs.length<=510)(f:ys.length<=510):
 ∃t,aa prog 111 [Gp na xs nb ys] (.tup [dL t,dB (mO na xs nb ys).isSome])/\ ∀u,mO na xs nb ys=some u->t=u:=by
 cases hv:fL na xs nb ys with
 |false=>have i:mO na xs nb ys=none:=if_neg (by rw[hv];decide);rw[i];refine⟨[],?_,fun u h=>by cases h⟩;refine kV func111 ?_;refine ac (nE g a (V_ d D_) (V_ f D_) hv) rfl rfl rfl rfl rfl rfl rfl ?_;exact am
 |true=>obtain⟨q,e,b,c⟩:=pI g a hv;have j:nz 510 q:=⟨Sz.of_digs (by rw[<- b];exact d),Sz.of_digs (by rw[<- c];exact f)⟩;rw[nK e b c hv,show Gp na xs nb ys=dQ q from congrArg DV.agg e];exact lj j D_
def Fd{na nb:Bool}{xs ys:List Nat}(g:Wd xs)(a:Wd ys)(d:xs.length<=510)(f:ys.length<=510):
 ∃t,aa prog 125 [Gp na xs nb ys] (.tup [dL t,dB (mO na xs nb ys).isSome])/\ ∀u,mO na xs nb ys=some u->t=u:=by
 cases hv:fL na xs nb ys with
 |false=>have i:mO na xs nb ys=none:=if_neg (by rw[hv];decide);rw[i];refine⟨[],?_,fun u h=>by cases h⟩;refine kV func125 ?_;refine ac (qe g a (V_ d D_) (V_ f D_) hv) rfl rfl rfl rfl rfl rfl rfl ?_;exact am
 |true=>obtain⟨q,e,b,c⟩:=pI g a hv;have j:nz 510 q:=⟨Sz.of_digs (by rw[<- b];exact d),Sz.of_digs (by rw[<- c];exact f)⟩;rw[nK e b c hv,show Gp na xs nb ys=dQ q from congrArg DV.agg e];exact i6 j D_
def pF(na:Bool)(xs:List Nat)(nb:Bool)(ys:List Nat):Bool:=!na && (!nb && (decide (xs.length=0) && decide (ys.length=0)))
def AQ{na nb:Bool}{xs ys:List Nat}(h:pF na xs nb ys=true):na=false/\nb=false/\xs=[]/\ys=[]:=by unfold pF at h;simp only[B_,Bool.not_eq_true',decide_eq_true_eq]at h;exact⟨h.1,h.2.1,E_ h.2.2.1,E_ h.2.2.2⟩
def rl(op:Int)(d p m:Bool)(a:List UInt8)(n:Nat):Bool:=if op=1 then d && (decide (a=[]) || m) && decide (n=0)else if op=2 then p && m && decide (n=0)else if op=3 then p && decide (a=[]) && decide (n=1)
 else if op=4∨op=5∨op=6∨op=7 then p && decide (a=[]) && decide (n=2)else false
def Kq{op:Int}{na:Bool}{xs:List Nat}{nb:Bool}{ys:List Nat}{nm:List UInt8}{args:List Rx}{t:List UInt8}{d m:Bool}(u:aa prog 111 [Gp na xs nb ys] (.tup [dL t,dB d]))(E:aa prog 52 [dL nm] (.one (dB m))):
 aa prog 129 [dR (.mk op na xs nb ys nm args)] (.one (dB (rl op d (pF na xs nb ys) m nm args.length))):=by
 obtain⟨b,c⟩:∃b,rl op d (pF na xs nb ys) m nm args.length=b:=⟨_,rfl⟩;have i:op=1->b=(d && (decide (nm=[]) || m) && decide (args.length=0)):=fun h=>by rw[<- c,rl,if_pos h]
 have j:op=2->b=(pF na xs nb ys && m && decide (args.length=0)):=fun h=>by rw[<- c,rl,if_neg O_,if_pos h]
 have l:op=3->b=(pF na xs nb ys && decide (nm=[]) && decide (args.length=1)):=fun h=>by rw[<- c,rl,if_neg O_,if_neg O_,if_pos h]
 have f:op=4∨op=5∨op=6∨op=7->b=(pF na xs nb ys && decide (nm=[]) && decide (args.length=2)):=fun h=>by rw[<- c,rl,if_neg O_,if_neg O_,if_neg O_,if_pos h]
 have g:op≠1->op≠2->op≠3->op≠4->op≠5->op≠6->op≠7->b=false:=fun h1 h2 h3 h4 h5 h6 h7=>by rw[<- c,rl,if_neg h1,if_neg h2,if_neg h3,if_neg O_]
 rw[c];clear c;show aa prog _ [.agg (af op na xs nb ys nm args.length (gc args))] _;generalize G:pF na xs nb ys=p at *;refine kU func129 ?_;refine kR ?_;refine ks ⟨[(1, .box 0 0),(3, .d (dB p))],[(0,some (af op na xs nb ys nm args.length (gc args)))]⟩ (fun H y=>?_) (fun R r _=>?_)
 ·refine iU y rfl ?_;by_cases v:op=1
  ·have hb:=i v;clear i j l f g;subst v;refine kW ?_;refine kC u ?_;cases d
   ·exact qG
   ·refine kG ?_;refine kO4 ?_;by_cases hnm:nm=[]
    ·refine aj rfl rfl rfl rfl rfl rfl rfl (cx (a:=nm) (b:=[]) hnm) ?_;iterate 10 refine kO ?_
     by_cases hl:args.length=0
     ·exact KN
     ·exact GL
    ·refine QC ?_;refine kO3 ?_;refine kC E ?_;cases m
     ·exact Jt
     ·iterate 6 refine kO ?_
      exact OY
  by_cases w:op=2
  ·have hb:=j w;clear i j l f g;subst w;cases p
   ·exact qG
   ·refine kW ?_;refine kC E ?_;cases m
    ·exact qG
    ·refine kO5 ?_;exact OY
  by_cases x:op=3
  ·have hb:=l x;clear i j l f g;subst x;cases p
   ·exact qG
   ·iterate 4 refine kG ?_
    refine kO4 ?_;by_cases hnm:nm=[]
    ·refine Ts ?_;by_cases hl:args.length=1
     ·exact KN
     ·exact GL
    ·refine QC ?_;exact Jt
  by_cases A:op=4
  ·have hb:=f O_;clear i j l f g;subst A;cases p
   ·exact qG
   ·iterate 5 refine kG ?_
    exact DE
  by_cases B:op=5
  ·have hb:=f O_;clear i j l f g;subst B;cases p
   ·exact qG
   ·iterate 6 refine kG ?_
    exact DE
  by_cases C:op=6
  ·have hb:=f O_;clear i j l f g;subst C;cases p
   ·exact qG
   ·iterate 7 refine kG ?_
    exact DE
  by_cases D:op=7
  ·have hb:=f O_;clear i j l f g;subst D;cases p
   ·exact qG
   ·iterate 8 refine kG ?_
    exact DE
  obtain rfl:b=false:=g v w x A B C D;refine kG ?_;refine kB false ?_ ?_
  ·exact F_ v
  refine kG ?_;refine kB false ?_ ?_
  ·exact F_ w
  refine kG ?_;refine kB false ?_ ?_
  ·exact F_ x
  refine kG ?_;refine kB false ?_ ?_
  ·exact F_ A
  refine kG ?_;refine kB false ?_ ?_
  ·exact F_ B
  refine kG ?_;refine kB false ?_ ?_
  ·exact F_ C
  refine kG ?_;refine kB false ?_ ?_
  ·exact F_ D
  exact am
 ·clear i j l f g;subst G;cases na
  ·cases nb
   ·refine kG ?_;iterate 18 refine kO ?_
    by_cases z:xs.length=0
    ·refine kT ?_;iterate 7 refine kO ?_
     by_cases F:ys.length=0
     ·refine kT ?_;refine kW ?_;rw[show pF false xs false ys=true by unfold pF;rw[T_ z,T_ F];rfl]at r;exact r _ kw
     ·refine kE ?_;refine kW ?_;rw[show pF false xs false ys=false by unfold pF;rw[T_ z,F_ F];rfl]at r;exact r _ kw
    ·refine kE ?_;refine kW ?_;rw[show pF false xs false ys=false by unfold pF;rw[F_ z];rfl]at r;exact r _ kw
   ·refine kW ?_;exact r _ kw
  ·refine kW ?_;exact r _ kw
mutual
def ub:Rx->Bool
 | .mk g b e c f d a=>rl g (mO b e c f).isSome (pF b e c f) (mq d) d a.length && lZ a
def lZ:List Rx->Bool
 | []=>true
 |y::r=>ub y && lZ r
end
def np:∀l:List Rx,lZ l=l.all ub
 | []=>by simp[lZ]
 |y::r=>by rw[lZ,np r,List.all_cons]
def ur:∀(x:Rx),vY x->K4 x->aa prog 89 [dR x] (.one (dB (ub x))):=by
 refine iN fun op na xs nb ys nm args D l hlt=>?_;obtain⟨_,_,B,u,A,hlen,f⟩:=l;obtain⟨E,F,I,r⟩:=hlt;obtain⟨t,g,_⟩:=yM (na:=na) (nb:=nb) B u E F;have z:=uL nm O_;have b:=Kq (op:=op) (args:=args) g z;rw[ub,np];generalize rl op (mO na xs nb ys).isSome (pF na xs nb ys) (mq nm) nm args.length=s0 at *;have b:aa prog 129 [.agg (af op na xs nb ys nm args.length (gc args))] (.one (dB s0)):=b;refine C2 ?_;cases s0 with
 |false=>rw[Bool.false_and];refine kV func89 ?_;refine kC b ?_;exact am
 |true=>
  rw[Bool.true_and];refine kV func89 ?_;refine kQ b ?_;refine av Nat (fun i=>i<=args.length/\ ∀(q:Nat)y,q<i->args[q]? =some y->ub y=true) (fun i=>⟨[(1, .box 0 0),(2, .d (dB false)),(3, .d (dN .i64 i))],[(0,some (af op na xs nb ys nm args.length (gc args)))]⟩) (fun i=>args.length-i) 0 ⟨Nat.zero_le _,fun q y h=>absurd h (Nat.not_lt_zero _)⟩
   kw ?_
  rintro i ⟨H,w⟩;refine kI ?_;refine kO4 ?_;by_cases hlt:i<args.length
  ·refine kT ?_;obtain⟨o1,na1,xs1,nb1,ys1,nm1,n1,cs1,v⟩:=aJ args[i];have l:args[i]? =some args[i]:=by simp[hlt]
   have hat:∀(j:Nat)(a:AV),(af o1 na1 xs1 nb1 ys1 nm1 n1 cs1)[j]? =some a->(gc args)[i*7+j]? =some a:=fun j a h=>fO args i args[i] l j a (by rw[v];exact h);have c:=D args[i] (List.getElem_mem hlt) (f _ (List.getElem_mem hlt)) (r _ (List.getElem_mem hlt));rw[show dR args[i]= .agg (af o1 na1 xs1 nb1 ys1 nm1 n1 cs1) from congrArg DV.agg v]at c;refine kW ?_;refine x4 ?_;refine kO ?_;cases hb:ub args[i]
   ·rw[hb]at c;refine kQ c ?_;rw[show args.all ub=false by
     cases h:args.all ub
     ·rfl
     ·rw[I_.1 h _ (List.getElem_mem hlt)]at hb;cases hb]
    exact co (T:=TT) rfl rfl
   ·rw[hb]at c;refine kQ c ?_;exact⟨i+1,⟨hlt,fun q y G m=>by
     by_cases e:q=i
     ·subst e;rw[l]at m;cases m;exact hb
     ·exact w q y O_ m⟩,by omega,weak ⟨rfl,rfl,aq O_ O_,trivial⟩ ⟨rfl,trivial⟩ rfl⟩
  ·refine kE ?_;refine kW ?_;rw[show args.all ub=true by rw[I_];intro y C;obtain⟨q,h⟩:=W_ C;exact w q y (by have:=(G_.1 h).1;omega) h]
   exact co (T:=TT) rfl rfl
def qj(x:Rx):Int:=if ub x=true then(if pZ x<=40 then 0 else 3)else 1
def oL(x:Rx)(j:vY x)(m:K4 x)(r:jx x<=1000000):aa prog 48 [dR x] (.one (dN .i64 (qj x))):=by
 have c1:=ur x j m;have c2:=ym x j r;obtain⟨u,b,f,c,g,d,t,a,l⟩:=aJ x;rw[show dR x= .agg (af u b f c g d t a) from congrArg DV.agg l]at c1 c2 ⊢;unfold qj;cases hb:ub x with
 |false=>rw[hb]at c1;rw[if_neg D_];refine kU func48 ?_;exact rV
 |true=>
  rw[hb]at c1;rw[if_pos rfl];by_cases i:pZ x<=40
  ·rw[if_pos i];refine kU func48 ?_;exact Jy
  ·rw[if_neg i];refine kU func48 ?_;refine pN ?_;refine kC c2 ?_;refine kT ?_;exact am
def xb:∀e,gR e->ub (rx e)=true
 | .num v u,h=>by obtain⟨c,f,d⟩:=h;show(rl 1 (mO (decide (v.num<0)) (digs v.num.natAbs) (decide ((v.den:Int)<0)) (digs (v.den:Int).natAbs)).isSome _ (mq u) u 0 && lZ [])=true;rw[nK (q:=v) rfl rfl rfl (mB v),c,lZ];rcases d with h|h<;>simp[rl,h]
 | .nam s,h=>by show(rl 2 _ (pF false [] false []) (mq s) s 0 && lZ [])=true;have h:mq s=true:=h;rw[h,lZ];rfl
 | .neg a,h=>by show(rl 3 (mO false [] false []).isSome (pF false [] false []) (mq []) [] 1 && lZ [rx a])=true;rw[lZ,lZ,xb a h];rfl
 | .bin k a b,h=>by show(rl k.code (mO false [] false []).isSome (pF false [] false []) (mq []) [] 2 && lZ [rx a,rx b])=true;rw[lZ,lZ,lZ,xb a h.1,xb b h.2];cases k<;>rfl
def Qv:∀(x:Rx),vY x->K4 x->ub x=true-> ∃e,x=rx e/\gR e:=by
 refine iN fun X F U G V H f O N C E=>?_;obtain⟨_,_,L,D,_,hlen,i⟩:=N;obtain⟨Q,R,W,B⟩:=C;rw[ub,np,B_]at E;obtain⟨d,c⟩:=E;have c:∀y∈f,∃e,y=rx e/\gR e:=fun y u=>O y u (i y u) (B y u) (I_.1 c y u);unfold rl at d;split at d
 ·rename_i j;subst j;simp only[B_,Bool.or_eq_true,decide_eq_true_eq]at d;obtain⟨⟨g,A⟩,h⟩:=d;obtain rfl:=E_ h;cases hv:fL F U G V with
  |false=>rw[mO,if_neg (by rw[hv];decide)]at g;cases g
  |true=>
   obtain⟨q,e,w,z⟩:=pI L D hv;have S:nz 510 q:=⟨Sz.of_digs (by rw[<- w];exact Q),Sz.of_digs (by rw[<- z];exact R)⟩;rw[nK e w z hv]at g;have I:F=decide (q.num<0):=by have:=congrArg (fun l:List AV=>l[0]?) e;exact Dc
   have J:G=decide ((q.den:Int)<0):=by have:=congrArg (fun l:List AV=>l[2]?) e;exact Dc
   subst I J w z;exact⟨.num q H,rfl,g,S,A⟩
 ·split at d
  ·rename_i j;subst j;simp only[B_,decide_eq_true_eq]at d;obtain⟨⟨g,A⟩,h⟩:=d;obtain rfl:=E_ h;obtain⟨rfl,rfl,rfl,rfl⟩:=AQ g;exact⟨.nam H,rfl,A⟩
  ·split at d
   ·rename_i j;subst j;simp only[B_,decide_eq_true_eq]at d;obtain⟨⟨g,rfl⟩,h⟩:=d;obtain⟨rfl,rfl,rfl,rfl⟩:=AQ g
    match f,h,c with
    | [a],_,c=>obtain⟨m,rfl,r⟩:=c a S_;exact⟨.neg m,rfl,r⟩
   ·split at d
    ·rename_i j;simp only[B_,decide_eq_true_eq]at d;obtain⟨⟨g,rfl⟩,h⟩:=d;obtain⟨rfl,rfl,rfl,rfl⟩:=AQ g
     match f,h,c with
     | [a,b],_,c=>
      obtain⟨m,rfl,r⟩:=c a S_;obtain⟨t,rfl,v⟩:=c b S_;rcases j with rfl|rfl|rfl|rfl
      ·exact⟨.bin .add m t,rfl,r,v⟩
      ·exact⟨.bin .sub m t,rfl,r,v⟩
      ·exact⟨.bin .mul m t,rfl,r,v⟩
      ·exact⟨.bin .div m t,rfl,r,v⟩
    ·cases d
section
open Go.ChangeShapes Go.WideShapes Go.ChangeAt Go.RowKit Go.Joins
def zr:∀(e:Ex),gR e-> ∀n,(aF e n).length<=67*jx (rx e)
 | .num v u,h,n=>by
  obtain⟨g,_,c⟩:=h;obtain⟨t,d⟩:=Option.isSome_iff_exists.1 g;obtain⟨_,i,_⟩:=ju d;have f:aF (.num v u) n=gC 4 n (t++fj u):=by show gC 4 n (Ae v++fj u)=_;rw[Ae,d];rfl
  have j:(fj u).length<=25:=by
   unfold fj;rcases c with rfl|c
   ·simp
   ·have:=wg c;split <;>simp;omega
  have:=(iL 4 n (t++fj u)).2;rw[L_]at this;rw[f];simp only[rx,jx,lV];omega
 | .nam s,h,n=>by have:=(iL 4 n s).2;have:=wg h;show(gC 4 n s).length<=_;simp only[rx,jx,lV];omega
 | .neg a,h,n=>by
  have:=(iL 3 n ([45]++aF a 3)).2;have:=zr a h 3;show(gC 3 n ([45]++aF a 3)).length<=_;simp only[rx,jx,lV,L_,List.length_cons,List.length_nil]at *
  omega
 | .bin k a b,h,n=>by
  have:=(iL (bM k) n (aF a (bM k)++gW k++aF b (bM k+1))).2;have:=zr a h.1 (bM k);have:=zr b h.2 (bM k+1);have:(gW k).length=3:=by cases k<;>rfl
  show(gC (bM k) n (aF a (bM k)++gW k++aF b (bM k+1))).length<=_;simp only[rx,jx,lV,L_]at *
  omega
def Lj{s:List UInt8}(v:s.length<=500){p:Nat}{c:Int}(h:fY s= .error (p,c)):c≠0:=by
 have f:=gQ (s.length+1) s 0 [] (m_ _);have j:∀(T:List Tk)(b:Int)(E:Nat),bX T->c7 E T->l0 T b E= .error (p,c)->c≠0:=fun T b E D C d=>by
  obtain⟨x,B⟩:=fP T;have g:=eU (E:=E) _ _ _ _ D (fun u A=>by
   by_cases h0:u.1=0
   ·exact Nat.le_of_eq ((C u A).1 h0)
   ·exact Nat.le_of_lt ((C u A).2 h0)) B
  unfold l0 at d;rw[B]at d;cases x with
  |error z=>dsimp only at d;cases d;exact mM g.2
  |ok z=>
   obtain⟨e,r⟩:=z;cases r with
   |nil=>exact absurd g (fun h=>h)
   |cons t r=>
    dsimp only at d;split at d
    ·cases d;decide
    ·split at d
     ·rename_i q;cases d;exact q
     ·split at d
      ·cases d
      ·cases d;decide
 unfold fY at h;cases hR:dw (s.length+1) s 0 []with
 |ok L=>rw[hR]at h f;obtain⟨F,_,h0,i⟩:=f;rw[List.nil_append]at h0;subst h0;exact j _ _ _ (i.w v) (by have:=i.z;rwa[J_]at this) h
 |error y=>
  obtain⟨a,b⟩:=y;rw[hR]at h f;obtain⟨q,_,G,T,h0,m,i⟩:=f;rw[Nat.sub_zero]at m;have l:(s.take a).length=a:=by rw[U_];omega
  have e:=m (a+1) [] (m_ _);rw[List.nil_append]at e;dsimp only at h;rw[l,e]at h;exact j _ _ _ (i.w v) i.z h
def MZ{e:Ex}(a:gR e)(g:vY (rx e))(m:jx (rx e)<=900)(b:pZ (rx e)<=40):aa prog 63 [dE e] (.tup [dL (aF e 0),dN .i64 0])/\aa prog 35 [dL (aF e 0)] (.tup [dE e,dN .i64 0,dN .i64 0]) /\
 aa prog 48 [dE e] (.one (dN .i64 0))/\aa prog 70 [dE e,dE e] (.one (dB true)):=by
 have l:=zr e a 0;obtain⟨T,h,i,j⟩:=Ag a b O_;have d:=lp (aF e 0) O_;rw[h]at d;have c:=qD (aF e 0) T d i;rw[j]at c;have f:=oL (rx e) g (gR.lm e a) O_;rw[qj,xb e a,if_pos rfl,if_pos b]at f;exact⟨yd a g O_ b O_,c,f,uE (rx e) (gR.lw e a)⟩
end
section
open Go.ChangeShapes Go.WideShapes Go.ChangeAt Go.RowKit Go.Joins
def bF(l:List Int):List AV:=l.map fun z=>AV.val (.int .i64 z)
def qh(l:List Int):DV:= .leaf (.sl l.length (bF l))
def Kj(l:List Int):(bF l).length=l.length:=by simp[bF]
def Lh{l:List Int}{i:Nat}{z:Int}(h:l[i]? =some z):(bF l)[i*1]? =some (.val (.int .i64 z)):=by simp[bF,h]
def bd{l:List Int}{i:Nat}{z:Int}(h:l[i]? =some z):∀(j:Nat)(a:AV),[AV.val (.int .i64 z)][j]? =some a->(bF l)[i*1+j]? =some a:=fun j a b=>by
 cases j with
 |zero=>simp at b;subst b;exact Lh h
 |succ j=>simp at b
def uh(k:Int):Option Kd:=if 1<=k/\k<=17 then mz[k.toNat-1]? else none
def gY(s:List UInt8):Int:=if mz.findIdx (fun r=>decide (r.nm=s))<17 then(mz.findIdx (fun r=>decide (r.nm=s)):Int)+1 else 0
structure Cn where
 k:Int
 ps:List Int
 cs:List Int
 vs:List Rx
 s:Int
def aC(c:Cn):List AV:=[.val (.int .i64 c.k), .sl c.ps.length (bF c.ps), .sl c.cs.length (bF c.cs), .sl c.vs.length (gc c.vs), .val (.int .i64 c.s)]
def dC(c:Cn):DV:= .agg (aC c)
end
section
variable {P:Program}{T:TypeId->Option Ty}{n:Nat}{ops:Array Oper}{id:Nat}{draw:Bool}{K:AS->Prop}{s:AS}{k:Nat}{o:Oper}{os:List Oper}{fps:List FP}
def JF{t e:TypeId}{x y:Operand}{m i q:Nat}{ik:IntKind}{cs cs':List AV}(l:∀(j:Nat)(a:AV),cs'[j]? =some a->cs[i*q+j]? =some a)(hu:P.underlying t=some (.array m e))(F:(P.info? e).map (·.size)=some q)(J:i<m)(u:gd ops s o=some true)(ho:o.op= .indexAddr t x y)(G:s.ev x= .rp cs)(H:s.ev y= .d (.leaf (.val (.int ik (i:Nat)))))(v:aO n o.dst=true)(z:gO draw ops (aH ops o ⟨.rp cs',none⟩ []) k fps=true)(h:aw P T n ops id draw K (k+1) os (s.eff o.dst ⟨.rp cs',none⟩) (aH ops o ⟨.rp cs',none⟩ []::fps)):aw P T n ops id draw K k (o::os) s fps:=
 .run u (.gen fun L C _=>ar (tv:= .rp cs') fun n I N g a w hM=>by
  have B:=(aP C (x:=x) (by simp[ho,Op.operands])).trans G;have hy2:=(aP C (x:=y) (by simp[ho,Op.operands])).trans H;have h:=hM.ev x;rw[B]at h;obtain⟨b,r,f,e1,u,E,v,z⟩:=h;refine⟨.pointer (some ⟨b,r+i*q,none⟩),w,?_,Below.refl _ _,b,r+i*q,fun j=>f (i*q+j),rfl,u,E,fun j c A=>?_,fun j c A=>?_⟩
  ·refine Ov ?_;have D:(0:Int)<=i/\(i:Int)<m:=O_;simp only[D,and_self,if_true,Y_,b5 F w,R_,a_,bt,Int.toNat_natCast]
  ·rw[Nat.add_assoc];exact v (i*q+j) c (l j c A)
  ·exact z (i*q+j) c (l j c A)) v z h
end
def zq{x:UInt8}{b a t:List UInt8}(d:x ∉ a){i:Nat}(c:i<a.length):Lib.occAt (a++t) (x::b) i=false:=by
 cases h:Lib.occAt (a++t) (x::b) i with
 |false=>rfl
 |true=>have:=Lib.occAt_head rfl h;rw[List.getElem?_append_left c]at this;exact absurd (M_ this) d
def GZ{a t:List UInt8}(e:(61:UInt8) ∉ a)(d:t=[]∨ ∃b,t=32::b){i:Nat}(f:i<a.length):Lib.occAt (a++t) [32,61,32] i=false:=by
 cases h:Lib.occAt (a++t) [32,61,32] i with
 |false=>rfl
 |true=>
  have:=Lib.occAt_second rfl h;by_cases c:i+1<a.length
  ·rw[List.getElem?_append_left c]at this;exact absurd (M_ this) e
  ·rw[g_ O_,show i+1-a.length=0 by omega]at this;rcases d with rfl| ⟨b,rfl⟩<;>simp at this
def vn{a b r:List UInt8}(h:∀i,i<a.length->Lib.occAt (a++(b++r)) b i=false):Lib.index (a++(b++r)) b=(a.length:Nat):=by refine Lib.index_first S_ ?_ h;unfold Lib.occAt;rw[List.drop_left];exact List.isPrefixOf_iff_prefix.2 ⟨r,rfl⟩
def yY{b s:List UInt8}(d:b≠[])(h:∀i,i<s.length->Lib.occAt s b i=false):Lib.index s b= -1:=by
 refine Lib.index_none fun j e=>?_;by_cases a:j<s.length
 ·exact h j a
 ·cases ho:Lib.occAt s b j with
  |false=>rfl
  |true=>
   rcases Lib.occAt_room ho with c|c
   ·have:=List.length_pos_iff.2 d;omega
   ·exact absurd c d
def NA{a b r:List UInt8}(h:∀i,i<a.length->Lib.occAt (a++(b++r)) b i=false):Lib.cut (a++(b++r)) b=(a,r,true):=by unfold Lib.cut;rw[vn h,if_pos O_,Int.toNat_natCast,List.take_left,<- e_,List.drop_left' S_]
def Rb{b s:List UInt8}(a:b≠[])(h:∀i,i<s.length->Lib.occAt s b i=false):Lib.cut s b=(s,[],false):=by unfold Lib.cut;rw[yY a h,if_neg D_]
def Vp{a:List UInt8}(c:(61:UInt8) ∉ a)(r:List UInt8):Lib.cut (a++([32,61,32]++r)) [32,61,32]=(a,r,true):=NA fun _ b=>GZ c (.inr ⟨_,rfl⟩) b
def LE{a:List UInt8}(c:(61:UInt8) ∉ a):Lib.cut a [32,61,32]=(a,[],false):=Rb S_ fun i b=>by have:=GZ (t:=[]) c (.inl rfl) b;simpa using this
def pH{s b:List UInt8}{i:Nat}(a:b≠[])(h:Lib.index s b=i):Lib.split s b=s.take i::Lib.split (s.drop (i+b.length)) b:=by unfold Lib.split;rw[Lib.count_hit a h,Nat.add_comm,Lib.splitK,h,if_neg (by rw[beq_iff_eq];omega),Int.toNat_natCast,Nat.add_zero]
def jI{s b:List UInt8}(h:Lib.index s b= -1):Lib.split s b=[s]:=by unfold Lib.split;rw[Lib.count_miss h];rfl
def ij(x y b:List UInt8)(r:List (List UInt8)):Lib.join (x::y::r) b=x++(b++Lib.join (y::r) b):=by rw[Lib.join_cons,Lib.join_cons];simp[Lib.joinTail]
def mX{x:UInt8}{b:List UInt8}:∀(l:List (List UInt8)),l≠[]->(∀y∈l,x ∉ y)->Lib.split (Lib.join l (x::b)) (x::b)=l
 | [],h,_=>absurd rfl h
 | [y],_,a=>by rw[Lib.join_one];exact jI (yY S_ fun i c=>by have:=zq (b:=b) (t:=[]) (a y S_) c;simpa using this)
 |y::z::r,_,a=>by have e:=a y S_;rw[ij,pH S_ (vn fun _ c=>zq e c),List.take_left,<- e_,List.drop_left' S_,mX (z::r) S_ fun w d=>a w (by simp[f_.1 d])]
def De{s b:List UInt8}{i:Nat}(h:Lib.index s b=i):Lib.cut s b=(s.take i,s.drop (i+b.length),true):=by unfold Lib.cut;rw[h,if_pos O_,Int.toNat_natCast]
def yD{s b:List UInt8}(h:Lib.index s b= -1):Lib.cut s b=(s,[],false):=by unfold Lib.cut;rw[h,if_neg D_]
def lD{s b:List UInt8}(a:b≠[]):Lib.split s b=if(Lib.cut s b).2.2=true then(Lib.cut s b).1::Lib.split (Lib.cut s b).2.1 b else [(Lib.cut s b).1]:=by
 rcases Lib.index_spec s b with⟨h,_⟩| ⟨i,h,_⟩
 ·rw[yD h,if_neg S_];exact jI h
 ·rw[De h,if_pos rfl];exact pH a h
def kM{s b:List UInt8}(a:b≠[])(h:(Lib.cut s b).2.2=true):(Lib.cut s b).2.1.length<s.length:=by
 have c:=List.length_pos_iff.2 a;unfold Lib.cut at h ⊢;split at h
 ·rename_i h0;rw[if_pos h0];have:=Lib.index_room s b h0;simp only[n_];omega
 ·cases h
def mU{s b:List UInt8}:(Lib.cut s b).1.length<=s.length/\(Lib.cut s b).2.1.length<=s.length:=by
 unfold Lib.cut;split
 ·simp only[U_,n_];omega
 ·simp
def tM(m z:Int):Bool:=decide (0<=z) && decide (z<m)
def RN:List Int->Bool
 | [p,q,r,s]=>!decide (p=q) && (!decide (r=s) && (!(decide (p=r) && decide (q=s)) && !(decide (p=s) && decide (q=r))))
 |_=>false
def xY(b:Bool)(s:Int):Bool:=if b=true then decide (s=1) || decide (s= -1)else decide (s=0)
def AM(c:Cn)(P Q:Int):Bool:=match uh c.k with
 |none=>false
 |some r=>(decide ((c.ps.length:Int)=r.p) && c.ps.all (tM P)) && ((decide ((c.cs.length:Int)=r.c) && c.cs.all (tM Q)) && (decide ((c.vs.length:Int)=r.n) && (c.vs.all (fun x=>decide (qj x=0)) && (xY r.s c.s &&
  (if 5<=c.k/\c.k<=8 then RN c.ps else decide c.ps.Nodup && decide c.cs.Nodup)))))
def rT{c:Cn}{r:Kd}(h:uh c.k=some r)(P Q:Int):AM c P Q=((decide ((c.ps.length:Int)=r.p) && c.ps.all (tM P)) && ((decide ((c.cs.length:Int)=r.c) && c.cs.all (tM Q)) && (decide ((c.vs.length:Int)=r.n) && (c.vs.all (fun x=>decide (qj x=0)) && (xY r.s c.s &&
 (if 5<=c.k/\c.k<=8 then RN c.ps else decide c.ps.Nodup && decide c.cs.Nodup)))))):=by unfold AM;rw[h]
def tq{c:Cn}(h:uh c.k=none)(P Q:Int):AM c P Q=false:=by unfold AM;rw[h]
def gt(k:Int):List UInt8:=if k=17 then [111,117,116,115,105,100,101]else [108,101,102,116]
def gJ(k:Int):List UInt8:=if k=17 then [105,110,115,105,100,101]else [114,105,103,104,116]
def mA(z:Int):List UInt8:=112::fmt z
def qR(z:Int):List UInt8:=99::fmt z
def q7(c:Cn):List (List UInt8):=if c.s=1 then [gt c.k]else if c.s= -1 then [gJ c.k]else []
def BG(r:Kd)(c:Cn):List (List UInt8):=r.nm::(c.ps.map mA++c.cs.map qR++q7 c)
def xZ(ts:List (List UInt8)):List UInt8:=if ts=[]then []else [32,61,32]++Lib.join ts [44,32]
def Et(r:Kd)(c:Cn)(ts:List (List UInt8)):List UInt8:=Lib.join (BG r c) [32]++xZ ts
def m9(x:UInt8)(w:List UInt8):Option Int:=match w with
 | []=>none
 |c::t=>if c=x then(match Lib.atoiAll t with| .ok v=>some v|_=>none)else none
def mL(k:Int)(c:Cn)(w:List UInt8):Cn:=match m9 112 w with
 |some n=>{ c with ps:=c.ps++[n] }
 |none=>match m9 99 w with
  |some n=>{ c with cs:=c.cs++[n] }
  |none=>if w=gt k then { c with s:=1 }else if w=gJ k then { c with s:= -1 }else c
def AL:Nat->List UInt8->Int
 |n,[]=>n
 |n,c::r=>if bC c=false∨1000<n then -1 else AL (10*n+dv c) r
def jn(c:Cn)(w:List UInt8):Cn:=if w=gt 0∨w=gt 17 then { c with s:=1 }else if w=gJ 0∨w=gJ 17 then { c with s:= -1 }else match w with
 | []=>c
 |x::t=>if x=112 then { c with ps:=c.ps++[AL 0 t] }else if x=99 then { c with cs:=c.cs++[AL 0 t] }else c
def oP(k:Int):Cn:=⟨k,[],[],[],0⟩
def UV:List (List UInt8)->Cn
 | []=>oP 0
 |n::r=>r.foldl (mL (gY n)) (oP (gY n))
def US:List (List UInt8)->Cn
 | []=>oP 0
 |n::r=>r.foldl jn (oP (gY n))
def wK:∀(l:List UInt8)(a:Nat),a<=l.foldl (fun a c=>10*a+dv c) a
 | [],_=>l_ _
 |c::l,a=>by have:=wK l (10*a+dv c);simp only[List.foldl_cons];omega
def D1:∀(l:List UInt8)(a:Nat),(∀c∈l,cM c)->l.foldl (fun a c=>10*a+dv c) a<1000->Lib.parseUint10 a l= .ok (l.foldl (fun a c=>10*a+dv c) a)
 | [],_,_,_=>rfl
 |c::l,a,d,h=>by
  have f:=d c S_;have g:=wK l (10*a+dv c);simp only[List.foldl_cons]at h ⊢;have e:a*10+(c.toNat-48)=10*a+dv c:=by unfold dv;omega
  have b:48<=c.toNat/\c.toNat<=57:=f;rw[Lib.parseUint10,if_pos b,if_neg O_,e,if_neg O_];exact D1 l _ (fun x hx=>d x (by simp[hx])) h
def ED:∀(l:List UInt8)(a:Nat),(∀c∈l,cM c)->l.foldl (fun a c=>10*a+dv c) a<1000->AL a l=(l.foldl (fun a c=>10*a+dv c) a:Nat)
 | [],_,_,_=>rfl
 |c::l,a,b,h=>by have d:=n7.2 (b c S_);have e:=wK l (10*a+dv c);simp only[List.foldl_cons]at h ⊢;rw[AL,if_neg (by rw[d];simp;omega)];exact ED l _ (fun x hx=>b x (by simp[hx])) h
def pG{z:Int}(h0:0<=z)(g:z<200):Lib.atoiAll (fmt z)= .ok z/\AL 0 (fmt z)=z:=by
 obtain⟨n,rfl⟩:=Int.eq_ofNat_of_zero_le h0;rw[rB];have a:=nX n;have b:=AA n;have d:=(DM n).1;generalize jQ n=u at *;unfold num at b;refine⟨?_,by rw[ED u 0 a O_,b]⟩;cases u with
 |nil=>exact absurd rfl d
 |cons c r=>have f:=a c S_;unfold cM at f;have e:=D1 (c::r) 0 a O_;rw[b]at e;unfold Lib.atoiAll;simp only;rw[if_neg O_];unfold Lib.parseMag;rw[if_neg S_,e];simp only;rw[if_neg O_,if_neg O_,if_neg O_]
def AJ{x:UInt8}{z:Int}(h0:0<=z)(a:z<200):m9 x (x::fmt z)=some z:=by unfold m9;simp only[if_true];rw[(pG h0 a).1]
def ji{x y:UInt8}(t:List UInt8)(h:y≠x):m9 x (y::t)=none:=by unfold m9;simp only[if_neg h]
def yb(k:Int):∀(l:List Int)(c:Cn),(∀z∈l,0<=z/\z<200)->(l.map mA).foldl (mL k) c={ c with ps:=c.ps++l }
 | [],c,_=>by simp
 |z::l,c,h=>by have a:=h z S_;rw[List.map_cons,List.foldl_cons,yb k l _ fun y b=>h y (by simp[b])];unfold mL mA;rw[AJ a.1 a.2];simp
def yG(k:Int):∀(l:List Int)(c:Cn),(∀z∈l,0<=z/\z<200)->(l.map qR).foldl (mL k) c={ c with cs:=c.cs++l }
 | [],c,_=>by simp
 |z::l,c,h=>by have a:=h z S_;rw[List.map_cons,List.foldl_cons,yG k l _ fun y b=>h y (by simp[b])];unfold mL qR;rw[ji _ D_,AJ a.1 a.2];simp
def QS{z:Int}(c:Cn)(h:0<=z/\z<200):jn c (mA z)={ c with ps:=c.ps++[z] }:=by
 have d:∀(a b:List UInt8),(112:UInt8)::a≠108::b/\(112:UInt8)::a≠111::b/\(112:UInt8)::a≠114::b/\(112:UInt8)::a≠105::b:=fun a b=>by simp
 unfold jn mA;rw[if_neg (by simp[gt]),if_neg (by simp[gJ])];simp only[if_true];rw[(pG h.1 h.2).2]
def Rc{z:Int}(c:Cn)(h:0<=z/\z<200):jn c (qR z)={ c with cs:=c.cs++[z] }:=by unfold jn qR;rw[if_neg (by simp[gt]),if_neg (by simp[gJ])];simp only;rw[if_neg D_,if_pos trivial,(pG h.1 h.2).2]
def zF:∀(l:List Int)(c:Cn),(∀z∈l,0<=z/\z<200)->(l.map mA).foldl jn c={ c with ps:=c.ps++l }
 | [],c,_=>by simp
 |z::l,c,h=>by rw[List.map_cons,List.foldl_cons,zF l _ fun y a=>h y (by simp[a]),QS _ (h z S_)];simp
def zo:∀(l:List Int)(c:Cn),(∀z∈l,0<=z/\z<200)->(l.map qR).foldl jn c={ c with cs:=c.cs++l }
 | [],c,_=>by simp
 |z::l,c,h=>by rw[List.map_cons,List.foldl_cons,zo l _ fun y a=>h y (by simp[a]),Rc _ (h z S_)];simp
def CS:mz.length=17:=rfl
def Rn:(mz.all fun r=>decide ((32:UInt8) ∉ r.nm) && decide ((61:UInt8) ∉ r.nm))=true:=D_
def GA:((List.range 17).all fun i=>decide (((mz[i]?).map fun r=>gY r.nm)=some ((i:Int)+1)))=true:=D_
def nj{k:Int}{r:Kd}(h:uh k=some r):1<=k/\k<=17/\mz[k.toNat-1]? =some r:=by
 unfold uh at h;split at h
 ·rename_i a;exact⟨a.1,a.2,h⟩
 ·cases h
def GB{k:Int}{r:Kd}(h:uh k=some r):gY r.nm=k/\(32:UInt8) ∉ r.nm/\(61:UInt8) ∉ r.nm:=by obtain⟨d,e,a⟩:=nj h;have b:=I_.1 Rn r (M_ a);have c:=I_.1 GA (k.toNat-1) (List.mem_range.2 O_);rw[a]at c;simp only[B_,decide_eq_true_eq]at b;simp only[Option.map_some,decide_eq_true_eq,X_]at c;exact⟨by omega,b⟩
structure NB (d:Cn) (r:Kd) (P Q:Int):Prop where
 k:uh d.k=some r
 pl:(d.ps.length:Int)=r.p
 p:∀z∈d.ps,0<=z/\z<P
 cl:(d.cs.length:Int)=r.c
 c:∀z∈d.cs,0<=z/\z<Q
 vl:(d.vs.length:Int)=r.n
 v:∀x∈d.vs,qj x=0
 s:xY r.s d.s=true
 e:(if 5<=d.k/\d.k<=8 then RN d.ps else decide d.ps.Nodup && decide d.cs.Nodup)=true
def Ld{c:Cn}{P Q:Int}:AM c P Q=true↔ ∃r,NB c r P Q:=by
 cases hk:uh c.k with
 |none=>exact⟨fun h=>(by rw[tq hk]at h;cases h),fun⟨r,h⟩=>(by rw[h.k]at hk;cases hk)⟩
 |some r=>rw[rT hk];simp only[B_,I_,tM];exact⟨fun⟨⟨g,d⟩,⟨i,f⟩,j,l,m,q⟩=>⟨r,hk,h_ g,fun z a=>⟨h_ (d z a).1,h_ (d z a).2⟩,h_ i,fun z a=>⟨h_ (f z a).1,h_ (f z a).2⟩,h_ j,fun x b=>h_ (l x b),m,q⟩,fun⟨t,h⟩=>by have:=h.k;rw[hk]at this;cases this;exact⟨⟨T_ h.pl,fun z a=>⟨T_ (h.p z a).1,T_ (h.p z a).2⟩⟩,⟨T_ h.cl,fun z a=>⟨T_ (h.c z a).1,T_ (h.c z a).2⟩⟩,T_ h.vl,fun x b=>T_ (h.v x b),h.s,h.e⟩⟩
def u5{b:Bool}{s:Int}(h:xY b s=true):s=1∨s= -1∨s=0:=by
 unfold xY at h;split at h
 ·simp at h;omega
 ·simp at h;omega
def Tv(c:Cn)(h:c.s=1∨c.s= -1∨c.s=0)(d:Cn)(j:d.s=0):(q7 c).foldl (mL c.k) d={ d with s:=c.s }:=by
 have i:∀k,m9 112 (gt k)=none/\m9 99 (gt k)=none/\m9 112 (gJ k)=none/\m9 99 (gJ k)=none/\gJ k≠gt k:=fun k=>by unfold gt gJ;split <;>refine⟨ji _ D_,ji _ D_,ji _ D_,ji _ D_,by decide⟩
 obtain⟨a,b,e,f,g⟩:=i c.k;unfold q7;rcases h with h|h|h
 ·rw[if_pos h];simp only[List.foldl_cons,List.foldl_nil,mL,a,b,if_true,h]
 ·rw[if_neg O_,if_pos h];simp only[List.foldl_cons,List.foldl_nil,mL,e,f,if_neg g,if_true,h]
 ·rw[if_neg O_,if_neg O_,List.foldl_nil,h,<- j]
def Ut(c:Cn)(h:c.s=1∨c.s= -1∨c.s=0)(d:Cn)(i:d.s=0):(q7 c).foldl jn d={ d with s:=c.s }:=by
 have g:∀k,(gt k=gt 0∨gt k=gt 17)/\ ¬(gJ k=gt 0∨gJ k=gt 17)/\(gJ k=gJ 0∨gJ k=gJ 17):=fun k=>by
  unfold gt gJ;by_cases a:k=17
  ·subst a;decide
  ·simp only[if_neg a];decide
 obtain⟨b,e,f⟩:=g c.k;unfold q7;rcases h with h|h|h
 ·rw[if_pos h];simp only[List.foldl_cons,List.foldl_nil,jn,if_pos b,h]
 ·rw[if_neg O_,if_pos h];simp only[List.foldl_cons,List.foldl_nil,jn,if_neg e,if_pos f,h]
 ·rw[if_neg O_,if_neg O_,List.foldl_nil,h,<- i]
def M1{c:Cn}{r:Kd}(h:NB c r 200 200):UV (BG r c)={ c with vs:=[] }/\US (BG r c)={ c with vs:=[] }:=by have b:=(GB h.k).1;have a:=u5 h.s;unfold BG UV US;simp only[b,List.foldl_append];rw[yb _ _ _ h.p,yG _ _ _ h.c,Tv c a _ rfl,zF _ _ h.p,zo _ _ h.c,Ut c a _ rfl];simp[oP]
def H8{z:Int}(h:0<=z){x:UInt8}(a:¬cM x):x ∉ fmt z:=by obtain⟨n,rfl⟩:=Int.eq_ofNat_of_zero_le h;rw[rB];exact Li n a
def Kk{c:Cn}{r:Kd}(h:NB c r 200 200){x:UInt8}(b:x=32∨x=61):∀w∈BG r c,x ∉ w:=by
 have g:=(GB h.k).2;have f:¬cM x:=by rcases b with rfl|rfl <;>decide
 intro w a;unfold BG at a;rcases f_.1 a with rfl|a
 ·rcases b with rfl|rfl
  ·exact g.1
  ·exact g.2
 rcases List.mem_append.1 a with a|a
 ·rcases List.mem_append.1 a with a|a
  ·obtain⟨z,e,rfl⟩:=List.mem_map.1 a;intro d;rcases f_.1 d with rfl|d
   ·rcases b with b|b<;>cases b
   ·exact H8 (h.p z e).1 f d
  ·obtain⟨z,e,rfl⟩:=List.mem_map.1 a;intro d;rcases f_.1 d with rfl|d
   ·rcases b with b|b<;>cases b
   ·exact H8 (h.c z e).1 f d
 ·unfold q7 gt gJ at a;rcases b with rfl|rfl;all_goals
   split at a
   ·rw[d_.1 a];split <;>decide
   ·split at a
    ·rw[d_.1 a];split <;>decide
    ·cases a
def Eo{x:UInt8}{b:List UInt8}(a:x ∉ b):∀(l:List (List UInt8)),(∀y∈l,x ∉ y)->x ∉ Lib.join l b
 | [],_=>by rw[Lib.join_nil];exact fun h=>by cases h
 | [y],h=>by rw[Lib.join_one];exact h y S_
 |y::z::r,h=>by rw[ij,List.mem_append,List.mem_append,not_or,not_or];exact⟨h y S_,a,Eo a (z::r) fun w c=>h w (by simp[f_.1 c])⟩
def Ml{c:Cn}{r:Kd}(h:NB c r 200 200)(ts:List (List UInt8)):Lib.cut (Et r c ts) [32,61,32]=(Lib.join (BG r c) [32],Lib.join ts [44,32],!decide (ts=[])):=by
 have d:=Eo (b:=[32]) D_ (BG r c) (Kk h (.inr rfl));unfold Et xZ;by_cases a:ts=[]
 ·subst a;rw[if_pos rfl,c_,LE d];rfl
 ·rw[if_neg a,Vp d,F_ a];rfl
def Fm{c:Cn}{r:Kd}(h:NB c r 200 200):Lib.split (Lib.join (BG r c) [32]) [32]=BG r c:=mX _ (by unfold BG;simp) (Kk h (.inl rfl))
def HT{ts:List (List UInt8)}(h0:ts≠[])(h:∀t∈ts,(44:UInt8) ∉ t):Lib.split (Lib.join ts [44,32]) [44,32]=ts:=mX _ h0 h
def NY{s:List UInt8}(h:mq s=true):(44:UInt8) ∉ s:=by
 have b:aT fF s=s.length:=by
  cases s with
  |nil=>cases h
  |cons c r=>simp only[mq,B_,decide_eq_true_eq]at h;exact h.2.2
 intro a;have:=vm b 44 a;revert this;decide
def TB{t:List UInt8}(h:Rg t):(44:UInt8) ∉ t:=by
 have f:¬cM (44:UInt8):=D_;obtain⟨a,g,d⟩:=h;have e:(44:UInt8) ∉ a:=fun c=>f (g.2.1 _ c);rcases d with rfl| ⟨b,_,d,rfl⟩
 ·exact e
 ·rw[List.mem_append,f_];rintro(c|c|c)
  ·exact e c
  ·cases c
  ·exact f (d _ c)
def wQ{b n:Nat}{t:List UInt8}(h:(44:UInt8) ∉ t):(44:UInt8) ∉ gC b n t:=by
 unfold gC;split
 ·simp only[List.mem_append,d_];rintro((a|a)|a)
  ·cases a
  ·exact h a
  ·cases a
 ·exact h
def wl:∀(e:Ex),gR e-> ∀n,(44:UInt8) ∉ aF e n
 | .num v u,h,n=>by
  obtain⟨g,_,c⟩:=h;obtain⟨t,d⟩:=Option.isSome_iff_exists.1 g;have f:aF (.num v u) n=gC 4 n (t++fj u):=by show gC 4 n (Ae v++fj u)=_;rw[Ae,d];rfl
  rw[f];refine wQ ?_;rw[List.mem_append,not_or];refine⟨TB (ju d).1,?_⟩;unfold fj;rcases c with rfl|c
  ·simp
  ·have:=NY c;split
   ·simp
   ·simp only[f_,not_or];exact⟨by decide,this⟩
 | .nam s,h,n=>wQ (NY h)
 | .neg a,h,n=>by show(44:UInt8) ∉ gC 3 n ([45]++aF a 3);refine wQ ?_;simp only[List.mem_append,d_,not_or];exact⟨by decide,wl a h 3⟩
 | .bin k a b,h,n=>by show(44:UInt8) ∉ gC (bM k) n (aF a (bM k)++gW k++aF b (bM k+1));refine wQ ?_;simp only[List.mem_append,not_or];exact⟨⟨wl a h.1 _,by cases k<;>decide⟩,wl b h.2 _⟩
abbrev L8:=List UInt8
def Ee:∀l:List Rx,l.length<=lV l
 | []=>Nat.zero_le _
 |y::r=>by have:=Ee r;cases y;simp only[lV,jx,List.length_cons];omega
def E7{na nb:Bool}{xs ys:List Nat}:aa prog 126 [Gp na xs nb ys] (.one (dB (pF na xs nb ys))):=by
 show aa prog _ [.agg (FH na xs nb ys)] _;by_cases a:xs.length=0
 ·by_cases b:ys.length=0
  ·have e:pF na xs nb ys=(!na && !nb):=by unfold pF;rw[T_ a,T_ b];simp
   rw[e];cases na<;>cases nb;all_goals
    refine kU func126 ?_;refine kR ?_;refine kI ?_;refine kO4 ?_;refine kT ?_;refine kO5 ?_;refine kT ?_;exact kF
  ·have e:pF na xs nb ys=false:=by unfold pF;rw[F_ b];simp
   rw[e];refine kU func126 ?_;refine pi ?_;refine kT ?_;refine kO5 ?_;refine kE ?_;exact am
 ·have e:pF na xs nb ys=false:=by unfold pF;rw[F_ a];simp
  rw[e];refine kU func126 ?_;refine pi ?_;refine kE ?_;exact am
def Nj(args:List Rx):(args.any fun y=>!ub y)=!(args.all ub):=by rw[List.all_eq_not_any_not,Bool.not_not]
def xl:∀(x:Rx),vY x->K4 x->jx x<=1000000->aa prog 87 [dR x] (.one (dB (ub x))):=by
 refine iN fun op na xs nb ys nm args J I u G=>?_;obtain⟨_,_,H,v,F,hlen,f⟩:=I;obtain⟨N,O,V,r⟩:=u;rw[jx]at G;have E:=Ee args;obtain⟨t,c,_⟩:=Fd (na:=na) (nb:=nb) H v N O;have w:=kr nm O_;have hno:=E7 (na:=na) (nb:=nb) (xs:=xs) (ys:=ys);have hcf:=eQ (fid:=127) (p:=fun y=>!ub y) args (fun y l=>gL (J y l (f y l) (r y l) (by have:=rD l;omega))) O_ (Nj args);rw[ub,np];have g:args.length=0->args.all ub=true:=fun h=>by rw[E_ h];rfl
 refine C2 ?_;generalize args.all ub=A at *;generalize args.length=L at *;generalize(mO na xs nb ys).isSome=d at *;generalize pF na xs nb ys=p at *;generalize mq nm=m at *;have c:aa prog 125 [.agg (FH na xs nb ys)] (.tup [dL t,dB d]):=c;have hno:aa prog 126 [.agg (FH na xs nb ys)] (.one (dB p)):=hno;by_cases B:op=1
 ·subst B;by_cases hl:L=0
  ·rw[g hl,Bool.and_true,rl,if_pos rfl,T_ hl,Bool.and_true];generalize hz:decide (nm=[])=z;refine iA ?_;refine EC ?_;refine kO ?_;refine l6 ?_;refine kW ?_;refine kC c ?_;cases d
   ·exact am
   ·refine kG ?_;refine kO4 ?_;cases z
    ·refine Uj ?_;refine kO3 ?_;refine kC w ?_;cases m
     ·exact am
     ·exact am
    ·refine aj rfl rfl rfl rfl rfl rfl rfl (cx (a:=nm) (b:=[]) (h_ hz)) ?_;exact am
  ·rw[rl,if_pos rfl,F_ hl,Bool.and_false,Bool.false_and];refine iA ?_;refine EC ?_;exact t8
 by_cases C:op=2
 ·subst C;by_cases hl:L=0
  ·rw[g hl,Bool.and_true,rl,if_neg D_,if_pos rfl,T_ hl,Bool.and_true];refine iA ?_;refine Iz ?_;refine kO ?_;refine l6 ?_;refine kW ?_;refine kC hno ?_;cases p
   ·exact am
   ·refine kW ?_;refine kC w ?_;cases m
    ·exact am
    ·exact am
  ·rw[rl,if_neg D_,if_pos rfl,F_ hl,Bool.and_false,Bool.false_and];refine iA ?_;refine Iz ?_;exact t8
 by_cases D:op=3
 ·subst D;by_cases hl:L=1
  ·rw[rl,if_neg D_,if_neg D_,if_pos rfl,T_ hl,Bool.and_true];generalize hz:decide (nm=[])=z;refine iA ?_;refine Ka ?_;exact AH
  ·rw[rl,if_neg D_,if_neg D_,if_pos rfl,F_ hl,Bool.and_false,Bool.false_and];refine iA ?_;refine Ka ?_;exact t8
 by_cases Q:op=4
 ·subst Q;by_cases hl:L=2
  ·refine LZ ?_;generalize hz:decide (nm=[])=z;refine iA ?_;refine Ju ?_;exact AH
  ·refine L5 ?_;refine iA ?_;refine Ju ?_;exact t8
 by_cases R:op=5
 ·subst R;by_cases hl:L=2
  ·refine LZ ?_;generalize hz:decide (nm=[])=z;refine iA ?_;refine GI ?_;exact AH
  ·refine L5 ?_;refine iA ?_;refine GI ?_;exact t8
 by_cases S:op=6
 ·subst S;by_cases hl:L=2
  ·refine LZ ?_;generalize hz:decide (nm=[])=z;refine iA ?_;refine Ir ?_;exact AH
  ·refine L5 ?_;refine iA ?_;refine Ir ?_;exact t8
 by_cases U:op=7
 ·subst U;by_cases hl:L=2
  ·refine LZ ?_;generalize hz:decide (nm=[])=z;refine iA ?_;refine GD ?_;exact AH
  ·refine L5 ?_;refine iA ?_;refine GD ?_;exact t8
 rw[rl,if_neg B,if_neg C,if_neg D,if_neg O_,Bool.false_and];by_cases j:op<1
 ·refine kU func87 ?_;refine FU ?_;refine kB true ?_ ?_
  ·exact T_ j
  exact am
 ·refine kU func87 ?_;refine FU ?_;refine kB false ?_ ?_
  ·exact F_ j
  refine kO3 ?_;refine kT ?_;exact am
def qX(x:Rx)(l:vY x)(r:K4 x)(j:jx x<=1000000):aa prog 44 [dR x] (.one (dN .i64 (qj x))):=by
 have c1:=xl x l r j;have c2:=mE x l j;obtain⟨u,b,f,c,g,d,t,a,m⟩:=aJ x;rw[show dR x= .agg (af u b f c g d t a) from congrArg DV.agg m]at c1 c2 ⊢;unfold qj;cases hb:ub x with
 |false=>rw[hb]at c1;rw[if_neg D_];refine kU func44 ?_;exact rV
 |true=>
  rw[hb]at c1;rw[if_pos rfl];by_cases i:pZ x<=40
  ·rw[if_pos i];refine kU func44 ?_;exact Jy
  ·rw[if_neg i];refine kU func44 ?_;refine pN ?_;refine kC c2 ?_;refine kT ?_;exact am
section
open Go.RowKit Go.Sort Go.Lib
def fD(l:List L8):List AV:=l.map fun x=> .val (vL x)
end
mutual
def IE:Rx->Rx->Bool
 | .mk m i p j q l b, .mk f c g d h e a=>decide (m=f) && (decide (l=e) && (decide (b.length=a.length) && ((sameB i c p g && sameB j d q h) && s8 b a)))
def s8:List Rx->List Rx->Bool
 |x::r,y::s=>IE x y && s8 r s
 | [],_=>true
 |_::_,[]=>true
end
def nR:∀(l m:List Rx),l.length=m.length->(s8 l m=true↔ ∀(i:Nat)x y,l[i]? =some x->m[i]? =some y->IE x y=true)
 | [],[],_=>by simp[s8]
 |x::r,y::s,h=>by
  have j:=nR r s (by simpa using h);rw[s8,B_,j];constructor
  ·rintro⟨f,g⟩ i a b d e;cases i with
   |zero=>simp at d e;subst d e;exact f
   |succ i=>exact g i a b (by simpa using d) (by simpa using e)
  ·intro c;exact⟨c 0 x y rfl rfl,fun i a b d e=>c (i+1) a b (by simpa using d) (by simpa using e)⟩
def Jm:∀x:Rx,IE x x=true:=by
 refine iN fun j e l f m g a d=>?_;have h:s8 a a=true:=(nR a a rfl).2 fun i x y b c=>by rw[b]at c;cases c;exact d x (M_ b)
 rw[IE,h,kz rfl,kz rfl];simp
def AB{na nb na' nb':Bool}{xs ys xs' ys':List Nat}(c:xs.length<=2147483648)(a:ys.length<=2147483648):aa prog 24 [Gp na xs nb ys,Gp na' xs' nb' ys'] (.one (dB (sameB na na' xs xs' && sameB nb nb' ys ys'))):=by
 have c1:aa prog 59 [dI na xs,dI na' xs'] (.one (dB (sameB na na' xs xs'))):=fW c rfl;have b:aa prog 59 [dI nb ys,dI nb' ys'] (.one (dB (sameB nb nb' ys ys'))):=fW a rfl;generalize sameB na na' xs xs'=b1 at *;generalize sameB nb nb' ys ys'=b2 at *;cases b1
 ·refine kU func24 ?_;exact rV
 ·cases b2;all_goals
   refine kV func24 ?_;refine kQ c1 ?_;refine kC b ?_;exact kF
def uk:∀(x:Rx),P8 x-> ∀y,P8 y->aa prog 70 [dR x,dR y] (.one (dB (IE x y))):=by
 refine iN fun D na z nb A nm g J v=>?_;rintro⟨r,na',xs',nb',ys',nm',f⟩ w;obtain⟨E,m,t,I⟩:=v;obtain⟨_,_,L,H⟩:=w;have cs:=AB (na:=na) (nb:=nb) (na':=na') (nb':=nb') (xs':=xs') (ys':=ys') E m;have l:=nR g f;rw[IE];generalize(sameB na na' z xs' && sameB nb nb' A ys')=bs at *;show aa prog _ [.agg (af D na z nb A nm g.length (gc g)), .agg (af r na' xs' nb' ys' nm' f.length (gc f))] _;have cs:aa prog 24 [.agg (FH na z nb A), .agg (FH na' xs' nb' ys')] (.one (dB bs)):=cs;by_cases e1:D=r
 ·rw[T_ e1,Bool.true_and];by_cases e2:nm=nm'
  ·rw[T_ e2,Bool.true_and];by_cases e3:g.length=f.length
   ·rw[T_ e3,Bool.true_and];have l:=l e3;cases bs
    ·rw[Bool.false_and];refine Pn ?_;exact am
    ·rw[Bool.true_and];generalize s8 g f=B at *;refine Pn ?_;refine kW ?_;refine av Nat (fun i=>i<=g.length/\ ∀(q:Nat)x y,q<i->g[q]? =some x->f[q]? =some y->IE x y=true) (fun i=>⟨[(2, .box 0 0),(3, .box 1 0),(4, .d (dB false)),(5, .d (dN .i64 i))],[(0,some (af D na z nb A nm g.length (gc g))),(1,some (af r na' xs' nb' ys' nm' f.length (gc f)))]⟩) (fun i=>g.length-i) 0 ⟨Nat.zero_le _,fun q x y h=>absurd h (Nat.not_lt_zero _)⟩
      kw ?_
     rintro i ⟨N,G⟩;refine kI ?_;refine kO4 ?_;by_cases hlt:i<g.length
     ·refine kT ?_;have hlt':i<f.length:=O_;obtain⟨o1,na1,xs1,nb1,ys1,nm1,n1,cs1,F⟩:=aJ g[i];obtain⟨o2,na2,xs2,nb2,ys2,nm2,n2,cs2,u⟩:=aJ f[i];have v:g[i]? =some g[i]:=by simp[hlt]
      have w:f[i]? =some f[i]:=by simp[hlt']
      have hat:∀(j:Nat)(a:AV),(af o1 na1 xs1 nb1 ys1 nm1 n1 cs1)[j]? =some a->(gc g)[i*7+j]? =some a:=fun j a h=>fO g i g[i] v j a (by rw[F];exact h);have hat':∀(j:Nat)(a:AV),(af o2 na2 xs2 nb2 ys2 nm2 n2 cs2)[j]? =some a->(gc f)[i*7+j]? =some a:=fun j a h=>fO f i f[i] w j a (by rw[u];exact h);have c:=J g[i] (List.getElem_mem hlt) (I _ (List.getElem_mem hlt)) f[i] (H _ (List.getElem_mem hlt'));rw[show dR g[i]= .agg (af o1 na1 xs1 nb1 ys1 nm1 n1 cs1) from congrArg DV.agg F,show dR f[i]= .agg (af o2 na2 xs2 nb2 ys2 nm2 n2 cs2) from congrArg DV.agg u]at c;refine kW ?_;refine x4 ?_;refine kW ?_;refine Qd ?_;refine kW ?_;cases hb:IE g[i] f[i]
      ·rw[hb]at c;have C:B=false:=by
        cases B
        ·rfl
        ·rw[l.1 rfl i _ _ v w]at hb;cases hb
       clear l;cases B
       ·refine kC c ?_;exact am
       ·cases C
      ·rw[hb]at c;refine kQ c ?_;exact⟨i+1,⟨hlt,fun q x y E m t=>by
        by_cases e:q=i
        ·subst e;rw[v]at m;rw[w]at t;cases m;cases t;exact hb
        ·exact G q x y O_ m t⟩,by omega,weak ⟨rfl,rfl,rfl,aq O_ O_,trivial⟩ ⟨rfl,rfl,trivial⟩ rfl⟩
     ·have C:B=true:=l.2 fun q x y m t=>G q x y (by have:=(G_.1 m).1;omega) m t;clear l;cases B
      ·cases C
      ·refine kE ?_;exact am
   ·rw[F_ e3,Bool.false_and];refine kU func70 ?_;refine pi ?_;refine Uu ?_;refine ox ?_;exact am
  ·rw[F_ e2,Bool.false_and];refine kU func70 ?_;refine pi ?_;refine kB false ?_ ?_
   ·exact(by simp[e1])
   refine kO5 ?_;refine aj rfl rfl rfl rfl rfl rfl rfl (eM (a:=nm) (b:=nm') e2) ?_;exact am
 ·rw[F_ e1,Bool.false_and];refine kU func70 ?_;refine pi ?_;refine kB true ?_ ?_
  ·exact(by simp[e1])
  exact am
def D7:∀l:List Rx,(gc l).length=l.length*7
 | []=>rfl
 |x::r=>by obtain⟨j,b,e,c,f,d,i,a,g⟩:=aJ x;have h:=D7 r;simp only[gc,L_,g,h,List.length_cons];have:(af j b e c f d i a).length=7:=rfl;omega
section
variable {P:Program}{T:TypeId->Option Ty}{n:Nat}{ops:Array Oper}{id:Nat}{draw:Bool}{K:AS->Prop}{s:AS}{k:Nat}{o:Oper}{os:List Oper}{fps:List FP}
def yU{P:Program}{w:World}{t d q:Nat}(e:P.underlying t=some (.slice d))(b:(P.info? d).map (·.size)=some q)(A:Option Addr){m i c:Nat}(ik:IntKind)(f:i<=c):
 (Instr.sliceAt t (.slice A m c) none (some (.int ik (i:Nat))) none).run P w= .ok (.slice (if c=0 then A else A.map (·.add (0*q))) i c) w:=by
 have a:(0:Int)<=(i:Int)/\(i:Int)<=(c:Nat):=⟨by omega,by omega⟩;unfold Instr.sliceAt;simp only[Y_,run_underlying e w,R_];unfold Instr.slice;simp only[Y_,run_underlying e w,R_,Instr.sliceBounds,Instr.sliceBound,a_,asIntOf];simp only[Bool.false_eq_true,if_false,if_true];rw[if_pos a];simp only[a_,R_,Int.toNat_natCast];rw[b5 b w];rfl
def T8(j':Nat){d t r q len:Nat}{ty G:Ty}{c:Array (Nat × Operand)}{l:List (Nat × DV)}{cs:List AV}(hT:∀t d,T t=some d->bl P t d)(A:gd ops s o=some true)(ho:o.op= .buildSlice t len c)(hd:o.dst=some d)(h3:aO n o.dst=true)(ht:T t=some ty)(J:ty.elem=some (r,q))(R:T r=some G)(hk:(Nat.ble 1 q && (Nat.ble 1 len && (Nat.beq G.zero.length q && (Nat.ble (len*q) 16777216 && Nat.beq cs.length (len*q)))))=true)(hp:eE s c.toList=some l)(hf:nI (fun i=>some (i*q,q)) (qZ G.zero len) l=some cs)(Y:ir cs=true)(hnew:jh s j'=true)(h4:gO draw ops (aH ops o ⟨.own j' len q r,some [(j',some cs)]⟩ [j']) k fps=true)(h:aw P T n ops id draw K (k+1) os (s.eff o.dst ⟨.own j' len q r,some [(j',some cs)]⟩) (aH ops o ⟨.own j' len q r,some [(j',some cs)]⟩ [j']::fps)):aw P T n ops id draw K k (o::os) s fps:=by
 simp only[B_]at hk;obtain⟨E,U,F,k4,V⟩:=hk;have E:=N_ E;have U:=N_ U;have F:=Nat.eq_of_beq_eq_true F;have k4:=N_ k4;have V:=Nat.eq_of_beq_eq_true V;refine .run A (.gen fun s2 ht2 hrb=>?_) h3 h4 h;have f:jh s2 j'=true:=(jC (hrb j' S_)).trans hnew;have O:eE s2 c.toList=some l:=by
  rw[<- hp];have:∀x∈c.toList,s2.ev x.2=s.ev x.2:=fun x S=>aP ht2 (by rw[ho];simp only[Op.operands];simp;exact⟨x.1,by simpa using S⟩);generalize c.toList=ps at this;clear hp hf;induction ps with
  |nil=>rfl
  |cons p ps ih=>simp only[eE];rw[ih (fun x S=>this x (by simp[S])),this p S_]
 intro n W w0 g a w K' Q hM I Z;obtain⟨u,hu,_,B,_⟩:=(hT _ _ ht).und;obtain⟨rfl,L⟩:=B r q J;obtain⟨z,hz,D⟩:=(hT _ _ R).zero;have ad:0<len*q:=Nat.mul_pos U E;have j:z.cells.size=q:=by have:=(D (Own W g s2) w).1;simp at this;omega
 have C:CM (Own W g s2) w (qZ G.zero len) ((Array.range (len*q)).map (fun i=>z.cells[i%z.cells.size]!)).toList:=by
  refine⟨by rw[ls,F];simp,fun i b v A X=>?_⟩;rw[rY _ O_]at A;split at A
  ·rename_i hi;rw[F]at A hi;have hm:i%q<q:=Nat.mod_lt _ E;have hv:v=z.cells[i%q]'(by omega):=by simp[hi,j]at X;rw[<- X];simp[j,hm]
   exact(D _ w).2 (i%q) b v A (by rw[hv];simp[j,hm])
  ·cases A
 obtain⟨m,g1,H⟩:=rG l _ _ _ cs C (nt hM c.toList l O) hf;have e:(c.map fun x=>match x with|(i,y)=>(i,a.eval y)).toList=c.toList.map fun(p:Nat × Operand)=>(p.1,a.eval p.2):=S_;have hr:(execOp a.eval o).run P w= .ok (.value (.slice (some ⟨w.heap.size,0,none⟩) len len)) (w.alloc (.cells m r)):=by unfold execOp;rw[ho];simp only[Instr.buildSlice,Y_,run_underlying hu w,R_,b5 L w];rw[if_neg O_,if_neg O_];simp only[Y_,jk hz w,R_,a_,e,g1];rfl
 unfold Oper.wp;rw[hr];show K' (a.put o.dst _) _;rw[hd]at Z ⊢;have hsz:m.size=len*q:=by have:=H.1;simp at this;omega
 have N:len<=9223372036854775807:=by have:=Nat.le_mul_of_pos_right len E;omega
 refine Z _ _ _ (hM.alloc (I d hd) (dt f).1 (dt f).2 H.cp (fun _=>pQ H Y) (rI Y) (fun h=>by rw[rg f]at h;cases h) fun g' s' hg hb=>?_);refine⟨AS.kn_of hb,fun cs' hc=>⟨len,by rw[hg],l_ _,N,?_,m,?_,hsz⟩⟩
 ·rw[hb]at hc;cases hc;exact Nat.le_of_eq V.symm
 ·rw[hg];exact heap_alloc_new w _
end
end Go.Proofs.YtnchbpoopnjghaaGreatDoor
