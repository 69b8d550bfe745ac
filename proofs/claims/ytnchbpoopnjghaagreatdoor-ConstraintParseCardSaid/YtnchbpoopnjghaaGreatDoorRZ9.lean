/- Parts of a proof: contracts of the functions that the laws reach. -/
import Derived.Test.YtnchbpoopnjghaaGreatDoorRZ8
set_option maxHeartbeats 100000000
set_option linter.all false
open Go.Proofs.Tryz
namespace Go.Proofs.YtnchbpoopnjghaaGreatDoor
open Go.RowKit
def zO(l:List L8):(fD l).length=l.length:=by simp[fD]
def Km(a b:List L8):fD (a++b)=fD a++fD b:=by simp[fD]
def Mv{l:List L8}{i:Nat}{x:L8}(h:l[i]? =some x):(fD l)[i*1]? =some (.val (vL x)):=by simp[fD,h]
def ii{l:List L8}{i:Nat}{x:L8}(h:l[i]? =some x):∀(j:Nat)(a:AV),[AV.val (vL x)][j]? =some a->(fD l)[i*1+j]? =some a:=fun j a b=>by
 cases j with
 |zero=>cases b;exact Mv h
 |succ j=>cases b
def bT{α:Type}{o:List α}{k:Nat}{n:α}(a:o[k]? =some n):o.take (k+1)=o.take k++[n]:=by obtain⟨h,e⟩:=G_.1 a;rw[List.take_succ_eq_append_getElem h,e]
def QJ{x:Rx}(b:vY x)(a:K4 x)(h:qj x=0):∃e,x=rx e/\gR e:=by
 refine Qv x b a ?_;unfold qj at h;cases hf:ub x
 ·rw[hf]at h;simp at h
 ·rfl
section
variable {P:Program}{T:TypeId->Option Ty}{n:Nat}{ops:Array Oper}{id:Nat}{draw:Bool}{K:AS->Prop}{s:AS}{k:Nat}{o:Oper}{os:List Oper}{fps:List FP}
end
section
variable {P:Program}{T:TypeId->Option Ty}{n:Nat}{ops:Array Oper}{id:Nat}{draw:Bool}{K:AS->Prop}{s:AS}{k:Nat}{o:Oper}{os:List Oper}{fps:List FP}
end
section
variable {P:Program}{T:TypeId->Option Ty}{n:Nat}{ops:Array Oper}{id:Nat}{draw:Bool}{K:AS->Prop}{s:AS}{k:Nat}{o:Oper}{os:List Oper}{fps:List FP}
def Ug(hT:∀t d,T t=some d->bl P t d){t:TypeId}{ty:Ty}{x y:Operand}{N q m i:Nat}{ik:IntKind}{cs:List AV}(hi:i<=m)(h1:gd ops s o=some true)(D:o.op= .slice t x none (some y) none)(h5:T t=some ty)(h6:ty.elem=some (N,q))(h7:s.ev x= .d (.leaf (.sl m cs)))(h8:s.ev y= .d (.leaf (.val (.int ik (i:Nat)))))(h3:aO n o.dst=true)(h4:gO draw ops (aH ops o ⟨.d (.leaf (.sl i (cs.take (i*q)))),none⟩ []) k fps=true)(h:aw P T n ops id draw K (k+1) os (s.eff o.dst ⟨.d (.leaf (.sl i (cs.take (i*q)))),none⟩) (aH ops o ⟨.d (.leaf (.sl i (cs.take (i*q)))),none⟩ []::fps)):aw P T n ops id draw K k (o::os) s fps:=by
 refine .run h1 (.gen fun U R _=>?_) h3 h4 h;have hx:=(aP R (x:=x) (by simp[D,Op.operands])).trans h7;have hy:=(aP R (x:=y) (by simp[D,Op.operands])).trans h8;obtain⟨u,S,_,F,_⟩:=(hT _ _ h5).und;obtain⟨rfl,l⟩:=F N q h6;refine ar fun n L w0 g a w O=>?_;have r:=O.ev x;rw[hx]at r;have r:AV.M (Own L g U) w (.sl m cs) (a.eval x):=r;have G:=bn O hy;have J:∃v,(Instr.sliceAt t (a.eval x) none (some (.int ik (i:Nat))) none).run P w= .ok v w/\AV.M (Own L g U) w (.sl i (cs.take (i*q))) v:=by
  generalize a.eval x=v at r;cases r with
  |emp V W C=>
   rename_i A c;refine⟨_,yU S l A ik O_,?_⟩;rw[List.take_nil];refine .emp O_ O_ (fun E=>?_);split at E
   ·assumption
   ·exact C (by cases A<;>simp_all)
  |sl f V W C X Y Z=>
   rename_i b e c;have E:(if c=0 then some (⟨b,e,none⟩:Addr)else(some (⟨b,e,none⟩:Addr)).map (·.add (0*q)))=some ⟨b,e,none⟩:=by
    split
    ·rfl
    ·show some ((⟨b,e,none⟩:Addr).add (0*q))=_;rw[bt,Nat.zero_mul,Nat.add_zero]
   have B:=yU (P:=P) (w:=w) S l (some (⟨b,e,none⟩:Addr)) (m:=m) (i:=i) (c:=c) ik O_;rw[E]at B;refine⟨_,B,?_⟩;have Q:∀(p:Nat)(b:AV),(cs.take (i*q))[p]? =some b->cs[p]? =some b:=fun p b z=>by
    rw[List.getElem?_take]at z;split at z
    ·exact z
    ·cases z
   exact .sl f O_ O_ C X (fun j x I=>Y _ _ (Q j x I)) (fun j x I=>Z _ _ (Q j x I))
 obtain⟨v,B,hv⟩:=J;refine⟨v,w,?_,Below.refl _ _,hv⟩;unfold execOp;rw[D];simp only[G,Option.map_some,Option.map_none,Y_,B,R_];rfl
def Q7(u:∀t d,T t=some d->bl P t d){t:TypeId}{ty:Ty}{x y:Operand}{b q m i d:Nat}{ik:IntKind}{cs:List AV}(a:cs.length<=m*q)(w:i<=m)(v:m-i=d)(c:gd ops s o=some true)(e:o.op= .slice t x (some y) none none)(j:T t=some ty)(l:ty.elem=some (b,q))(p:s.ev x= .d (.leaf (.sl m cs)))(r:s.ev y= .d (.leaf (.val (.int ik (i:Nat)))))(f:aO n o.dst=true)(g:gO draw ops (aH ops o ⟨.d (.leaf (.sl d (cs.drop (i*q)))),none⟩ []) k fps=true)(h:aw P T n ops id draw K (k+1) os (s.eff o.dst ⟨.d (.leaf (.sl d (cs.drop (i*q)))),none⟩) (aH ops o ⟨.d (.leaf (.sl d (cs.drop (i*q)))),none⟩ []::fps)):aw P T n ops id draw K k (o::os) s fps:=by subst v;exact Aq u a w c e j l p r f g h
end
section
variable {P:Program}{T:TypeId->Option Ty}{n:Nat}{ops:Array Oper}{id:Nat}{draw:Bool}{K:AS->Prop}{s:AS}{k:Nat}{o:Oper}{os:List Oper}{fps:List FP}
end
section
variable {P:Program}{T:TypeId->Option Ty}{n:Nat}{ops:Array Oper}{id:Nat}{draw:Bool}{K:AS->Prop}{s:AS}{k:Nat}{o:Oper}{os:List Oper}{fps:List FP}
end
def C3(F:List L8)(x:L8):(fD F).take (F.length*1)++[.val (vL x)]=fD (F++[x]):=by rw[o_,K_ (Nat.le_of_eq (zO F)),Km];rfl
def VO(r:Kd):List AV:=[.val (.int .i64 r.p), .val (.int .i64 r.c), .val (.int .i64 r.n), .val (.int .i64 r.q), .val (.bool r.s), .val (.bool (Nat.beq r.v 1 || Nat.beq r.v 2)), .val (.bool (Nat.beq r.v 2))]
def TN:List AV:=[.val (.int .i64 0), .val (.int .i64 0), .val (.int .i64 0), .val (.int .i64 0), .val (.bool false), .val (.bool false), .val (.bool false)]
def VX(o:Option Kd):RV:=match o with
 |some r=> .tup [.agg (VO r),dB true]
 |none=> .tup [.agg TN,dB false]
def VS(o:Option Kd):List UInt8:=match o with
 |some r=>r.nm
 |none=>[]
def xI{α:Type}{f:α->List AV}{q:Nat}(c:∀x,(f x).length=q):∀(l:List α)(i:Nat)(x:α),l[i]? =some x-> ∀(j:Nat)(a:AV),(f x)[j]? =some a->(l.flatMap f)[i*q+j]? =some a
 | [],i,x,h,_,_,_=>by simp at h
 |y::l,0,x,h,j,a,b=>by simp at h;subst h;simp only[List.flatMap_cons,Nat.zero_mul,J_];rw[List.getElem?_append_left (G_.1 b).1];exact b
 |y::l,i+1,x,h,j,a,b=>by
  simp only[List.flatMap_cons];have e:(i+1)*q+j-q=i*q+j:=by rw[Nat.add_mul];omega
  rw[g_ (by rw[c,Nat.add_mul];omega),c,e];exact xI c l i x (by simpa using h) j a b
def A8{k:Int}(h:k<1):uh k=none:=by unfold uh;rw[if_neg O_]
def BM{k:Int}(h:17<k):uh k=none:=by unfold uh;rw[if_neg O_]
def nr{i:Nat}(b:1<=i)(c:i<=17):∃r,uh (i:Int)=some r/\mz[i-1]? =some r:=by
 have a:i-1<mz.length:=by rw[CS];omega
 refine⟨mz[i-1],?_,by simp[a]⟩;unfold uh;rw[if_pos O_,Int.toNat_natCast];simp[a]
def Pt{i:Nat}{r:Kd}(d:1<=i)(h:mz[i-1]? =some r):∀(j:Nat)(a:AV),(RS r)[j]? =some a->(RS ⟨[],0,0,0,0,0,false⟩++mz.flatMap RS)[i*8+j]? =some a:=fun j a b=>by
 have c:=xI (f:=RS) (q:=8) (fun _=>rfl) mz (i-1) r h j a b;rw[g_ (by show 8<=_;omega)];have e:i*8+j-(RS ⟨[],0,0,0,0,0,false⟩).length=(i-1)*8+j:=by show i*8+j-8=_;omega
 rw[e];exact c
def gE:(Tryz.prog.info? 72).map (·.size)=some 8:=by kernel_rfl
def wt(k:Int):aa prog 30 [dN .i64 k] (VX (uh k)):=by
 by_cases a:k<1
 ·rw[A8 a];refine kU func30 ?_;exact Jw
 ·by_cases b:17<k
  ·rw[BM b];refine kU func30 ?_;refine Ii ?_;refine kT ?_;exact am
  ·obtain⟨i,rfl⟩:=Int.eq_ofNat_of_zero_le (show 0<=k by omega);obtain⟨r,c,hi⟩:=nr (i:=i) O_ O_;rw[c];refine kU func30 ?_;exact OB
def Fw(k:Int):aa prog 14 [dN .i64 k] (.one (dL (VS (uh k)))):=by
 by_cases a:k<1
 ·rw[A8 a];refine kU func14 ?_;exact Jw
 ·by_cases b:17<k
  ·rw[BM b];refine kU func14 ?_;refine Ii ?_;refine kT ?_;exact am
  ·obtain⟨i,rfl⟩:=Int.eq_ofNat_of_zero_le (show 0<=k by omega);obtain⟨r,c,hi⟩:=nr (i:=i) O_ O_;rw[c];refine kU func14 ?_;exact OB
def J1{s:List UInt8}{i:Nat}{r:Kd}(l:1<=i)(d:mz[i-1]? =some r)(j:i-1<=mz.findIdx (fun r=>decide (r.nm=s))):(r.nm=s->gY s=i)/\(r.nm≠s->i<=mz.findIdx (fun r=>decide (r.nm=s))):=by
 have f:=(G_.1 d).1;have c:=f;rw[CS]at c;refine⟨fun e=>?_,fun e=>?_⟩
 ·have a:mz.findIdx (fun r=>decide (r.nm=s))=i-1:=by refine Nat.le_antisymm (Nat.le_of_not_lt fun h=>?_) j;have:=List.not_of_lt_findIdx h;have g:=(G_.1 d).2;rw[g]at this;simp[e]at this
  unfold gY;rw[a,if_pos O_];omega
 ·refine Nat.le_of_not_lt fun h=>?_;have a:mz.findIdx (fun r=>decide (r.nm=s))=i-1:=O_;have b:=List.findIdx_getElem (p:=fun r:Kd=>decide (r.nm=s)) (xs:=mz) (w:=by rw[a];exact f);simp only[a]at b;rw[(G_.1 d).2]at b;exact e (h_ b)
def Id{s:List UInt8}(h:17<=mz.findIdx (fun r=>decide (r.nm=s))):gY s=0:=by unfold gY;rw[if_neg O_]
def So(k:Int):RV:= .tup [dN .i64 k,dB (decide (k≠0))]
def FE(s:List UInt8):aa prog 12 [dL s] (So (gY s)):=by
 have g:= @J1 s;have m:= @Id s;generalize mz.findIdx (fun r=>decide (r.nm=s))=f at *;generalize gY s=z at *;refine kV func12 ?_;refine av Nat (fun i=>1<=i/\i<=18/\i-1<=f) (fun i=>⟨[(0, .d (dL s)),(4, .d (dN .i64 i))],[]⟩) (fun i=>18-i) 1 ⟨l_ _,by omega,Nat.zero_le _⟩ kw ?_;rintro i ⟨c,v,j⟩;refine kI ?_;refine kO ?_;by_cases l:i<=17
 ·refine kT ?_;obtain⟨r,w,t⟩:=nr c l;have u:=g c t j;refine kG ?_;refine kO ?_;refine JF (i:=i) (Pt c t) underlying73 gE O_ rfl rfl rfl rfl rfl rfl ?_;refine kO3 ?_;by_cases e:r.nm=s
  ·refine aj rfl rfl rfl rfl rfl rfl rfl (cx (a:=r.nm) (b:=s) e) ?_;refine j9 ?_;rw[u.1 e];unfold So;rw[T_ (show(i:Int)≠0 by omega)];rfl
  ·refine aj rfl rfl rfl rfl rfl rfl rfl (bA (a:=r.nm) (b:=s) e) ?_;refine kW ?_;have:=u.2 e;exact⟨i+1,⟨by omega,by omega,by omega⟩,by omega,weak ⟨rfl,aq O_ O_,trivial⟩ trivial rfl⟩
 ·refine kE ?_;refine j9 ?_;rw[m O_];rfl
abbrev FD(m:Int):List AV:=[.val (.int .i64 m)]
def xq{m:Int}:eL [(900,FD m)] [(900,FD m)]:=eL.one (l_ 1)
def Ce(z m:Int):ay prog 85 [.d (dN .i64 z), .box 900 0] [(900,FD m)] (.v (.one (dB (!tM m z)))) [(900,FD m)]:=by
 unfold tM;by_cases b:z<0
 ·rw[F_ (show ¬0<=z by omega)];refine Ki ?_;refine kT ?_;exact fE
 ·rw[T_ (show 0<=z by omega)];by_cases a:z<m
  ·rw[T_ a];refine Ki ?_;refine kE ?_;refine kO3 ?_;refine kE ?_;exact fE
  ·rw[F_ a];refine Ki ?_;refine kE ?_;refine kO3 ?_;refine kT ?_;exact fE
def uI{fid:FuncId}{p:Int->Bool}{m:Int}(l:List Int)(t:∀x∈l,ay prog fid [.d (dN .i64 x), .box 900 0] [(900,FD m)] (.v (.one (dB (p x)))) [(900,FD m)])(y:l.length<=1000000):ay prog 124 [.d (qh l), .clo (.func fid) [] [.box 900 0]] [(900,FD m)] (.v (.one (dN .i64 (if l.findIdx p<l.length then((l.findIdx p:Nat):Int)else -1)))) [(900,FD m)]:=by
 have w:=List.findIdx_le_length (p:=p) (xs:=l);have r:∀(i:Nat)(j:i<l.length),i<l.findIdx p->p l[i]=false:=fun i j h=>by have:=List.not_of_lt_findIdx h;simpa using this
 have u:∀(h:l.findIdx p<l.length),p (l[l.findIdx p])=true:=fun h=>List.findIdx_getElem;generalize l.findIdx p=f at *;refine aX ah dz func124 rfl rfl rfl rfl rfl xq ?_;refine kW ?_;refine av Nat (fun i=>i<=f) (fun i=>⟨[(0, .d (qh l)),(1, .clo (.func fid) [] [.box 900 0]),(4, .d (dN .i64 0)),(7, .d (dN .i64 l.length)),(8, .d (dN .i64 i))],[(900,some (FD m))]⟩) (fun i=>l.length-i) 0 (Nat.zero_le _)
  kw ?_
 intro i j;refine kI ?_;by_cases hlt:i<l.length
 ·refine kT ?_;have hx:l[i]? =some l[i]:=by simp[hlt]
  have c:=t l[i] (List.getElem_mem hlt);have b:=r i hlt;have g:∀h:i=f,p l[i]=true:=fun h=>by subst h;exact u hlt
  generalize l[i]=q at *;refine N3 ?_;rcases Bool.eq_false_or_eq_true (p q)with a|a
  ·rw[a]at c;have e:i=f:=by
    by_cases e:i<f
    ·have:=b e;rw[a]at this;cases this
    ·omega
   subst e;rw[if_pos hlt];refine kD c ?_;exact fE
  ·rw[a]at c;refine kZ c ?_;refine⟨i+1,?_,by omega,weak ⟨rfl,rfl,rfl,rfl,aq O_ O_,trivial⟩ ⟨rfl,trivial⟩ rfl⟩;by_cases e:i=f
   ·have:=g e;rw[a]at this;cases this
   ·omega
 ·rw[if_neg O_];refine kE ?_;exact fE
def pg{fid:FuncId}{p:Int->Bool}{m:Int}(l:List Int)(f:∀x∈l,ay prog fid [.d (dN .i64 x), .box 900 0] [(900,FD m)] (.v (.one (dB (p x)))) [(900,FD m)])(b:l.length<=1000000):ay prog 84 [.d (qh l), .clo (.func fid) [] [.box 900 0]] [(900,FD m)] (.v (.one (dB (l.any p)))) [(900,FD m)]:=by
 have c:=uI l f b;have a:(l.findIdx p<l.length)↔l.any p=true:=by rw[List.any_eq_true];exact List.findIdx_lt_length
 cases hb:l.any p with
 |true=>rw[if_pos (a.2 hb)]at c;refine aX ah dz func84 rfl rfl rfl rfl rfl xq ?_;refine kW ?_;refine kD c ?_;refine kT ?_;exact fE
 |false=>rw[if_neg (fun h=>by rw[a.1 h]at hb;cases hb)]at c;refine aX ah dz func84 rfl rfl rfl rfl rfl xq ?_;refine kW ?_;refine kD c ?_;exact fE
def qz(l:List Int)(n m:Int)(a:l.length<=1000000):aa prog 41 [qh l,dN .i64 n,dN .i64 m] (.one (dB (decide ((l.length:Int)=n) && l.all (tM m)))):=by
 have c:=(pg (fid:=85) (p:=fun z=>!tM m z) (m:=m) l (fun x _=>Ce x m) a).swap 900 0 rfl;rw[show l.any (fun z=>!tM m z)=!l.all (tM m) by rw[List.not_all_eq_any_not]]at c;by_cases h:(l.length:Int)=n
 ·rw[T_ h];generalize l.all (tM m)=b at *;cases b;all_goals(
   refine kU func41 ?_;refine kR ?_;refine kI ?_;refine kO3 ?_;refine kB true ?_ ?_
   ·exact(by simp[h])
   refine kO3 ?_;refine kD c ?_;exact kF)
 ·rw[F_ h];refine kU func41 ?_;refine kR ?_;refine kI ?_;refine kO3 ?_;exact I6
def Gd(l:List Int)(n:Int)(u:l.length<=1000000):∃i:Int,(0<=i↔n∈l)/\aa prog 128 [qh l,dN .i64 n] (.one (dN .i64 i)):=by
 refine⟨if l.findIdx (fun x=>decide (x=n))<l.length then((l.findIdx (fun x=>decide (x=n)):Nat):Int)else -1,?_,?_⟩
 ·have:=List.findIdx_lt_length (p:=fun x=>decide (x=n)) (xs:=l);split
  ·rename_i h;obtain⟨x,hx,e⟩:=this.1 h;have e:=h_ e;subst e;exact⟨fun _=>hx,fun _=>by omega⟩
  ·rename_i h;exact⟨fun h=>by omega,fun j=>absurd (this.2 ⟨n,j,T_ rfl⟩) h⟩
 ·have t:=List.findIdx_le_length (p:=fun x=>decide (x=n)) (xs:=l);have m:∀(i:Nat)(c:i<l.length),i<l.findIdx (fun x=>decide (x=n))->l[i]≠n:=fun i c h=>by have:=List.not_of_lt_findIdx h;simpa using this
  have r:∀(h:l.findIdx (fun x=>decide (x=n))<l.length),l[l.findIdx (fun x=>decide (x=n))]=n:=fun h=>by have:=List.findIdx_getElem (p:=fun x=>decide (x=n)) (xs:=l) (w:=h);exact h_ this
  generalize l.findIdx (fun x=>decide (x=n))=f at *;refine kV func128 ?_;refine av Nat (fun i=>i<=f) (fun i=>⟨[(0, .d (qh l)),(1, .d (dN .i64 n)),(4, .d (dN .i64 0)),(7, .d (dN .i64 l.length)),(8, .d (dN .i64 i))],[]⟩) (fun i=>l.length-i) 0 (Nat.zero_le _)
   kw ?_
  intro i c;refine kI ?_;by_cases hlt:i<l.length
  ·refine kT ?_;have hx:l[i]? =some l[i]:=by simp[hlt]
   have a:=m i hlt;have b:∀h:i=f,l[i]=n:=fun h=>by subst h;exact r hlt
   generalize l[i]=q at *;refine N3 ?_;by_cases e:n=q
   ·have g:i=f:=by
     by_cases h:i<f
     ·exact absurd e.symm (a h)
     ·omega
    subst g;rw[if_pos hlt];refine kB true ?_ ?_
    ·exact(by simp[e])
    exact am
   ·refine kB false ?_ ?_
    ·exact(by simp[e])
    refine kW ?_;refine⟨i+1,?_,by omega,weak ⟨rfl,rfl,rfl,rfl,aq O_ O_,trivial⟩ trivial rfl⟩;by_cases h:i=f
    ·exact absurd (b h).symm e
    ·omega
  ·rw[if_neg O_];refine kE ?_;exact am
def xx(l:List Int)(n:Int)(d:l.length<=1000000):aa prog 88 [qh l,dN .i64 n] (.one (dB (decide (n∈l)))):=by
 obtain⟨i,a,c⟩:=Gd l n d;by_cases h:n∈l
 ·rw[T_ h];have:=a.2 h;refine kV func88 ?_;refine kC c ?_;refine kT ?_;exact am
 ·rw[F_ h];have:=fun b=>h (a.1 b);refine kV func88 ?_;refine kC c ?_;refine kE ?_;exact am
def ET(l:List Int)(i:Nat):bF (l.take i)=(bF l).take i:=by simp[bF,List.map_take]
def sW{l:List Int}{i:Nat}{z:Int}(j:(l.take i).Nodup)(m:l[i]? =some z):(z ∉ l.take i->(l.take (i+1)).Nodup)/\(z∈l.take i-> ¬l.Nodup):=by
 have e:=bT m;refine⟨fun h=>?_,fun h g=>?_⟩
 ·rw[e,List.nodup_append];exact⟨j,S_,fun a d b f=>by rw[d_.1 f];exact fun e=>h (e ▸ d)⟩
 ·have c:(l.take (i+1)).Nodup:=g.sublist (List.take_sublist _ _);rw[e,List.nodup_append]at c;exact c.2.2 z h z S_ rfl
def ld(l:List Int)(g:l.length<=1000000):aa prog 46 [qh l] (.one (dB (decide l.Nodup))):=by
 refine kV func46 ?_;refine av Nat (fun i=>i<=l.length/\(l.take i).Nodup) (fun i=>⟨[(0, .d (qh l)),(5, .d (qh l)),(6, .d (dN .i64 l.length)),(7, .d (dN .i64 i))],[]⟩) (fun i=>l.length-i) 0 ⟨Nat.zero_le _,by simp⟩ kw ?_;rintro i ⟨f,hn⟩;refine kI ?_;by_cases hlt:i<l.length
 ·refine kT ?_;obtain⟨z,hz⟩:∃z,l[i]? =some z:=⟨l[i],by simp[hlt]⟩;have a:=sW hn hz;have c:=xx (l.take i) z (by simp;omega);rw[show qh (l.take i)= .leaf (.sl i ((bF l).take (i*1))) from by unfold qh;rw[ET,o_,U_,Nat.min_eq_left f]]at c;refine kW ?_;refine NE ?_;refine kG ?_;refine kO2 ?_;refine Ug ah (i:=i) f rfl rfl rfl rfl rfl rfl rfl rfl ?_;refine kO ?_;by_cases e:z∈l.take i
  ·rw[T_ e]at c;refine kC c ?_;refine j9 ?_;exact congrArg (fun b=>RV.one (dB b)) (F_ (a.2 e)).symm
  ·rw[F_ e]at c;refine kQ c ?_;exact⟨i+1,⟨hlt,a.1 e⟩,by omega,weak ⟨rfl,rfl,rfl,aq O_ O_,trivial⟩ trivial rfl⟩
 ·refine kE ?_;refine j9 ?_;exact Oe
def Bl(p q r s:Int):aa prog 45 [qh [p,q,r,s]] (.one (dB (RN [p,q,r,s]))):=by
 obtain⟨b,a⟩:∃b,RN [p,q,r,s]=b:=⟨_,rfl⟩;rw[a];unfold RN at a;refine kU func45 ?_;iterate 2 refine kG ?_
 refine kO ?_;refine aS (i:=0) (cs':=[.val (.int .i64 p)]) S_ (bd (l:=[p,q,r,s]) (i:=0) rfl) (Z_ 0) rfl rfl rfl rfl rfl rfl rfl rfl ?_;refine kO2 ?_;refine aS (i:=1) (cs':=[.val (.int .i64 q)]) S_ (bd (l:=[p,q,r,s]) (i:=1) rfl) (Z_ 0) rfl rfl rfl rfl rfl rfl rfl rfl ?_;refine kO2 ?_;refine aS (i:=2) (cs':=[.val (.int .i64 r)]) S_ (bd (l:=[p,q,r,s]) (i:=2) rfl) (Z_ 0) rfl rfl rfl rfl rfl rfl rfl rfl ?_;refine kO2 ?_;refine aS (i:=3) (cs':=[.val (.int .i64 s)]) S_ (bd (l:=[p,q,r,s]) (i:=3) rfl) (Z_ 0) rfl rfl rfl rfl rfl rfl rfl rfl ?_;refine kG ?_;refine kO2 ?_;by_cases f:p=q
 ·refine kB false ?_ ?_
  ·exact(by simp[f])
  refine j9 ?_;exact congrArg (fun b=>RV.one (dB b)) (by rw[<- a];simp[f])
 refine kB true ?_ ?_
 ·exact(by simp[f])
 refine kO3 ?_;by_cases c:r=s
 ·refine kB false ?_ ?_
  ·exact(by simp[c])
  refine j9 ?_;exact congrArg (fun b=>RV.one (dB b)) (by rw[<- a];simp[c])
 refine kB true ?_ ?_
 ·exact(by simp[c])
 refine kO4 ?_;by_cases g:p=r
 ·refine kB true ?_ ?_
  ·exact(by simp[g])
  refine kO3 ?_;have d:p≠s:=fun e=>c (g.symm.trans e);by_cases j:q=s
  ·refine kB true ?_ ?_
   ·exact(by simp[j])
   refine j9 ?_;exact congrArg (fun b=>RV.one (dB b)) (by rw[<- a];simp[g,j])
  ·refine kB false ?_ ?_
   ·exact(by simp[j])
   iterate 6 refine kO ?_
   refine kB false ?_ ?_
   ·exact(by simp[d])
   refine j9 ?_;exact congrArg (fun b=>RV.one (dB b)) (by rw[<- a];simp[f,c,j,d])
 ·refine kB false ?_ ?_
  ·exact(by simp[g])
  iterate 10 refine kO ?_
  by_cases d:p=s
  ·refine kB true ?_ ?_
   ·exact(by simp[d])
   refine kO3 ?_;by_cases m:q=r
   ·refine kB true ?_ ?_
    ·exact(by simp[m])
    refine j9 ?_;exact congrArg (fun b=>RV.one (dB b)) (by rw[<- a];simp[d,m])
   ·refine kB false ?_ ?_
    ·exact(by simp[m])
    refine j9 ?_;exact congrArg (fun b=>RV.one (dB b)) (by rw[<- a];simp[f,c,g,m])
  ·refine kB false ?_ ?_
   ·exact(by simp[d])
   refine j9 ?_;exact congrArg (fun b=>RV.one (dB b)) (by rw[<- a];simp[f,c,g,d])
def Av{x:Rx}(c:aa prog 44 [dR x] (.one (dN .i64 (qj x)))):aa prog 43 [dR x] (.one (dB (!decide (qj x=0)))):=by
 obtain⟨m,b,g,d,i,f,l,a,j⟩:=aJ x;rw[show dR x= .agg (af m b g d i f l a) from congrArg DV.agg j]at c ⊢;by_cases h:qj x=0
 ·rw[T_ h];refine kV func43 ?_;refine kC c ?_;exact I6
 ·rw[F_ h];refine kV func43 ?_;refine kC c ?_;refine kB true ?_ ?_
  ·exact(by simp[h])
  exact am
def Nr:((List.range 4).all fun i=>decide (((mz[i+4]?).map fun r=>r.p)=some 4))=true:=D_
def zd{k:Int}{r:Kd}(h:uh k=some r)(b:5<=k)(c:k<=8):r.p=4:=by obtain⟨_,_,a⟩:=nj h;have:=I_.1 Nr (k.toNat-5) (List.mem_range.2 O_);rw[show k.toNat-5+4=k.toNat-1 by omega,a]at this;simpa using this
def C6{l:List Int}(h:l.length=4):∃p q r s,l=[p,q,r,s]:=by
 match l,h with
 | [p,q,r,s],_=>exact⟨p,q,r,s,rfl⟩
def Lx(vs:List Rx):vs.any (fun x=>!decide (qj x=0))=!vs.all (fun x=>decide (qj x=0)):=by rw[List.not_all_eq_any_not]
def cC(k:Int)(a cs:List Int)(vs:List Rx)(s:Int):List AV:=[.val (.int .i64 k), .sl a.length (bF a), .sl cs.length (bF cs), .sl vs.length (gc vs), .val (.int .i64 s)]
def rU(c:Cn)(P Q:Int)(C:c.ps.length<=1000000)(I:c.cs.length<=1000000)(U:c.vs.length<=1000000)(O:∀x∈c.vs,aa prog 44 [dR x] (.one (dN .i64 (qj x)))):aa prog 17 [dC c,dN .i64 P,dN .i64 Q] (.one (dB (AM c P Q))):=by
 have cS:=wt c.k;have cE:=eQ (fid:=43) (p:=fun x=>!decide (qj x=0)) c.vs (fun x V=>Av (O x V)) U rfl;rw[Lx]at cE;cases hk:uh c.k with
 |none=>rw[hk]at cS;rw[tq hk];obtain⟨k,d,f,m,s⟩:=c;have cS:aa prog 30 [dN .i64 k] (.tup [.agg TN,dB false]):=cS;show aa prog _ [.agg (cC k d f m s),_,_] _;refine kV func17 ?_;refine kC cS ?_;exact am
 |some r=>
  rw[hk]at cS;rw[rT hk];have b:5<=c.k->c.k<=8->r.p=4:=zd hk;obtain⟨k,d,f,m,s⟩:=c;obtain⟨W,w,v,R,Y,X,g⟩:=r;dsimp only at *;have cS:aa prog 30 [dN .i64 k] (.tup [.agg (VO ⟨W,w,v,R,Y,X,g⟩),dB true]):=cS;have cA:=qz d w P C;have cB:=qz f v Q I;have y:=ld d C;have z:=ld f I;obtain⟨E,L⟩:∃E,m.all (fun x=>decide (qj x=0))=E:=⟨_,rfl⟩;rw[L]at cE ⊢;obtain⟨A,u⟩:∃A,(decide ((d.length:Int)=w) && d.all (tM P))=A:=⟨_,rfl⟩;rw[u]at cA ⊢;obtain⟨B,J⟩:∃B,(decide ((f.length:Int)=v) && f.all (tM Q))=B:=⟨_,rfl⟩;rw[J]at cB ⊢;show aa prog _ [.agg (cC k d f m s),_,_] _;cases A
  ·refine kV func17 ?_;refine kQ cS ?_;refine kC cA ?_;exact am
  cases B
  ·refine Q8 ?_;refine kC cB ?_;exact am
  by_cases hn:(m.length:Int)=R
  rotate_left
  ·rw[F_ hn];refine Q8 ?_;refine kC cB ?_;iterate 8 refine kO ?_
   refine kB true ?_ ?_
   ·exact(by simp[hn])
   exact am
  rw[T_ hn];have i:5<=k/\k<=8-> ∃p q r t,d=[p,q,r,t]:=fun h=>by have Z:=b h.1 h.2;simp only[B_,decide_eq_true_eq]at u;exact C6 O_
  clear b u J L O;cases E
  ·refine Jv ?_;exact am
  have a:(g=false/\s=0)∨(g=true/\s=1)∨(g=true/\s= -1)∨(g=false/\s≠0)∨(g=true/\s≠1/\s≠ -1):=by cases g<;>simp <;>omega
  rcases a with a|a|a| ⟨rfl,j⟩| ⟨rfl,j,l⟩
  rotate_left 3
  ·rw[show xY false s=false from F_ j];refine Jv ?_;refine kG ?_;iterate 19 refine kO ?_
   refine kB true ?_ ?_
   ·exact(by simp[j])
   exact am
  ·rw[show xY true s=false by simp[xY,j,l]];refine Jv ?_;refine kG ?_;refine kO5 ?_;refine kB true ?_ ?_
   ·exact(by simp[j])
   refine kO4 ?_;refine kB true ?_ ?_
   ·exact(by simp[l])
   exact am
  all_goals
   obtain⟨rfl,rfl⟩:=a;by_cases b:5<=k/\k<=8
   ·rw[if_pos b];obtain⟨p,q,r,t,rfl⟩:=i b;have S:=Bl p q r t;generalize RN [p,q,r,t]=D at *;rcases(show k=5∨k=6∨k=7∨k=8 by omega)with rfl|rfl|rfl|rfl;all_goals
     refine kV func17 ?_;refine kQ cS ?_;refine kQ cA ?_;refine kC cB ?_;iterate 8 refine kO ?_
     refine kB false ?_ ?_
     ·exact(by simp[hn])
     refine kW ?_;refine kQ cE ?_;refine kC S ?_;exact kF
   ·rw[if_neg b];clear i;obtain⟨F,N⟩:∃F,decide d.Nodup=F:=⟨_,rfl⟩;obtain⟨G,hG⟩:∃G,decide f.Nodup=G:=⟨_,rfl⟩;rw[N]at y ⊢;rw[hG]at z ⊢;clear N hG;cases F;all_goals
     refine kV func17 ?_;refine kQ cS ?_;refine kQ cA ?_;refine kC cB ?_;iterate 8 refine kO ?_
     refine kB false ?_ ?_
     ·exact(by simp[hn])
     refine kW ?_;refine kC cE ?_;iterate 3 refine kG ?_
     refine kB false ?_ ?_
     ·exact(by simp;omega)
     refine kG ?_;refine kB false ?_ ?_
     ·exact(by simp;omega)
     refine kG ?_;refine kB false ?_ ?_
     ·exact(by simp;omega)
     refine kG ?_;refine kB false ?_ ?_
     ·exact(by simp;omega)
     refine kW ?_;refine kQ y ?_;try refine kC z ?_
     try exact kF
def LA(r:Kd):List AV:=[.val (.string ⟨r.nm.toArray⟩), .val (.int .i64 r.p), .val (.int .i64 r.c), .val (.int .i64 r.n), .val (.int .i64 r.v), .val (.int .i64 r.q), .val (.bool r.s)]
def TG:List AV:=[.val (.string ByteArray.empty), .val (.int .i64 0), .val (.int .i64 0), .val (.int .i64 0), .val (.int .i64 0), .val (.int .i64 0), .val (.bool false)]
def P3:DV:= .leaf (.sl 17 (mz.flatMap LA))
def VT(o:Option Kd):RV:=match o with
 |some r=> .tup [.agg (LA r),dB true]
 |none=> .tup [.agg TG,dB false]
def C9{i:Nat}{r:Kd}(h:mz[i]? =some r):∀(j:Nat)(a:AV),(LA r)[j]? =some a->(mz.flatMap LA)[i*7+j]? =some a:=xI (f:=LA) (q:=7) (fun _=>rfl) mz i r h
set_option maxRecDepth 100000 in
def iJ:aa prog 37 [] (.one P3):=by refine kU func37 ?_;exact am
def wa(k:Int):aa prog 31 [dN .i64 k] (VT (uh k)):=by
 by_cases a:k<1
 ·rw[A8 a];refine kU func31 ?_;exact Jw
 ·by_cases b:17<k
  ·rw[BM b];refine kU func31 ?_;refine Ii ?_;refine kC iJ ?_;refine kO ?_;refine kT ?_;exact am
  ·obtain⟨i,rfl⟩:=Int.eq_ofNat_of_zero_le (show 0<=k by omega);obtain⟨r,d,c⟩:=nr (i:=i) O_ O_;rw[d];refine kU func31 ?_;refine Ii ?_;refine kC iJ ?_;refine tn ?_;refine kC iJ ?_;refine kO ?_;refine kJ ((i-1:Nat)) ?_;refine aS (i:=i-1) (cs':=LA r) O_ (C9 c) (Z_ 6) rfl rfl rfl rfl rfl rfl rfl rfl ?_;exact am
def zz(s:List UInt8):aa prog 13 [dL s] (So (gY s)):=by
 have g:= @J1 s;have l:= @Id s;generalize mz.findIdx (fun r=>decide (r.nm=s))=f at *;generalize gY s=z at *;refine kV func13 ?_;refine kQ iJ ?_;refine av Nat (fun i=>i<=17/\i<=f) (fun i=>⟨[(0, .d (dL s)),(4, .d P3),(5, .d (dN .i64 i))],[]⟩) (fun i=>17-i) 0 ⟨by omega,Nat.zero_le _⟩ kw ?_;rintro i ⟨t,j⟩;refine kI ?_;refine kO3 ?_;by_cases u:i<17
 ·refine kT ?_;obtain⟨r,v,c⟩:=nr (i:=i+1) O_ O_;have c:mz[i]? =some r:=c;have m:=g (i:=i+1) O_ c j;refine kG ?_;refine kO2 ?_;refine aS (i:=i) (cs':=LA r) O_ (C9 c) (Z_ 6) rfl rfl rfl rfl rfl rfl rfl rfl ?_;refine kO3 ?_;by_cases e:r.nm=s
  ·refine aj rfl rfl rfl rfl rfl rfl rfl (cx (a:=r.nm) (b:=s) e) ?_;refine yK ?_;refine j9 ?_;rw[m.1 e];unfold So;rw[T_ (show(((i+1:Nat):Int))≠0 by omega)];rfl
  ·refine aj rfl rfl rfl rfl rfl rfl rfl (bA (a:=r.nm) (b:=s) e) ?_;refine kW ?_;exact⟨i+1,⟨by omega,m.2 e⟩,by omega,weak ⟨rfl,rfl,aq O_ O_,trivial⟩ trivial rfl⟩
 ·refine kE ?_;refine j9 ?_;rw[l O_];rfl
def mf(l:List Int)(m:Int)(r:l.length<=1000000):aa prog 47 [qh l,dN .i64 m] (.one (dB (l.all (tM m)))):=by
 refine kV func47 ?_;refine av Nat (fun i=>i<=l.length/\ ∀z∈l.take i,tM m z=true) (fun i=>⟨[(0, .d (qh l)),(1, .d (dN .i64 m)),(5, .d (dN .i64 i))],[]⟩) (fun i=>l.length-i) 0 ⟨Nat.zero_le _,by simp⟩ kw ?_;rintro i ⟨j,f⟩;refine kI ?_;refine kO3 ?_;by_cases hlt:i<l.length
 ·refine kT ?_;obtain⟨z,hz⟩:∃z,l[i]? =some z:=⟨l[i],by simp[hlt]⟩;have a:tM m z=false->l.all (tM m)=false:=fun h=>Bool.eq_false_iff.2 fun h2=>by have:=I_.1 h2 z (M_ hz);rw[h]at this;cases this
  refine kG ?_;refine kO2 ?_;refine NE ?_;refine kO ?_;by_cases h0:z<0
  ·refine kT ?_;refine j9 ?_;exact congrArg (fun b=>RV.one (dB b)) (a (by unfold tM;rw[F_ O_];rfl)).symm
  ·refine kE ?_;refine kO3 ?_;refine NE ?_;refine kO2 ?_;by_cases g:m<=z
   ·refine kT ?_;refine j9 ?_;exact congrArg (fun b=>RV.one (dB b)) (a (by unfold tM;rw[F_ (show ¬z<m by omega),Bool.and_false])).symm
   ·refine kE ?_;refine kW ?_;refine⟨i+1,⟨hlt,?_⟩,by omega,weak ⟨rfl,rfl,aq O_ O_,trivial⟩ trivial rfl⟩;rw[bT hz];intro x c;rcases List.mem_append.1 c with c|c
    ·exact f x c
    ·rw[d_.1 c];unfold tM;rw[T_ O_,T_ O_];rfl
 ·refine kE ?_;refine j9 ?_;rw[K_ O_]at f;exact congrArg (fun b=>RV.one (dB b)) (I_.2 f).symm
def jb(l:List Int)(r:l.length<=1000000):aa prog 49 [qh l] (.one (dB (decide l.Nodup))):=by
 refine kV func49 ?_;refine av Nat (fun i=>i<=l.length/\(l.take i).Nodup) (fun i=>⟨[(0, .d (qh l)),(3, .d (dN .i64 i))],[]⟩) (fun i=>l.length-i) 0 ⟨Nat.zero_le _,by simp⟩ kw ?_;rintro i ⟨j,hn⟩;refine kI ?_;refine kO3 ?_;by_cases hlt:i<l.length
 ·refine kT ?_;obtain⟨z,hz⟩:∃z,l[i]? =some z:=⟨l[i],by simp[hlt]⟩;have f:=sW hn hz;refine kW ?_;refine av Nat (fun k=>k<=i/\z ∉ l.take k) (fun k=>⟨[(0, .d (qh l)),(3, .d (dN .i64 i)),(4, .d (dN .i64 k))],[]⟩) (fun k=>i-k) 0 ⟨Nat.zero_le _,by simp⟩ kw ?_;rintro k ⟨m,g⟩;refine kI ?_;refine kO2 ?_;by_cases a:k<i
  ·refine kT ?_;obtain⟨x,c⟩:∃x,l[k]? =some x:=⟨l[k],by simp[show k<l.length by omega]⟩;refine kG ?_;refine kO2 ?_;refine NE ?_;refine kO3 ?_;refine aS (i:=k) (cs':=[.val (.int .i64 x)]) O_ (bd c) (Z_ 0) rfl rfl rfl rfl rfl rfl rfl rfl ?_;refine kO ?_;by_cases e:z=x
   ·refine kB true ?_ ?_
    ·exact(by simp[e])
    refine j9 ?_;refine congrArg (fun b=>RV.one (dB b)) (F_ (f.2 ?_)).symm;rw[e];exact M_ (i:=k) (by rw[List.getElem?_take,if_pos a];exact c)
   ·refine kB false ?_ ?_
    ·exact(by simp[e])
    refine kW ?_;refine⟨k+1,⟨a,?_⟩,by omega,weak ⟨rfl,rfl,aq O_ O_,trivial⟩ trivial rfl⟩;rw[bT c,List.mem_append,not_or];exact⟨g,fun h=>e (d_.1 h)⟩
  ·refine kE ?_;refine kW ?_;have a:k=i:=O_;exact⟨i+1,⟨hlt,f.1 (a ▸ g)⟩,by omega,weak ⟨rfl,aq O_ O_,trivial⟩ trivial rfl⟩
 ·refine kE ?_;refine j9 ?_;exact Oe
def QB{vs:List Rx}{i:Nat}{x:Rx}(h:vs[i]? =some x)(a:qj x≠0):vs.all (fun x=>decide (qj x=0))=false:=Bool.eq_false_iff.2 fun h2=>by have:=I_.1 h2 x (M_ h);exact a (h_ this)
def Lq{vs:List Rx}(h:∀x∈vs,qj x=0):vs.all (fun x=>decide (qj x=0))=true:=I_.2 fun x a=>T_ (h x a)
def Uq:((List.range 4).all fun i=>decide (((mz[i+4]?).map fun r=>(r.c,r.s))=some (0,false)))=true:=D_
def QY{k:Int}{r:Kd}(h:uh k=some r)(b:5<=k)(c:k<=8):r.s=false:=by obtain⟨_,_,a⟩:=nj h;have:=I_.1 Uq (k.toNat-5) (List.mem_range.2 O_);rw[show k.toNat-5+4=k.toNat-1 by omega,a]at this;simp at this;exact this.2
def xQ(c:Cn)(P Q:Int)(h1:c.ps.length<=1000000)(h2:c.cs.length<=1000000)(h3:c.vs.length<=1000000)(hv:∀x∈c.vs,aa prog 48 [dR x] (.one (dN .i64 (qj x)))):aa prog 18 [dC c,dN .i64 P,dN .i64 Q] (.one (dB (AM c P Q))):=by
 have m:=wa c.k;cases hk:uh c.k with
 |none=>rw[hk]at m;rw[tq hk];obtain⟨k,f,j,g,s⟩:=c;have m:aa prog 31 [dN .i64 k] (.tup [.agg TG,dB false]):=m;show aa prog _ [.agg (cC k f j g s),_,_] _;refine kV func18 ?_;refine kC m ?_;exact am
 |some r=>
  rw[hk]at m;obtain⟨b,hb⟩:∃b,AM c P Q=b:=⟨_,rfl⟩;rw[hb];rw[rT hk]at hb;have U:5<=c.k->c.k<=8->r.p=4:=zd hk;have V:5<=c.k->c.k<=8->r.s=false:=QY hk;obtain⟨k,f,j,g,s⟩:=c;obtain⟨nm,rp,rc,rn,rv,rq,rs⟩:=r;dsimp only at *;have m:aa prog 31 [dN .i64 k] (.tup [.agg (LA ⟨nm,rp,rc,rn,rv,rq,rs⟩),dB true]):=m;have cA:=mf f P h1;have cB:=mf j Q h2;have cF:=jb f h1;have cG:=jb j h2;obtain⟨A,hA⟩:∃A,f.all (tM P)=A:=⟨_,rfl⟩;rw[hA]at cA hb;obtain⟨B,hB⟩:∃B,j.all (tM Q)=B:=⟨_,rfl⟩;rw[hB]at cB hb;obtain⟨F,hF⟩:∃F,decide f.Nodup=F:=⟨_,rfl⟩;rw[hF]at cF hb;obtain⟨G,hG⟩:∃G,decide j.Nodup=G:=⟨_,rfl⟩;rw[hG]at cG hb;show aa prog _ [.agg (cC k f j g s),_,_] _;refine kV func18 ?_;refine kC m ?_;refine kG ?_;iterate 8 refine kO ?_
  by_cases z:(f.length:Int)=rp
  rotate_left
  ·refine kB true ?_ ?_
   ·exact(by simp[z])
   refine j9 ?_;exact congrArg (fun b=>RV.one (dB b)) (by rw[<- hb,F_ z];rfl)
  refine kB false ?_ ?_
  ·exact(by simp[z])
  iterate 7 refine kO ?_
  by_cases C:(j.length:Int)=rc
  rotate_left
  ·refine kB true ?_ ?_
   ·exact(by simp[C])
   refine j9 ?_;exact congrArg (fun b=>RV.one (dB b)) (by rw[<- hb,F_ C,Bool.false_and,Bool.false_and,Bool.and_false])
  refine kB false ?_ ?_
  ·exact(by simp[C])
  iterate 7 refine kO ?_
  by_cases D:(g.length:Int)=rn
  rotate_left
  ·refine kB true ?_ ?_
   ·exact(by simp[D])
   refine j9 ?_;exact congrArg (fun b=>RV.one (dB b)) (by rw[<- hb,F_ D,Bool.false_and,Bool.and_false,Bool.and_false])
  refine kB false ?_ ?_
  ·exact(by simp[D])
  refine kO5 ?_;refine kC cA ?_;cases A
  ·refine j9 ?_;exact congrArg (fun b=>RV.one (dB b)) (by rw[<- hb,Bool.and_false,Bool.false_and])
  iterate 6 refine kO ?_
  refine kC cB ?_;cases B
  ·refine j9 ?_;exact congrArg (fun b=>RV.one (dB b)) (by rw[<- hb,Bool.and_false,Bool.false_and,Bool.and_false])
  rw[T_ z,T_ C,T_ D,Bool.true_and,Bool.true_and,Bool.true_and,Bool.true_and]at hb;refine kW ?_;refine av Nat (fun i=>i<=g.length/\ ∀x∈g.take i,qj x=0) (fun i=>⟨[(3, .box 0 0),(7, .box 1006 0),(9, .d (dN .i64 i))],[(0,some (cC k f j g s)),(1006,some (LA ⟨nm,rp,rc,rn,rv,rq,rs⟩))]⟩) (fun i=>g.length-i) 0 ⟨Nat.zero_le _,by simp⟩ kw ?_;rintro i ⟨hi,W⟩;refine kI ?_;refine kO4 ?_;by_cases hlt:i<g.length
  ·refine kT ?_;obtain⟨x,w⟩:∃x,g[i]? =some x:=⟨g[i],by simp[hlt]⟩;have cV:=hv x (M_ w);have X:=QB w;have hat:=fO g i x w;obtain⟨o1,na1,xs1,nb1,ys1,nm1,n1',cs1,hX⟩:=aJ x;rw[show dR x= .agg (af o1 na1 xs1 nb1 ys1 nm1 n1' cs1) from congrArg DV.agg hX]at cV;rw[hX]at hat;refine kG ?_;refine kO3 ?_;refine Lg ?_;refine kO ?_;refine kC cV ?_;by_cases e:qj x=0
   ·refine kB false ?_ ?_
    ·exact(by simp[e])
    refine kW ?_;refine⟨i+1,⟨hlt,?_⟩,by omega,weak ⟨rfl,rfl,aq O_ O_,trivial⟩ ⟨rfl,rfl,trivial⟩ rfl⟩;rw[bT w];intro y v;rcases List.mem_append.1 v with v|v
    ·exact W y v
    ·rw[d_.1 v];exact e
   ·refine kB true ?_ ?_
    ·exact(by simp[e])
    refine j9 ?_;exact congrArg (fun b=>RV.one (dB b)) (by rw[<- hb,X e];rfl)
  ·refine kE ?_;rw[K_ O_]at W;rw[Lq W,Bool.true_and]at hb;refine kG ?_;refine kO3 ?_;cases rs
   ·iterate 16 refine kO ?_
    by_cases E:s=0
    rotate_left
    ·refine kB true ?_ ?_
     ·exact(by simp[E])
     refine j9 ?_;exact congrArg (fun b=>RV.one (dB b)) (by rw[<- hb];simp[xY,E])
    refine kB false ?_ ?_
    ·exact(by simp[E])
    rw[show xY false s=true by simp[xY,E],Bool.true_and]at hb;iterate 3 refine kG ?_
    by_cases u:5<=k/\k<=8
    ·rw[if_pos u]at hb;obtain⟨p,q,r,t,a⟩:=C6 (l:=f) (by have:=U u.1 u.2;omega);have Y:f[0]? =some p:=by rw[a];rfl
     have Z:f[1]? =some q:=by rw[a];rfl
     have i2:f[2]? =some r:=by rw[a];rfl
     have i3:f[3]? =some t:=by rw[a];rfl
     have hl:f.length=4:=by rw[a];rfl
     rw[a]at hb;obtain⟨L,e1⟩:∃B,(p == r)=B:=⟨_,rfl⟩;obtain⟨N,e2⟩:∃B,(q == t)=B:=⟨_,rfl⟩;obtain⟨O,e3⟩:∃B,(p == t)=B:=⟨_,rfl⟩;obtain⟨B4,e4⟩:∃B,(q == r)=B:=⟨_,rfl⟩;obtain⟨R,e5⟩:∃B,(p != q)=B:=⟨_,rfl⟩;obtain⟨S,e6⟩:∃B,(r != t)=B:=⟨_,rfl⟩;have hb:(R && (S && (!(L && N) && !(O && B4))))=b:=by rw[<- hb,<- e1,<- e2,<- e3,<- e4,<- e5,<- e6];rfl
     clear a;rcases(show k=5∨k=6∨k=7∨k=8 by omega)with e|e|e|e
     all_goals first|refine bW (v':= .bool true) rfl rfl rfl rfl (congrArg Value.bool (by rw[e];decide)) ?_|(refine bW (v':= .bool false) rfl rfl rfl rfl (congrArg Value.bool (by rw[e];decide)) ?_;refine kG ?_;first|refine bW (v':= .bool true) rfl rfl rfl rfl (congrArg Value.bool (by rw[e];decide)) ?_|(refine bW (v':= .bool false) rfl rfl rfl rfl (congrArg Value.bool (by rw[e];decide)) ?_;refine kG ?_;first|refine bW (v':= .bool true) rfl rfl rfl rfl (congrArg Value.bool (by rw[e];decide)) ?_|(refine bW (v':= .bool false) rfl rfl rfl rfl (congrArg Value.bool (by rw[e];decide)) ?_;refine kG ?_;refine bW (v':= .bool true) rfl rfl rfl rfl (congrArg Value.bool (by rw[e];decide)) ?_)))
     all_goals refine kW ?_
     all_goals(first|refine aS (i:=0) (cs':=[.val (.int .i64 p)]) O_ (bd Y) (Z_ 0) rfl rfl rfl rfl rfl rfl rfl rfl ?_|refine ba rfl rfl rfl ?_)
     all_goals refine kO2 ?_
     all_goals(first|refine aS (i:=2) (cs':=[.val (.int .i64 r)]) O_ (bd i2) (Z_ 0) rfl rfl rfl rfl rfl rfl rfl rfl ?_|refine ba rfl rfl rfl ?_)
     all_goals refine kO ?_
     all_goals(first|refine ba rfl rfl rfl ?_|(refine bW (v':= .bool L) rfl rfl rfl rfl (congrArg Value.bool e1) ?_;cases L))
     all_goals refine kO2 ?_
     all_goals(first|refine aS (i:=1) (cs':=[.val (.int .i64 q)]) O_ (bd Z) (Z_ 0) rfl rfl rfl rfl rfl rfl rfl rfl ?_|refine ba rfl rfl rfl ?_)
     all_goals refine kO2 ?_
     all_goals(first|refine aS (i:=3) (cs':=[.val (.int .i64 t)]) O_ (bd i3) (Z_ 0) rfl rfl rfl rfl rfl rfl rfl rfl ?_|refine ba rfl rfl rfl ?_)
     all_goals refine kO ?_
     all_goals(first|refine ba rfl rfl rfl ?_|(refine bW (v':= .bool N) rfl rfl rfl rfl (congrArg Value.bool e2) ?_;cases N))
     all_goals refine kO3 ?_
     all_goals(first|refine aS (i:=0) (cs':=[.val (.int .i64 p)]) O_ (bd Y) (Z_ 0) rfl rfl rfl rfl rfl rfl rfl rfl ?_|refine ba rfl rfl rfl ?_)
     all_goals refine kO2 ?_
     all_goals(first|refine aS (i:=3) (cs':=[.val (.int .i64 t)]) O_ (bd i3) (Z_ 0) rfl rfl rfl rfl rfl rfl rfl rfl ?_|refine ba rfl rfl rfl ?_)
     all_goals refine kO ?_
     all_goals(first|refine ba rfl rfl rfl ?_|(refine bW (v':= .bool O) rfl rfl rfl rfl (congrArg Value.bool e3) ?_;cases O))
     all_goals refine kO2 ?_
     all_goals(first|refine aS (i:=1) (cs':=[.val (.int .i64 q)]) O_ (bd Z) (Z_ 0) rfl rfl rfl rfl rfl rfl rfl rfl ?_|refine ba rfl rfl rfl ?_)
     all_goals refine kO2 ?_
     all_goals(first|refine aS (i:=2) (cs':=[.val (.int .i64 r)]) O_ (bd i2) (Z_ 0) rfl rfl rfl rfl rfl rfl rfl rfl ?_|refine ba rfl rfl rfl ?_)
     all_goals refine kO ?_
     all_goals(first|refine ba rfl rfl rfl ?_|(refine bW (v':= .bool B4) rfl rfl rfl rfl (congrArg Value.bool e4) ?_;cases B4))
     all_goals refine kO3 ?_
     all_goals refine kG ?_
     all_goals refine kO ?_
     all_goals(first|refine aS (i:=0) (cs':=[.val (.int .i64 p)]) O_ (bd Y) (Z_ 0) rfl rfl rfl rfl rfl rfl rfl rfl ?_|refine ba rfl rfl rfl ?_)
     all_goals refine kO2 ?_
     all_goals(first|refine aS (i:=1) (cs':=[.val (.int .i64 q)]) O_ (bd Z) (Z_ 0) rfl rfl rfl rfl rfl rfl rfl rfl ?_|refine ba rfl rfl rfl ?_)
     all_goals refine kO ?_
     all_goals(first|refine ba rfl rfl rfl ?_|(refine bW (v':= .bool R) rfl rfl rfl rfl (congrArg Value.bool e5) ?_;cases R))
     all_goals refine kO2 ?_
     all_goals(first|refine aS (i:=2) (cs':=[.val (.int .i64 r)]) O_ (bd i2) (Z_ 0) rfl rfl rfl rfl rfl rfl rfl rfl ?_|refine ba rfl rfl rfl ?_)
     all_goals refine kO2 ?_
     all_goals(first|refine aS (i:=3) (cs':=[.val (.int .i64 t)]) O_ (bd i3) (Z_ 0) rfl rfl rfl rfl rfl rfl rfl rfl ?_|refine ba rfl rfl rfl ?_)
     all_goals refine kO ?_
     all_goals(first|refine ba rfl rfl rfl ?_|(refine bW (v':= .bool S) rfl rfl rfl rfl (congrArg Value.bool e6) ?_;cases S))
     all_goals refine kW ?_
     all_goals refine co (T:=TT) rfl ?_
     all_goals exact congrArg (fun b=>RV.one (dB b)) (by rw[<- hb];simp)
    ·rw[if_neg u]at hb;exact Hz
   ·have u:¬(5<=k/\k<=8):=fun h=>by have:=V h.1 h.2;cases this
    rw[if_neg u]at hb;refine kO2 ?_;by_cases I:s=1
    ·refine kB false ?_ ?_
     ·exact(by simp[I])
     rw[show xY true s=true by simp[xY,I],Bool.true_and]at hb;iterate 3 refine kG ?_
     exact Hz
    ·refine kB true ?_ ?_
     ·exact(by simp[I])
     refine kO4 ?_;by_cases J:s= -1
     ·refine kB false ?_ ?_
      ·exact(by simp[J])
      rw[show xY true s=true by simp[xY,J],Bool.true_and]at hb;iterate 3 refine kG ?_
      exact Hz
     ·refine kB true ?_ ?_
      ·exact(by simp[J])
      refine j9 ?_;exact congrArg (fun b=>RV.one (dB b)) (by rw[<- hb];simp[xY,I,J])
def SY(a b:Cn):Bool:=decide (a.k=b.k) && (decide (a.s=b.s) && (decide (a.ps=b.ps) && (decide (a.cs=b.cs) && (decide (a.vs.length=b.vs.length) && s8 a.vs b.vs))))
def qb{xs ys:List Int}(u:xs.length<=1000000):aa prog 69 [qh xs,qh ys] (.one (dB (decide (xs=ys)))):=by
 by_cases g:xs.length=ys.length
 ·obtain⟨b,l⟩:∃b,decide (xs=ys)=b:=⟨_,rfl⟩;rw[l];refine kU func69 ?_;refine pi ?_;refine kB false ?_ ?_
  ·exact(by simp[g])
  refine kW ?_;refine av Nat (fun j=>j<=xs.length/\ ∀i,i<j->xs[i]? =ys[i]?) (fun j=>⟨[(0, .d (qh xs)),(1, .d (qh ys)),(5, .d (dN .i64 j))],[]⟩) (fun j=>xs.length-j) 0 ⟨Nat.zero_le _,fun i h=>absurd h (Nat.not_lt_zero _)⟩ kw ?_;rintro j ⟨t,hall⟩;refine kI ?_;refine kO3 ?_;by_cases c:j<xs.length
  ·refine kT ?_;have a:j<ys.length:=O_;refine kW ?_;refine aS (i:=j) (cs':=[AV.val (.int .i64 xs[j])]) c (bd (by simp[c])) (m_ 0) rfl rfl rfl rfl rfl rfl rfl rfl ?_;refine kW ?_;refine aS (i:=j) (cs':=[AV.val (.int .i64 ys[j])]) a (bd (by simp[a])) (m_ 0) rfl rfl rfl rfl rfl rfl rfl rfl ?_;refine kO ?_;by_cases f:xs[j]=ys[j]
   ·refine kB false ?_ ?_
    ·exact(by simp[f])
    refine kW ?_;refine⟨j+1,⟨c,fun i hi=>?_⟩,by omega,weak ⟨rfl,rfl,aq O_ O_,trivial⟩ trivial rfl⟩;rcases Nat.lt_succ_iff_lt_or_eq.1 hi with r|rfl
    ·exact hall i r
    ·rw[Q_ c,Q_ a,f]
   ·have m:b=false:=by rw[<- l];exact F_ fun e=>f (by subst e;rfl)
    cases b
    ·refine kB true ?_ ?_
     ·exact(by simp[f])
     exact am
    ·cases m
  ·have f:b=true:=by rw[<- l];refine T_ (List.ext_getElem? fun i=>?_);exact Pw
   cases b
   ·cases f
   ·refine kE ?_;exact am
 ·rw[F_ (fun e=>g (by rw[e]))];refine kU func69 ?_;refine pi ?_;refine ox ?_;exact am
def oh(a b:Cn)(O:a.ps.length<=1000000)(t:a.cs.length<=1000000)(u:a.vs.length<=1000000)(Y:∀x∈a.vs,∀y∈b.vs,aa prog 70 [dR x,dR y] (.one (dB (IE x y)))):aa prog 28 [dC a,dC b] (.one (dB (SY a b))):=by
 obtain⟨k,I,w,g,s⟩:=a;obtain⟨G,r,cs',f,J⟩:=b;have V:=qb (ys:=r) O;have W:=qb (ys:=cs') t;have l:=nR g f;obtain⟨z,m⟩:∃z,SY ⟨k,I,w,g,s⟩ ⟨G,r,cs',f,J⟩=z:=⟨_,rfl⟩;rw[m];unfold SY at m;dsimp only at *;show aa prog _ [.agg (cC k I w g s), .agg (cC G r cs' f J)] _;generalize decide (I=r)=A at *;generalize decide (w=cs')=B at *;refine kU func28 ?_;refine kR ?_;refine kI ?_;refine kO4 ?_;by_cases C:k=G
 rotate_left
 ·refine kB true ?_ ?_
  ·exact(by simp[C])
  refine j9 ?_;exact congrArg (fun b=>RV.one (dB b)) (by rw[<- m,F_ C];rfl)
 refine kB false ?_ ?_
 ·exact(by simp[C])
 refine kO5 ?_;by_cases D:s=J
 rotate_left
 ·refine kB true ?_ ?_
  ·exact(by simp[D])
  refine j9 ?_;exact congrArg (fun b=>RV.one (dB b)) (by rw[<- m,F_ D];simp)
 refine kB false ?_ ?_
 ·exact(by simp[D])
 iterate 6 refine kO ?_
 refine kC V ?_;cases A
 ·refine j9 ?_;exact congrArg (fun b=>RV.one (dB b)) (by rw[<- m];simp)
 iterate 7 refine kO ?_
 refine kC W ?_;cases B
 ·refine j9 ?_;exact congrArg (fun b=>RV.one (dB b)) (by rw[<- m];simp)
 iterate 9 refine kO ?_
 rw[T_ C,T_ D]at m;by_cases F:g.length=f.length
 rotate_left
 ·refine ox ?_;refine j9 ?_;exact congrArg (fun b=>RV.one (dB b)) (by rw[<- m,F_ F];simp)
 refine kB false ?_ ?_
 ·exact(by simp[F])
 rw[T_ F]at m;have l:=l F;have m:s8 g f=z:=m;rw[m]at l;clear m;refine kW ?_;refine av Nat (fun i=>i<=g.length/\ ∀(q:Nat)x y,q<i->g[q]? =some x->f[q]? =some y->IE x y=true) (fun i=>⟨[(2, .box 0 0),(3, .box 1 0),(5, .d (dN .i64 i))],[(0,some (cC k I w g s)),(1,some (cC G r cs' f J))]⟩) (fun i=>g.length-i) 0 ⟨Nat.zero_le _,fun q x y h=>absurd h (Nat.not_lt_zero _)⟩ kw ?_;rintro i ⟨Z,S⟩;refine kI ?_;refine kO4 ?_;by_cases hlt:i<g.length
 ·refine kT ?_;have hlt':i<f.length:=O_;obtain⟨o1,na1,xs1,nb1,ys1,nm1,n1,cs1,Q⟩:=aJ g[i];obtain⟨o2,na2,xs2,nb2,ys2,nm2,n2,cs2,v⟩:=aJ f[i];have L:g[i]? =some g[i]:=by simp[hlt]
  have N:f[i]? =some f[i]:=by simp[hlt']
  have hat:∀(j:Nat)(a:AV),(af o1 na1 xs1 nb1 ys1 nm1 n1 cs1)[j]? =some a->(gc g)[i*7+j]? =some a:=fun j a h=>fO g i g[i] L j a (by rw[Q];exact h);have hat':∀(j:Nat)(a:AV),(af o2 na2 xs2 nb2 ys2 nm2 n2 cs2)[j]? =some a->(gc f)[i*7+j]? =some a:=fun j a h=>fO f i f[i] N j a (by rw[v];exact h);have c:=Y g[i] (List.getElem_mem hlt) f[i] (List.getElem_mem hlt');rw[show dR g[i]= .agg (af o1 na1 xs1 nb1 ys1 nm1 n1 cs1) from congrArg DV.agg Q,show dR f[i]= .agg (af o2 na2 xs2 nb2 ys2 nm2 n2 cs2) from congrArg DV.agg v]at c;refine kG ?_;refine kO3 ?_;refine x4 ?_;refine kO4 ?_;refine Qd ?_;refine kO ?_;have U:=fun h=>l.1 h i _ _ L N;obtain⟨E,R⟩:∃E,IE g[i] f[i]=E:=⟨_,rfl⟩;rw[R]at c U;cases E
  ·refine kC c ?_;refine j9 ?_;exact congrArg (fun b=>RV.one (dB b)) (by cases z;rfl;exact U rfl)
  ·refine kC c ?_;refine kW ?_;exact⟨i+1,⟨hlt,fun q x y O t u=>by
    by_cases e:q=i
    ·subst e;rw[L]at t;rw[N]at u;cases t;cases u;exact R
    ·exact S q x y O_ t u⟩,by omega,weak ⟨rfl,rfl,aq O_ O_,trivial⟩ ⟨rfl,rfl,trivial⟩ rfl⟩
 ·have X:z=true:=l.2 fun q x y t u=>S q x y (by have:=(G_.1 t).1;omega) t u;refine kE ?_;refine j9 ?_;exact congrArg (fun b=>RV.one (dB b)) X.symm
def RU:Tryz.prog.globalNamed "strconv.ErrSyntax" =some 6:=by kernel_rfl
def QL:(Tryz.prog.globals[6]?).map (·.type)=some 142:=by kernel_rfl
def Qu:Tryz.prog.globalNamed "strconv.ErrRange" =some 7:=by kernel_rfl
def R3:(Tryz.prog.globals[7]?).map (·.type)=some 142:=by kernel_rfl
def yw{a:List (String × DataW Unit)}{C:List MemPlace}{W:World}{b A:String}{d:DataW Unit}{g:Nat}(z:DataW.LaidVars prog W a C)(x:(b, .iface A d)∈a)(i:Tryz.prog.globalNamed b=some g)(y:(Tryz.prog.globals[g]?).map (·.type)=some 142):
 ∃c,W.cell? ⟨g,0,none⟩=some c/\(c= .nilIface∨ ∃D B,c= .iface D B):=by
 obtain⟨E,t,j,f,p,m,q,r,w⟩:=gN z x;obtain rfl:=Option.some.inj (i.symm.trans m);obtain rfl:=Option.some.inj (y.symm.trans q);obtain⟨_,u,v,e,_⟩:=iface_of_trod underlying142 w;refine⟨.iface u v,?_, .inr ⟨u,v,rfl⟩⟩;have h:=World.var?_cell i r 0;obtain⟨l⟩:=j;dsimp only at e;subst e;simpa using h
set_option maxRecDepth 100000 in
def zy{W:World}(h:W.ShapedOpen prog):∃m,W.cell? ⟨3,0,none⟩=some (.int .i64 m):=
 Go.Proofs.cell_of_shapedOpen_int (zero:= #[.int .i64 0]) (t:=3) h (h_ (by kernel_rfl)) (by kernel_rfl) rfl (by kernel_rfl) (by kernel_rfl) underlying3
def FW{a:List (String × DataW Unit)}(e:(a.all fun x=>x.2.handleName?.isNone)=true)(b:("strconv.ErrSyntax",Rows.laid_strconv_ErrSyntax)∈a)(c:("strconv.ErrRange",Rows.laid_strconv_ErrRange)∈a){W:World}(f:W.ShapedOpen prog)(h:laidMetH prog a W):o8 W:=by rw[MakeChecks.laidMetH_plain _ _ _ e]at h;obtain⟨g,d,_⟩:=h;exact⟨zy f,yw d b RU QL,yw d c Qu R3⟩
section
variable {H:Type}{enc:TypeId × Value->H}
def nW{a:Assume}{C:Checked}{os:Os}{f:FuncId}{q:Func}{s:ChangeSpec}{l:List PathCond}{c r h p:Bool}{X:World->Array Value->Prop}(Q:∀(w w':World)(b:Array Value),w.heap=w'.heap->X w b->X w' b)(O:ownKnob C.prog.godebug=none)(u:os.Started)(z:C.prog.inits.idxOf? f=none)(J:C.prog.funcs[f]? =some q)(x:∃(w:World)(d:Tape)(i:Input),w.os=os/\(w.forCall d i).Shaped C.prog/\i.vars=[]/\Input.okWide C.prog (w.forCall d i) .any w.heap.size f i /\
  ((s.pre enc C.prog q l c (w.forCall d i).memory i.args/\X (w.forCall d i).memory i.args)/\sizedMet enc C.prog q (OpenSpec.ofChange s) c (w.forCall d i).memory i.args)/\a.holds C.prog (lone (Frame.enter C.prog f i.args .normal) [] (w.forCall d i)))(m:∀(W:World)(A:Nat)(b:Array Value)(F G:List (DataW H))(g:List MemPlace),
  (∀(j:Nat)t v,q.params[j]? =some t->b[j]? =some v->Value.okWide C.prog W .any A t v) ->
  DataW.Whole enc C.prog q.params.toList s.vars c W b.toList F G g ->
  l.all (PathCond.test C.prog ⟨q.params.toList,F,s.plain.varTypes C.prog,G⟩)=true ->
  W.ShapedOpen C.prog->X W b ->
  a.holds C.prog (lone (Frame.enter C.prog f b .normal) [] W) ->
  Calls C.prog f b W fun e W'=>∃v,e= .returned v/\s.post enc C.prog q c r h p W b v W'):
 ReturnsInHanded a C os f .any (fun w b=>(s.pre enc C.prog q l c w b/\X w b)/\sizedMet enc C.prog q (OpenSpec.ofChange s) c w b) (s.post enc C.prog q c r h p):=by
 refine returnsInHanded_of_calls O u z x ?_;intro w d i _ N _ L D y;obtain⟨_,_,_,I,B,_,_,_,_,E⟩:=L;obtain rfl:I=q:=Option.some.inj (B.symm.trans J);obtain⟨⟨⟨F,G,g,V,R⟩,Y⟩,Z⟩:=D;refine(m (w.forCall d i) w.heap.size i.args F G g E (DataW.Whole.of_heap (w':=w.forCall d i) (by rfl) V) R N (Q _ _ _ (by rfl) Y) y).mono fun e W'⟨v,S,U⟩=>?_;subst S;exact ChangeSpec.post_blind U
end
section
attribute [local go_sem ↓] Go.wp_at_zero Go.wp_at_succ
def oT(l:List (List UInt8)):DV:= .leaf (.sl l.length (fD l))
def M0(s b:List UInt8)(f:s.length<4294967281):aa prog 64 [dL s,dL b] (.tup [dL (Lib.cut s b).1,dL (Lib.cut s b).2.1,dB (Lib.cut s b).2.2]):=
 ⟨aD func64 rfl rfl,fun S w j d h=>by
  match j,h with
  | [v,u],⟨a,c,_⟩=>
   obtain rfl:=bc a;obtain rfl:=bc c;obtain⟨m,g⟩:=d.1.vars.1;refine(Tryz.strings_Cut (Bs s) (Bs b) m w (by rw[an];exact f) g).mono ?_;rintro e l ⟨rfl,n,rfl⟩;refine⟨_,rfl,⟨[.string (Bs (Lib.cut s b).1), .string (Bs (Lib.cut s b).2.1), .bool (Lib.cut s b).2.2],rfl,rfl,fun i x u a c=>?_⟩,Below.drewN (Below.refl _ _) n⟩
   match i with
   |0=>simp at a c;subst a c;exact AV.M.val rfl
   |1=>simp at a c;subst a c;exact AV.M.val rfl
   |2=>simp at a c;subst a c;exact AV.M.val rfl
   |i+3=>simp at a⟩
def lS{s b:List UInt8}(a:b≠[]):(Lib.split s b).length=Lib.count s b+1:=by
 have c:∀n s,s.length<=n->(Lib.split s b).length=Lib.count s b+1:=by
  intro n;induction n with
  |zero=>
   intro s e;rcases Lib.index_spec s b with⟨h,_⟩| ⟨i,h,_⟩
   ·rw[jI h,Lib.count_miss h];rfl
   ·have d:=Lib.index_room s b O_;have:=List.length_pos_iff.2 a;omega
  |succ n f=>
   intro s e;rcases Lib.index_spec s b with⟨h,_⟩| ⟨i,h,_⟩
   ·rw[jI h,Lib.count_miss h];rfl
   ·have d:=Lib.index_room s b O_;have:=List.length_pos_iff.2 a;rw[pH a h,Lib.count_hit a h,List.length_cons,f _ (by rw[n_];omega)];omega
 exact c _ s (l_ _)
def we(s b:List UInt8):(Lib.splitB (Bs b) 0 (Lib.countB (Bs s) (Bs b)) (Bs s)).map Value.string=(Lib.split s b).map vL:=by have h:=Lib.splitB_data (Bs b) 0 (Lib.countB (Bs s) (Bs b)) (Bs s);have e:Lib.splitK (Bs b).data.toList 0 (Lib.countB (Bs s) (Bs b)) (Bs s).data.toList=Lib.split s b:=rfl;rw[e]at h;rw[<- h,List.map_map];refine List.map_congr_left fun x _=>?_;show Value.string x=Value.string (Bs x.data.toList);rw[Pb]
def yW(s b:List UInt8)(r:s.length<4294967281)(j:b≠[]):aa prog 65 [dL s,dL b] (.one (oT (Lib.split s b))):=
 ⟨aD func65 rfl rfl,fun S w y g x=>by
  match y,x with
  | [v,u],⟨l,p,_⟩=>
   obtain rfl:=bc l;obtain rfl:=bc p;obtain⟨m,t⟩:=g.1.vars.1;have c:=List.length_pos_iff.2 j;have d:Lib.countB (Bs s) (Bs b)=Lib.count s b:=rfl;have f:=lS (s:=s) j;have q:=Lib.count_le s b;refine(Tryz.strings_Split (Bs s) (Bs b) m w (by rw[an];exact r) t (by rw[an];exact c)).mono ?_;rintro e z ⟨rfl,rfl⟩;refine⟨_,rfl,?_,(Below.refl _ _).alloc (l_ _) _⟩;rw[we,d,<- f];refine AV.M.sl (fun i=>((Lib.split s b).map vL).getD i (.bool false)) (l_ _) O_ (fun h=>Nat.lt_irrefl _ (g.blk _ h).1) (by show w.heap.size<(w.heap.push _).size;simp) (fun i a hi=>?_) (fun i a hi=>?_)
   ·rw[J_,World.cell?_alloc_new];have:=(G_.1 hi).1;simp only[fD,j_]at this;simp[this]
   ·have:=(G_.1 hi).1;simp only[fD,j_]at this;simp[fD,this]at hi;subst hi;simp[this];exact AV.M.val rfl⟩
def MN(l:List (List UInt8))(b:List UInt8)(h0:l≠[])(L:l.length<=1000000)(h:(Lib.join l b).length<=1000000000):aa prog 62 [oT l,dL b] (.one (dL (Lib.join l b))):=
 ⟨aD func62 rfl rfl,fun S w G N F=>by
  match G,F with
  | [v,u],⟨p,B,_⟩=>
   obtain rfl:=bc B;have p:AV.M S w (.sl l.length (fD l)) v:=p;generalize y:fD l=rr at p;cases p with
   |emp=>cases l with
    |nil=>exact absurd rfl h0
    |cons a r=>simp[fD]at y
   |sl f z I J A D E=>
    subst y;rename_i t m c;have i:(l.map Bs).map (·.data.toList)=l:=by rw[List.map_map];exact List.map_id _
    have g:∀(j:Nat)x,(l.map Bs)[j]? =some x->w.cell? ⟨t,m+j,none⟩=some (.string x):=fun j x q=>by
     have h:=(G_.1 q).1;rw[j_]at h;have d:(fD l)[j]? =some (.val (vL l[j])):=by simp[fD,h]
     rw[D j _ d,bc (E j _ d)];simp[h]at q;rw[<- q];rfl
    have:=Tryz.strings_Join t m c (l.map Bs) (Bs b) w g A (by rw[j_];omega) (by rw[j_];exact z) (by rw[i];exact V_ h D_);rw[j_,i]at this;refine this.mono ?_;rintro e O ⟨rfl,C⟩;exact⟨_,rfl,AV.M.val rfl,C⟩⟩
def Gh(x:UInt8)(s:List UInt8):Int:=match Lib.atoiAll (Lib.trimPrefix s [x])with
 | .ok v=>v
 | .syntax=>0
 | .range=>Lib.atoiSat (Lib.trimPrefix s [x])
def Je{x:UInt8}{s:List UInt8}(h:Lib.hasPrefix s [x]=false):m9 x s=none:=by
 cases s with
 |nil=>rfl
 |cons c r=>unfold m9;dsimp only;rw[if_neg];intro e;subst e;simp[Lib.hasPrefix,List.isPrefixOf]at h
def Eu{x:UInt8}{s:List UInt8}(h:Lib.hasPrefix s [x]=true):m9 x s=match Lib.atoiAll (Lib.trimPrefix s [x])with
 | .ok v=>some v
 |_=>none:=by
 cases s with
 |nil=>cases h
 |cons c r=>
  have e:x=c:=by simpa[Lib.hasPrefix,List.isPrefixOf]using h
  subst e;unfold Lib.trimPrefix;rw[if_pos h];unfold m9;dsimp only;rw[if_pos rfl];rfl
def Ez{x:UInt8}{s:List UInt8}{v:Int}(h:m9 x s=some v):Gh x s=v:=by
 cases hp:Lib.hasPrefix s [x]with
 |false=>rw[Je hp]at h;cases h
 |true=>
  rw[Eu hp]at h;unfold Gh;split at h
  ·rename_i u a;rw[a];cases h;rfl
  ·cases h
def zV(w:World)(e:TypeId)(t:ByteArray):Below w.heap.size w (Lib.bytesWorld w e t):=Lib.bytesWorld_below w e t
def MS(S:Nat->Prop)(x:UInt8)(s t:List UInt8)(b:Bool)(w:World)(r:db S w)(y:s.length<=1000000)(l:Lib.hasPrefix s [x]=b)(a:Lib.trimPrefix s [x]=t){v:Int}(q:Lib.atoiAll t= .ok v):
 Calls prog 66 #[.string (Bs s), .string (Bs [x])] w fun e f=>e= .returned (.tuple #[.int .i64 v, .bool (b && true)])/\Below w.heap.size w f:=by
 have c:(Lib.trimPrefix s [x]).length<=s.length:=by unfold Lib.trimPrefix;split <;>simp
 have g:=Tryz.strings_CutPrefix (Bs s) (Bs [x]) w;rw[show(Bs s).data.toList=s from rfl,show(Bs [x]).data.toList=[x] from rfl,l,a]at g;rw[a]at c;clear a l;obtain⟨_,⟨u,hev,h⟩,m,i,j⟩:=r.tab.vars;have p:=Tryz.strconv_Atoi_ok (Bs t) (by rw[an];omega) v q w;cases b;all_goals
  go_enter func66,ntmps66
  go_wp2_with first|(go_at_call 109;refine g.mono ?_;rintro e f ⟨rfl,rfl⟩)|(go_at_call 110;refine p.mono ?_;rintro e f ⟨rfl,d⟩)
  go_quiet (fail)
  go_wp2_with fail
  go_ret2
  exact⟨rfl,Below.drewN ((by rcases d with rfl| ⟨z,rfl⟩;exact Below.refl _ _;exact zV _ _ _)) _⟩
def Mj(S:Nat->Prop)(x:UInt8)(s t:List UInt8)(b:Bool)(w:World)(u:db S w)(v:s.length<=1000000)(l:Lib.hasPrefix s [x]=b)(c:Lib.trimPrefix s [x]=t)(r:Lib.atoiAll t= .syntax):
 Calls prog 66 #[.string (Bs s), .string (Bs [x])] w fun e g=>e= .returned (.tuple #[.int .i64 0, .bool (b && false)])/\Below w.heap.size w g:=by
 have d:(Lib.trimPrefix s [x]).length<=s.length:=by unfold Lib.trimPrefix;split <;>simp
 have h:=Tryz.strings_CutPrefix (Bs s) (Bs [x]) w;rw[show(Bs s).data.toList=s from rfl,show(Bs [x]).data.toList=[x] from rfl,l,c]at h;rw[c]at d;clear c l;obtain⟨_,⟨m,hev,a⟩,p,i,j⟩:=u.tab.vars;have q:=Tryz.strconv_Atoi_syntax (Bs t) (by rw[an];omega) r m w hev a;cases b;all_goals
  go_enter func66,ntmps66
  go_wp2_with first|(go_at_call 109;refine h.mono ?_;rintro e g ⟨rfl,rfl⟩)|(go_at_call 110;refine q.mono ?_;rintro e g ⟨N,rfl,_,_,f⟩)
  go_quiet (fail)
  go_wp2_with fail
  go_ret2
  exact⟨rfl,Below.drewN f _⟩
def L6(S:Nat->Prop)(x:UInt8)(s t:List UInt8)(b:Bool)(w:World)(r:db S w)(v:s.length<=1000000)(m:Lib.hasPrefix s [x]=b)(f:Lib.trimPrefix s [x]=t)(q:Lib.atoiAll t= .range):
 Calls prog 66 #[.string (Bs s), .string (Bs [x])] w fun e i=>e= .returned (.tuple #[.int .i64 (Lib.atoiSat t), .bool (b && false)])/\Below w.heap.size w i:=by
 have g:(Lib.trimPrefix s [x]).length<=s.length:=by unfold Lib.trimPrefix;split <;>simp
 have j:=Tryz.strings_CutPrefix (Bs s) (Bs [x]) w;rw[show(Bs s).data.toList=s from rfl,show(Bs [x]).data.toList=[x] from rfl,m,f]at j;rw[f]at g;clear f m;obtain⟨_,⟨u,hev,l⟩,d,a,c⟩:=r.tab.vars;have p:=Tryz.strconv_Atoi_range (Bs t) (by rw[an];omega) q d w a c;cases b;all_goals
  go_enter func66,ntmps66
  go_wp2_with first|(go_at_call 109;refine j.mono ?_;rintro e i ⟨rfl,rfl⟩)|(go_at_call 110;refine p.mono ?_;rintro e i ⟨N,rfl,_,_,h⟩)
  go_quiet (fail)
  go_wp2_with fail
  go_ret2
  exact⟨rfl,Below.drewN h _⟩
def u7(x:UInt8)(s:List UInt8)(g:s.length<=1000000):aa prog 66 [dL s,dL [x]] (.tup [dN .i64 (Gh x s),dB (m9 x s).isSome]):=
 ⟨aD func66 rfl rfl,fun S w q f p=>by
  match q,p with
  | [v,u],⟨a,c,_⟩=>
   obtain rfl:=bc a;obtain rfl:=bc c;have h:Calls prog 66 #[.string (Bs s), .string (Bs [x])] w fun e j=>e= .returned (.tuple #[.int .i64 (Gh x s), .bool (m9 x s).isSome])/\Below w.heap.size w j:=by
    obtain⟨b,d⟩:∃b,Lib.hasPrefix s [x]=b:=⟨_,rfl⟩;have m:(m9 x s).isSome=(b && match Lib.atoiAll (Lib.trimPrefix s [x])with
     | .ok _=>true
     |_=>false):=by
     cases b with
     |false=>rw[Je d];rfl
     |true=>rw[Eu d];cases Lib.atoiAll (Lib.trimPrefix s [x])<;>rfl
    rw[m];unfold Gh;cases ha:Lib.atoiAll (Lib.trimPrefix s [x])with
    |ok v=>exact MS S x s _ b w f g d rfl ha
    | «syntax» =>exact Mj S x s _ b w f g d rfl ha
    |range=>exact L6 S x s _ b w f g d rfl ha
   refine h.mono ?_;rintro e j ⟨rfl,l⟩;refine⟨_,rfl,⟨[.int .i64 (Gh x s), .bool (m9 x s).isSome],rfl,rfl,fun i x u a c=>?_⟩,l⟩
   match i with
   |0=>simp at a c;subst a c;exact AV.M.val rfl
   |1=>simp at a c;subst a c;exact AV.M.val rfl
   |i+2=>simp at a⟩
def tA(k:Int):aa prog 61 [dN .i64 k] (.tup [dL (gt k),dL (gJ k)]):=by
 by_cases h:k=17
 ·subst h;refine kU func61 ?_;exact am
 ·unfold gt gJ;rw[if_neg h,if_neg h];refine kU func61 ?_;refine iY ?_;exact I6
end
def Sa:(mz.all fun r=>decide (r.p<=4) && (decide (r.c<=2) && (decide (r.n<=2) && decide (r.nm.length<=20))))=true:=D_
def ru{k:Int}{r:Kd}(h:uh k=some r):r.p<=4/\r.c<=2/\r.n<=2/\r.nm.length<=20:=by obtain⟨_,_,a⟩:=nj h;have:=I_.1 Sa r (M_ a);simpa using this
def nw(ts:List L8)(t:L8):xZ (ts++[t])=xZ ts++((if ts=[]then [32,61,32]else [44,32])++t):=by
 have c:∀ts:List L8,ts≠[]->Lib.join (ts++[t]) [44,32]=Lib.join ts [44,32]++([44,32]++t):=by
  intro ts;induction ts with
  |nil=>exact fun h=>absurd rfl h
  |cons a r d=>
   intro _;cases r with
   |nil=>rw[List.cons_append,List.nil_append,ij,Lib.join_one,Lib.join_one]
   |cons b r=>rw[List.cons_append,List.cons_append,ij,ij,<- List.cons_append,d S_];simp
 unfold xZ;rw[if_neg S_];by_cases h:ts=[]
 ·subst h;rw[if_pos rfl,if_pos rfl,List.nil_append,Lib.join_one];rfl
 ·rw[if_neg h,if_neg h,c ts h];simp
def JY(ts:List L8):∀a,(xZ ts).length<=(xZ (ts++a)).length
 | []=>by rw[c_];exact l_ _
 |u::a=>by have:=JY (ts++[u]) a;rw[nw,L_,e_]at this;exact V_ (Nat.le_add_right _ _) this
def zQ(ts:List L8)(i:Nat):(xZ (ts.take i)).length<=(xZ ts).length:=by have:=JY (ts.take i) (ts.drop i);rwa[List.take_append_drop]at this
def Oq(t:List (Nat × TV))(b:List (Nat × Option (List AV)))(G:List L8)(x:L8):(⟨(4, .d (oT (G++[x])))::t,b⟩:AS)=⟨(4, .d (.leaf (.sl (G.length+1) ((fD G).take (G.length*1)++[.val (vL x)]))))::t,b⟩:=by unfold oT;rw[C3,L_];rfl
def lN{z:Int}(h0:0<=z)(a:z<200):(fmt z).length<=3:=by
 obtain⟨n,rfl⟩:=Int.eq_ofNat_of_zero_le h0;rw[rB];unfold jQ;split
 ·decide
 ·exact rh 3 n O_
def Py(t:List (Nat × TV))(b:List (Nat × Option (List AV)))(G:List L8)(x:L8):(⟨(4, .own 7001 (G++[x]).length 1 9)::t,(7001,some (fD (G++[x])))::b⟩:AS)=⟨(4, .own 7001 (G.length+1) 1 9)::t,(7001,some ((fD G).take (G.length*1)++[.val (vL x)]))::b⟩:=by rw[C3,L_];rfl
def wI{c:Cn}{r:Kd}(h:NB c r 200 200)(tx:Rx->L8)(D:aa prog 17 [dC c,dN .i64 200,dN .i64 200] (.one (dB true)))(N:∀x∈c.vs,aa prog 63 [dR x] (.tup [dL (tx x),dN .i64 0]))(hlen:(Et r c (c.vs.map tx)).length<=65536)(h3:c.vs.length<=1000000):
 aa prog 25 [dC c] (.tup [dL (Et r c (c.vs.map tx)),dN .i64 0]):=by
 have hd:=ru h.k;have Y:=h.pl;have V:=h.cl;have A:=Fw c.k;rw[h.k]at A;have A:aa prog 14 [dN .i64 c.k] (.one (dL r.nm)):=A;have U:=tA c.k;have hs:=u5 h.s;have X:=h.p;have Z:=h.c;clear h;obtain⟨k,f,cs,vs,s⟩:=c;dsimp only at *;show aa prog _ [.agg (cC k f cs vs s)] _;have D:aa prog 17 [.agg (cC k f cs vs s),dN .i64 200,dN .i64 200] (.one (dB true)):=D;refine kV func25 ?_;refine kQ D ?_;refine kC A ?_;refine T8 7001 (cs:=[.val (vL r.nm)]) ah rfl rfl rfl rfl rfl rfl rfl rfl rfl rfl rfl rfl rfl ?_;refine kW ?_;refine av (Nat × List L8) (fun x=>x.1<=f.length/\x.2=r.nm::(f.take x.1).map mA) (fun x=>⟨[(4, .own 7001 x.2.length 1 9),(1, .box 0 0),(24, .d (qh f)),(25, .d (dN .i64 f.length)),(26, .d (dN .i64 x.1))],[(7001,some (fD x.2)),(0,some (cC k f cs vs s))]⟩) (fun x=>f.length-x.1) (0,[r.nm]) ⟨Nat.zero_le _,rfl⟩ kw ?_;rintro⟨i,G⟩ ⟨m,hG⟩;dsimp only at m hG ⊢;refine kI ?_;by_cases hlt:i<f.length
 ·refine kT ?_;have y:=X _ (List.getElem_mem hlt);have hat:=bd (Q_ hlt);have l:G++[mA f[i]]=r.nm::(f.take (i+1)).map mA:=by rw[hG,bT (Q_ hlt),List.map_append];rfl
  have g:G.length=i+1:=by rw[hG];simp;omega
  generalize f[i]=z at *;have C:=Es (p:=z) O_ O_;refine My ?_;refine kW ?_;refine kC C ?_;refine aj rfl rfl rfl rfl rfl rfl rfl (aA (a:=[112]) (b:=fmt z) (by have:=lN y.1 y.2;simp;omega)) ?_;refine Px ?_;refine⟨(i+1,G++[mA z]),⟨hlt,l⟩,by dsimp only;omega,Eq.mpr (congrArg (au _) (Py _ _ G (mA z))) ?_⟩;exact au.trans (b:=⟨[(4, .own 7003 (G.length+1) 1 9),(1, .box 0 0),(24, .d (qh f)),(25, .d (dN .i64 f.length)),(26, .d (dN .i64 (i+1:Nat)))],[(7003,some ((fD G).take (G.length*1)++[.val (vL (mA z))])),(0,some (cC k f cs vs s))]⟩) (weak ⟨rfl,rfl,rfl,rfl,aq O_ O_,trivial⟩ ⟨rfl,rfl,trivial⟩ rfl) ((a8 (q:=4) (j:=7003) (j':=7001) rfl rfl rfl rfl).trans kw)
 refine kE ?_;rw[K_ O_]at hG;refine kW ?_;refine av (Nat × List L8) (fun x=>x.1<=cs.length/\x.2=r.nm::(f.map mA++(cs.take x.1).map qR)) (fun x=>⟨[(4, .own 7001 x.2.length 1 9),(1, .box 0 0),(38, .d (qh cs)),(39, .d (dN .i64 cs.length)),(40, .d (dN .i64 x.1))],[(7001,some (fD x.2)),(0,some (cC k f cs vs s))]⟩) (fun x=>cs.length-x.1) (0,G) ⟨Nat.zero_le _,by rw[hG];simp⟩ kw ?_;clear hlt m hG i G;rintro⟨i,G⟩ ⟨m,hG⟩;dsimp only at m hG ⊢;refine kI ?_;by_cases hlt:i<cs.length
 ·refine kT ?_;have y:=Z _ (List.getElem_mem hlt);have hat:=bd (Q_ hlt);have l:G++[qR cs[i]]=r.nm::(f.map mA++(cs.take (i+1)).map qR):=by rw[hG,bT (Q_ hlt),List.map_append,<- e_];rfl
  have g:G.length=i+f.length+1:=by rw[hG];simp;omega
  generalize cs[i]=z at *;have C:=Es (p:=z) O_ O_;refine My ?_;refine kW ?_;refine kC C ?_;refine aj rfl rfl rfl rfl rfl rfl rfl (aA (a:=[99]) (b:=fmt z) (by have:=lN y.1 y.2;simp;omega)) ?_;refine Px ?_;refine⟨(i+1,G++[qR z]),⟨hlt,l⟩,by dsimp only;omega,Eq.mpr (congrArg (au _) (Py _ _ G (qR z))) ?_⟩;exact au.trans (b:=⟨[(4, .own 7003 (G.length+1) 1 9),(1, .box 0 0),(38, .d (qh cs)),(39, .d (dN .i64 cs.length)),(40, .d (dN .i64 (i+1:Nat)))],[(7003,some ((fD G).take (G.length*1)++[.val (vL (qR z))])),(0,some (cC k f cs vs s))]⟩) (weak ⟨rfl,rfl,rfl,rfl,aq O_ O_,trivial⟩ ⟨rfl,rfl,trivial⟩ rfl) ((a8 (q:=4) (j:=7003) (j':=7001) rfl rfl rfl rfl).trans kw)
 refine kE ?_;rw[K_ O_]at hG;have g:G.length=cs.length+f.length+1:=by rw[hG];simp;omega
 have E:BG r ⟨k,f,cs,vs,s⟩=G++q7 ⟨k,f,cs,vs,s⟩:=by rw[hG];unfold BG;simp
 have I:(q7 ⟨k,f,cs,vs,s⟩).length<=1:=by unfold q7;split;exact l_ _;split;exact l_ _;exact Nat.zero_le _
 have F:(Lib.join (G++q7 ⟨k,f,cs,vs,s⟩) [32]).length<=65536:=by rw[<- E];unfold Et at hlen;rw[L_]at hlen;omega
 have O:=MN (G++q7 ⟨k,f,cs,vs,s⟩) [32] (by intro e;rw[List.append_eq_nil_iff]at e;rw[e.1]at g;simp at g) (by rw[L_];omega) O_;unfold Et at hlen ⊢;rw[E]at hlen ⊢;refine kW ?_;refine kC U ?_;refine kN ?_;refine ks ⟨[(4, .d (oT (G++q7 ⟨k,f,cs,vs,s⟩))),(1, .box 0 0)],[(0,some (cC k f cs vs s))]⟩ (fun s' hw=>?_) (fun R B v=>?_)
 ·generalize G++q7 ⟨k,f,cs,vs,s⟩=W at *
  refine qH ?_;refine kO ?_;refine kQ O ?_;refine av (Nat × L8) (fun x=>x.1<=vs.length/\x.2=Lib.join W [32]++xZ ((vs.take x.1).map tx)) (fun x=>⟨[(11, .d (dL x.2)),(74, .d (.leaf (.sl vs.length (gc vs)))),(75, .d (dN .i64 vs.length)),(76, .d (dN .i64 x.1))],[]⟩) (fun x=>vs.length-x.1) (0,Lib.join W [32]) ⟨Nat.zero_le _,by simp[xZ]⟩ kw ?_;clear hlt m hG g E i G;rintro⟨i,u⟩ ⟨m,w⟩;dsimp only at m w ⊢;refine kI ?_;have ad:u.length<=65536:=by have:=zQ (vs.map tx) i;rw[L_]at hlen;rw[w,L_,List.map_take];omega
  by_cases hlt:i<vs.length
  ·refine kT ?_;obtain⟨x,J⟩:∃x,vs[i]? =some x:=⟨vs[i],by simp[hlt]⟩;have L:=N x (M_ J);have hat:=fO vs i x J;have hu2:u++((if i=0 then [32,61,32]else [44,32])++tx x)=Lib.join W [32]++xZ ((vs.take (i+1)).map tx):=by rw[bT J,List.map_append,List.map_cons,List.map_nil,nw,w,e_];exact PE
   have S:u.length+(tx x).length<=65536:=by exact PB
   obtain⟨o1,na1,xs1,nb1,ys1,nm1,n1',cs1,Q⟩:=aJ x;rw[show dR x= .agg (af o1 na1 xs1 nb1 ys1 nm1 n1' cs1) from congrArg DV.agg Q]at L;rw[Q]at hat;generalize tx x=t at *;refine kW ?_;refine Lg ?_;refine kW ?_;refine kC L ?_;iterate 2 refine kG ?_
   refine kO ?_;by_cases h0:i=0
   ·rw[if_pos h0]at hu2;refine kB true ?_ ?_
    ·exact(by simp[h0])
    refine kG ?_;refine kO2 ?_;refine aj rfl rfl rfl rfl rfl rfl rfl (aA (a:=[32,61,32]) (b:=t) (by simp;omega)) ?_;refine aj rfl rfl rfl rfl rfl rfl rfl (aA (a:=u) (b:=[32,61,32]++t) (by simp;omega)) ?_;refine kW ?_;exact⟨(i+1,u++([32,61,32]++t)),⟨hlt,hu2⟩,by dsimp only;omega,weak ⟨rfl,rfl,rfl,aq O_ O_,trivial⟩ trivial rfl⟩
   ·rw[if_neg h0]at hu2;refine kB false ?_ ?_
    ·exact(by simp[h0])
    refine kG ?_;refine kO2 ?_;refine aj rfl rfl rfl rfl rfl rfl rfl (aA (a:=[44,32]) (b:=t) (by simp;omega)) ?_;refine aj rfl rfl rfl rfl rfl rfl rfl (aA (a:=u) (b:=[44,32]++t) (by simp;omega)) ?_;refine kW ?_;exact⟨(i+1,u++([44,32]++t)),⟨hlt,hu2⟩,by dsimp only;omega,weak ⟨rfl,rfl,rfl,aq O_ O_,trivial⟩ trivial rfl⟩
  ·have hsz:=an u;refine kE ?_;rw[K_ O_]at w;refine R7 ?_;refine j9 ?_;rw[w];rfl
 ·clear v O N hlen F I;rcases hs with rfl|rfl|rfl
  ·refine NW ?_;refine B _ (Eq.mpr (congrArg (au _) (Oq _ _ G (gt k))) ?_);exact au.trans (ep (q:=4) rfl rfl) kw
  ·refine NW ?_;refine B _ (Eq.mpr (congrArg (au _) (Oq _ _ G (gJ k))) ?_);exact au.trans (ep (q:=4) rfl rfl) kw
  ·refine kW ?_;rw[show G++q7 ⟨k,f,cs,vs,0⟩=G from c_ G]at B;exact B _ (au.trans (ep (q:=4) rfl rfl) kw)
def wB{c:Cn}(a:aa prog 17 [dC c,dN .i64 200,dN .i64 200] (.one (dB false))):aa prog 25 [dC c] (.tup [dL [],dN .i64 1]):=by obtain⟨k,d,b,f,s⟩:=c;show aa prog _ [.agg (cC k d b f s)] _;have a:aa prog 17 [.agg (cC k d b f s),dN .i64 200,dN .i64 200] (.one (dB false)):=a;refine kV func25 ?_;refine kC a ?_;exact am
abbrev PF:=List UInt8->Except (Nat × Int) Ex
def gn(pf:PF):List (List UInt8)->Option (List Ex)
 | []=>some []
 |t::r=>match pf t with
  | .ok e=>(gn pf r).map (e:: ·)
  | .error _=>none
def MA(pf:PF)(s:List UInt8):Option (Cn × List Ex):=
 (if(Lib.cut s [32,61,32]).2.1=[]then some []else gn pf (Lib.split (Lib.cut s [32,61,32]).2.1 [44,32])).map fun a=>
  ({ UV (Lib.split (Lib.cut s [32,61,32]).1 [32])with vs:=a.map rx },a)
def ML(pf:PF)(t:List UInt8):Rx:=match pf t with
 | .ok e=>rx e
 | .error _=>z7
def LF(pf:PF)(s:List UInt8):Cn:={ US (Lib.split (Lib.cut s [32,61,32]).1 [32])with vs:=if(Lib.cut s [32,61,32]).2.2=true then(Lib.split (Lib.cut s [32,61,32]).2.1 [44,32]).map (ML pf)else [] }
def ww{a n:Nat}{t:List UInt8}(h:t≠[]):gC a n t≠[]:=by
 unfold gC;split
 ·simp
 ·exact h
def GM:∀(e:Ex),gR e-> ∀n,aF e n≠[]
 | .num v u,h,n=>by
  obtain⟨t,c⟩:=Option.isSome_iff_exists.1 h.1;have d:aF (.num v u) n=gC 4 n (t++fj u):=by show gC 4 n (Ae v++fj u)=_;rw[Ae,c];rfl
  rw[d];have:=rz c;exact ww (by simp[this])
 | .nam s,h,n=>ww fun e=>by have h:mq s=true:=h;rw[e]at h;cases h
 | .neg a,h,n=>by show gC 3 n ([45]++aF a 3)≠[];exact ww S_
 | .bin k a b,h,n=>by show gC (bM k) n (aF a (bM k)++gW k++aF b (bM k+1))≠[];exact ww (by simp[GM a h.1 _])
def L7{b:List UInt8}:∀(l:List (List UInt8)),l≠[]->(∀y∈l,y≠[])->Lib.join l b≠[]
 | [],h,_=>absurd rfl h
 | [y],_,h=>by rw[Lib.join_one];exact h y S_
 |y::z::r,_,h=>by rw[ij];simp[h y S_]
def Dg{pf:PF}:∀(a:List Ex),(∀e∈a,pf (aF e 0)= .ok e)->gn pf (a.map fun e=>aF e 0)=some a
 | [],_=>rfl
 |e::r,h=>by rw[List.map_cons,gn,h e S_,Dg r fun x b=>h x (by simp[b])];rfl
def lQ{pf:PF}{c:Cn}{r:Kd}(h:NB c r 200 200){a:List Ex}(m:c.vs=a.map rx)(j:∀e∈a,gR e)(l:∀e∈a,pf (aF e 0)= .ok e):
 MA pf (Et r c (a.map fun e=>aF e 0))=some (c,a)/\LF pf (Et r c (a.map fun e=>aF e 0))=c:=by
 have q:=Ml h (a.map fun e=>aF e 0);have i:=M1 h;unfold MA LF;rw[q];simp only;rw[Fm h,i.1,i.2];by_cases f:a=[]
 ·subst f;simp only[List.map_nil,Lib.join_nil,if_true,Option.map_some,decide_true,Bool.not_true,Bool.false_eq_true,if_false];rw[show([]:List Rx)=c.vs from by rw[m];rfl];exact⟨rfl,rfl⟩
 ·have d:(a.map fun e=>aF e 0)≠[]:=by simpa using f
  have u:=L7 (b:=[44,32]) _ d fun y v=>by obtain⟨e,g,rfl⟩:=List.mem_map.1 v;exact GM e (j e g) 0
  rw[if_neg u,HT d fun t ht=>by obtain⟨e,g,rfl⟩:=List.mem_map.1 ht;exact wl e (j e g) 0,Dg a l]
  simp only[Option.map_some,d,decide_false,Bool.not_false,if_true];have p:((a.map fun e=>aF e 0).map (ML pf))=a.map rx:=by rw[List.map_map];exact List.map_congr_left fun e f=>by simp only[Function.comp,ML,l e f]
  rw[p,<- m];exact⟨rfl,rfl⟩
end Go.Proofs.YtnchbpoopnjghaaGreatDoor
