/- Parts of a proof: contracts of the functions that the laws reach. -/
import Derived.Test.YtnchbpoopnjghaaGreatDoorQZ6
import Derived.Test.YtnchbpoopnjghaaGreatDoorTie
import Derived.Test.YtnchbpoopnjghaaGreatDoorCards
set_option maxHeartbeats 100000000
set_option linter.all false
open Go.Proofs.Tryz
namespace Go.Proofs.YtnchbpoopnjghaaGreatDoor
open Go.RowKit
theorem eM {p:Rx->Prop} (h:∀op na xs nb ys nm args,(∀y∈args,p y)->p (.mk op na xs nb ys nm args)):∀x,p x
 | .mk op na xs nb ys nm args=>h op na xs nb ys nm args (fun y hy=>eM h y)
decreasing_by
 have:=List.sizeOf_lt_of_mem hy
 simp
 omega
theorem aY (x:Rx):∃o na xs nb ys nm n cs,aR x=ab o na xs nb ys nm n cs:=by
 exact QI
mutual
def f8:Rx->Nat
 | .mk _ _ _ _ _ _ args=>eQ args+1
def eQ:List Rx->Nat
 | []=>0
 |x::r=>f8 x+eQ r
end
mutual
def qH:Rx->Nat->Nat
 | .mk _ _ _ _ _ _ args,m=>AF args 1 m
def AF:List Rx->Nat->Nat->Nat
 | [],n,_=>n
 |y::r,n,m=>if n<=m then AF r (n+qH y (m-n)) m else n
end
theorem zK:∀{l:List Rx} {n m:Nat},m<n->AF l n m=n
 | [],n,m,_=>rfl
 |y::r,n,m,h=>by rw[AF,if_neg O_]
theorem GZ {l:List Rx} {i:Nat} (h:i<l.length) {n m:Nat} (hn:n<=m):AF (l.drop i) n m=AF (l.drop (i+1)) (n+qH l[i] (m-n)) m:=by
 rw[List.drop_eq_getElem_cons h,AF,if_pos hn]
theorem sh:∀(x:Rx) (m:Nat),1<=qH x m/\qH x m<=m+1/\(qH x m<=m->qH x m=f8 x):=by
 refine eM fun op na xs nb ys nm args ih m=>?_
 have key:∀(l:List Rx),(∀y∈l,∀m,1<=qH y m/\qH y m<=m+1/\(qH y m<=m->qH y m=f8 y))-> ∀n,1<=n->n<=m+1->1<=AF l n m/\AF l n m<=m+1/\(AF l n m<=m->AF l n m=n+eQ l):=by
  intro l
  induction l with
  |nil=>intro _ n h1 h2;exact⟨h1,h2,fun _=>rfl⟩
  |cons y r ihr=>
   intro h n h1 h2
   by_cases hn:n<=m
   ·rw[AF,if_pos hn]
    obtain⟨a1,a2,a3⟩:=h y S_ (m-n);obtain⟨b1,b2,b3⟩:=ihr (fun z hz=>h z (by simp[hz])) (n+qH y (m-n)) O_ O_;refine⟨b1,b2,fun hle=>?_⟩;rw[b3 hle,eQ]
    by_cases hm:n+qH y (m-n)<=m
    ·rw[a3 O_];omega
    ·rw[zK O_]at hle;omega
   ·rw[AF,if_neg hn]
    exact⟨h1,h2,fun h=>absurd h hn⟩
 rw[qH,f8];obtain⟨c1,c2,c3⟩:=key args ih 1 (l_ _) O_;exact⟨c1,c2,fun h=>by rw[c3 h];omega⟩
theorem JT:∀(x:Rx),j3 x-> ∀m:Nat,m<=1000000->aa Tryz.prog 50 [dR x,dN .i64 m] (.one (dN .i64 (qH x m))):=by
 refine eM fun op na xs nb ys nm args ih hx m hm=>?_
 obtain⟨_,_,_,_,_,hlen,hargs⟩:=hx;show aa Tryz.prog _ [.agg (ab op na xs nb ys nm args.length (fG args)),_] _;have ht0:=(sh (.mk op na xs nb ys nm args) m).2.1;rw[qH]at ht0 ⊢;generalize ht:AF args 1 m=t at ht0;refine kV func50 ?_
 refine aq (Nat × Nat) (fun s=>s.1<=args.length/\1<=s.2/\s.2<=m+1/\AF (args.drop s.1) s.2 m=t) (fun s=>⟨[(1, .d (dN .i64 m)),(2, .box 0 0),(4, .d (dN .i64 0)),(5, .d (dN .i64 s.2)),(6, .d (dN .i64 s.1))],[(0,some (ab op na xs nb ys nm args.length (fG args)))]⟩) (fun s=>args.length-s.1) (0,1) ⟨Nat.zero_le _,l_ _,by dsimp only;omega,ht⟩
  kw ?_
 rintro⟨i,n⟩ ⟨hi,h1,h2,hd⟩;dsimp only at hi h1 h2 hd ⊢;refine kI ?_
 refine kO4 ?_
 by_cases hlt:i<args.length
 ·refine kT ?_
  refine kO3 ?_
  by_cases hn:n<=m
  ·refine kT ?_
   obtain⟨o1,na1,xs1,nb1,ys1,nm1,n1,cs1,hA⟩:=aY args[i];have hat:∀(j:Nat) (a:AV),(ab o1 na1 xs1 nb1 ys1 nm1 n1 cs1)[j]? =some a->(fG args)[i*7+j]? =some a:=fun j a h=>eX args i args[i] (by simp[hlt]) j a (by rw[hA];exact h)
   have c:=ih args[i] (List.getElem_mem hlt) (hargs _ (List.getElem_mem hlt)) (m-n) O_;rw[show dR args[i]= .agg (ab o1 na1 xs1 nb1 ys1 nm1 n1 cs1) from congrArg DV.agg hA]at c;obtain⟨k1,k2,_⟩:=sh args[i] (m-n);have hstep:=GZ hlt hn;generalize qH args[i] (m-n)=k at *;refine E7 ?_
   refine kO3 ?_
   refine kJ ((m-n:Nat)) ?_;refine kQ (c) ?_;exact⟨(i+1,n+k),⟨hlt,by dsimp only;omega,by dsimp only;omega,by dsimp only;rw[<- hstep];exact hd⟩,by dsimp only;omega,weak ⟨rfl,rfl,rfl,ai O_ O_,ai O_ O_,trivial⟩ ⟨rfl,trivial⟩ rfl⟩
  ·refine kE ?_
   refine kW ?_;rw[<- hd,zK O_];exact bK (T:=TT) rfl rfl
 ·refine kE ?_
  refine kW ?_;rw[<- hd,List.drop_eq_nil_of_le O_,AF];exact bK (T:=TT) rfl rfl
mutual
def oB:Rx->Bool
 | .mk _ _ xs _ ys nm args=>oX args && (decide (xs.length<=8) && decide (ys.length<=8) && decide (nm.length<=60))
def oX:List Rx->Bool
 | []=>true
 |y::r=>oB y && oX r
end
theorem rN:∀{l:List Rx},oX l=true-> ∀y∈l,oB y=true
 |a::l,h,y,hy=>by
  simp only[oX,B_]at h
  rcases f_.1 hy with rfl|hy
  ·exact h.1
  ·exact rN h.2 y hy
theorem zF:∀{l:List Rx},(∀(q:Nat) (y:Rx),l[q]? =some y->oB y=true)->oX l=true
 | [],_=>rfl
 |a::l,h=>by
  simp only[oX,B_]
  exact⟨h 0 a rfl,zF fun q y hq=>h (q+1) y (by simpa using hq)⟩
theorem Jj:∀(x:Rx),j3 x->aa Tryz.prog 51 [dR x] (.one (dB (oB x))):=by
 refine eM fun op na xs nb ys nm args ih hx=>?_
 obtain⟨_,_,_,_,_,hlen,hargs⟩:=hx;have hB:=aJ nm;refine BO ?_;refine kV func51 ?_
 refine aq Nat (fun i=>i<=args.length/\ ∀(q:Nat) y,q<i->args[q]? =some y->oB y=true) (fun i=>⟨[(1, .box 0 0),(2, .d (dB false)),(3, .d (dN .i64 i))],[(0,some (ab op na xs nb ys nm args.length (fG args)))]⟩) (fun i=>args.length-i) 0 ⟨Nat.zero_le _,fun q y h=>absurd h (Nat.not_lt_zero _)⟩
  kw ?_
 rintro i ⟨hi,hq⟩;refine kI ?_
 refine kO4 ?_
 by_cases hlt:i<args.length
 ·refine kT ?_
  obtain⟨o1,na1,xs1,nb1,ys1,nm1,n1,cs1,hA⟩:=aY args[i];have hx:args[i]? =some args[i]:=by simp[hlt]
  have hat:∀(j:Nat) (a:AV),(ab o1 na1 xs1 nb1 ys1 nm1 n1 cs1)[j]? =some a->(fG args)[i*7+j]? =some a:=fun j a h=>eX args i args[i] hx j a (by rw[hA];exact h)
  have c:=ih args[i] (List.getElem_mem hlt) (hargs _ (List.getElem_mem hlt));rw[show dR args[i]= .agg (ab o1 na1 xs1 nb1 ys1 nm1 n1 cs1) from congrArg DV.agg hA]at c;refine E7 ?_;refine kO ?_;cases hb:oB args[i]
  ·rw[hb]at c
   refine kQ (c) ?_
   rw[show oB (.mk op na xs nb ys nm args)=false by
    rw[oB,Bool.and_eq_false_iff];refine .inl ?_;cases h:oX args
    ·rfl
    ·rw[rN h _ (List.getElem_mem hlt)]at hb;cases hb]
   exact bK (T:=TT) rfl rfl
  ·exact O3
 ·refine kE ?_
  have hall:oX args=true:=zF fun q y h=>hq q y (by have:=(G_.1 h).1;omega) h
  rw[oB,hall,Bool.true_and];refine jP ?_;refine kI ?_
  refine kO5 ?_
  by_cases l1:xs.length<=8
  ·refine kT ?_
   iterate 6 refine kO ?_
   by_cases l2:ys.length<=8
   ·refine kT ?_
    refine kO5 ?_
    by_cases l3:nm.length<=60
    ·refine kT ?_
     refine kW ?_;rw[T_ l1,T_ l2,T_ l3];exact bK (T:=TT) rfl rfl
    ·refine kE ?_
     refine kW ?_;rw[T_ l1,T_ l2,F_ l3];exact bK (T:=TT) rfl rfl
   ·refine kE ?_
    refine kW ?_;rw[T_ l1,F_ l2];exact bK (T:=TT) rfl rfl
  ·refine kE ?_
   refine kW ?_;rw[F_ l1];exact bK (T:=TT) rfl rfl
mutual
def uq:Rx->Nat
 | .mk _ _ _ _ _ _ args=>lF args+1
def lF:List Rx->Nat
 | []=>0
 |y::r=>max (uq y) (lF r)
end
theorem Ix:∀x,uq x<=f8 x:=by
 refine eM fun op na xs nb ys nm args ih=>?_
 have key:∀l:List Rx,(∀y∈l,uq y<=f8 y)->lF l<=eQ l:=by
  intro l
  induction l with
  |nil=>intro _;exact l_ _
  |cons y r ihr=>
   intro h;have h1:=h y S_;have h2:=ihr fun z hz=>h z (by simp[hz])
   rw[lF,eQ];omega
 rw[uq,f8];have:=key args ih;omega
theorem lp:∀{l:List Rx} {y:Rx},y∈l->f8 y<=eQ l
 |a::l,y,h=>by
  rw[eQ];rcases f_.1 h with rfl|h
  ·omega
  ·have:=lp h;omega
theorem xp:∀{l:List Rx} {y:Rx},y∈l->uq y<=lF l
 |a::l,y,h=>by
  rw[lF];rcases f_.1 h with rfl|h
  ·omega
  ·have:=xp h;omega
theorem Kh:∀(x:Rx),j3 x->f8 x<=1000000->aa Tryz.prog 90 [dR x] (.one (dN .i64 (uq x))):=by
 refine eM fun op na xs nb ys nm args ih hx hs=>?_
 have hd0:=Ix (.mk op na xs nb ys nm args);obtain⟨_,_,_,_,_,hlen,hargs⟩:=hx;rw[f8]at hs;rw[uq,f8]at hd0;refine BO ?_;refine kV func90 ?_
 refine aq (Nat × Nat) (fun s=>s.1<=args.length/\s.2<=lF args/\max s.2 (lF (args.drop s.1))=lF args) (fun s=>⟨[(1, .box 0 0),(2, .d (dN .i64 0)),(3, .d (dN .i64 s.2)),(4, .d (dN .i64 s.1))],[(0,some (ab op na xs nb ys nm args.length (fG args)))]⟩) (fun s=>args.length-s.1) (0,0) ⟨Nat.zero_le _,Nat.zero_le _,Nat.zero_max _⟩
  kw ?_
 rintro⟨i,d⟩ ⟨hi,h1,h2⟩;dsimp only at hi h1 h2 ⊢;refine kI ?_
 refine kO4 ?_
 by_cases hlt:i<args.length
 ·refine kT ?_
  obtain⟨o1,na1,xs1,nb1,ys1,nm1,n1,cs1,hA⟩:=aY args[i];have hx:args[i]? =some args[i]:=by simp[hlt]
  have hat:∀(j:Nat) (a:AV),(ab o1 na1 xs1 nb1 ys1 nm1 n1 cs1)[j]? =some a->(fG args)[i*7+j]? =some a:=fun j a h=>eX args i args[i] hx j a (by rw[hA];exact h)
  have hm:=List.getElem_mem hlt;have hsz:=lp hm;have hdp:=xp hm;have c:=ih args[i] hm (hargs _ hm) O_;rw[show dR args[i]= .agg (ab o1 na1 xs1 nb1 ys1 nm1 n1 cs1) from congrArg DV.agg hA]at c;rw[List.drop_eq_getElem_cons hlt,lF]at h2;generalize uq args[i]=k at *;refine E7 ?_;refine kO ?_;refine kC (c) ?_;refine Ot (a:=d) (b:=k) (m:=(max d k:Nat)) O_ rfl rfl rfl rfl rfl rfl ?_;refine kW ?_;exact⟨(i+1,max d k),⟨hlt,by dsimp only;omega,by dsimp only;omega⟩,by dsimp only;omega,weak ⟨rfl,rfl,rfl,ai O_ O_,trivial⟩ ⟨rfl,trivial⟩ rfl⟩
 ·exact Pj
section
open Go.ChangeShapes Go.WideShapes Go.ChangeAt Go.RowKit Go.Joins
def vV {H:Type}:Nat->DataW H->Option (List AV)
 |0,_=>none
 |n+1,d=>match d with
  | .lit (.bool b)=>some [.val (.bool b)]
  | .lit (.int k i)=>some [.val (.int k i)]
  | .lit (.string l)=>some [.val (.string ⟨l.toArray⟩)]
  | .nil=>some [.sl 0 []]
  | .slice es _=>match iI (vV n) es with
   |some rows=>some [.sl rows.length rows.flatten]
   |none=>none
  | .agg es=>match iI (vV n) es with
   |some ps=>some ps.flatten
   |none=>none
  |_=>none
theorem zQ {α β:Type} {f g:α->Option β}:∀{xs:List α} {ys zs:List β},(∀x∈xs,∀y z,f x=some y->g x=some z->y=z)->iI f xs=some ys->iI g xs=some zs->ys=zs
 | [],ys,zs,_,h,k=>by simp only[iI,X_]at h k;rw[<- h,<- k]
 |x::xs,ys,zs,hfg,h,k=>by
  simp only[iI]at h k
  cases h1:f x with
  |none=>rw[h1]at h;simp at h
  |some y=>
   cases h2:iI f xs with
   |none=>rw[h1,h2]at h;simp at h
   |some ys'=>
    cases k1:g x with
    |none=>rw[k1]at k;simp at k
    |some z=>
     cases k2:iI g xs with
     |none=>rw[k1,k2]at k;simp at k
     |some zs'=>
      rw[h1,h2]at h;rw[k1,k2]at k
      simp only[X_]at h k
      rw[<- h,<- k,hfg x S_ y z h1 k1,zQ (fun x hx=>hfg x (by simp[hx])) h2 k2]
theorem Dw {H:Type}:∀(n m:Nat) (d:DataW H) (cs cs':List AV),vV n d=some cs->vV m d=some cs'->cs=cs'
 |0,_,_,_,_,h,_=>by simp[vV]at h
 |_+1,0,_,_,_,_,h=>by simp[vV]at h
 |n+1,m+1,d,cs,cs',h,h'=>by
  have ih:=Dw (H:=H) n m;unfold vV at h h'
  split at h
  ·simp_all
  ·simp_all
  ·simp_all
  ·simp_all
  ·exact Qc
  ·exact Qc
  ·cases h
theorem qO {α β:Type} {f:α->Option β}:∀{xs:List α} {ys:List β},xs.length=ys.length->(∀(i:Nat) (x:α) (y:β),xs[i]? =some x->ys[i]? =some y->f x=some y)->iI f xs=some ys
 | [],[],_,_=>rfl
 | [],_::_,h,_=>by cases h
 |_::_,[],h,_=>by cases h
 |x::xs,y::ys,h,hf=>by
  simp only[iI,hf 0 x y rfl rfl,qO (xs:=xs) (ys:=ys) (by simpa using h) (fun i x y h1 h2=>hf (i+1) x y (by simpa using h1) (by simpa using h2))]
def pt (P:Program) (L:List TypeId):Bool:=L.all fun t=>match P.underlying t with
 |some .bool=>true
 |some (.int _)=>true
 |some .string=>true
 |some (.slice e)=>L.elem e
 |some (.struct fs)=>(fs.toList.all fun f=>L.elem f.type) && mV P 0 (P.cellsOf t) fs.toList
 |some (.array n e)=>L.elem e && Nat.beq (n*P.cellsOf e) (P.cellsOf t)
 |_=>false
theorem Ez {w:World} {sz:Nat}:∀(n:Nat) (vs:List Value) (ps:List (List AV)),vs.length=n*sz->ps.length=n->(∀i p,ps[i]? =some p->CM (fun _=>False) w p ((vs.drop (i*sz)).take sz))->CM (fun _=>False) w ps.flatten vs
 |0,vs,ps,h,hp,_=>by
  have h1:vs=[]:=E_ (by simpa using h);have h2:ps=[]:=E_ hp;subst h1 h2;exact CM.nil _ _
 |n+1,vs,[],_,hp,_=>by cases hp
 |n+1,vs,p::ps,h,hp,hc=>by
  have h0:=hc 0 p rfl;rw[Nat.zero_mul,List.drop_zero]at h0
  have hr:=Ez (w:=w) (sz:=sz) n (vs.drop sz) ps (by rw[n_,h,Nat.add_mul];omega) (by simpa using hp) (fun i q hq=>by
   have:=hc (i+1) q (by simpa using hq);rw[List.drop_drop,show sz+i*sz=(i+1)*sz by rw[Nat.add_mul];omega];exact this)
  rw[List.flatten_cons];have:=h0.append hr
  rwa[List.take_append_drop]at this
theorem v8 {P:Program} {w:World} {vs:List Value}:∀(fs:List Field) (off:Nat) (ps:List (List AV)),mV P off vs.length fs=true->ps.length=fs.length ->
 (∀(i:Nat) (f:Field) (p:List AV),fs[i]? =some f->ps[i]? =some p->CM (fun _=>False) w p ((vs.drop f.offset).take (P.cellsOf f.type)))->CM (fun _=>False) w ps.flatten (vs.drop off)
 | [],off,[],h,_,_=>by
  have:=Nat.eq_of_beq_eq_true h;subst this;rw[List.drop_length];exact CM.nil _ _
 | [],_,_::_,_,h,_=>by cases h
 |_::_,_,[],_,h,_=>by cases h
 |f::r,off,p::ps,h,hl,hf=>by
  simp only[mV,B_]at h
  have ho:=Nat.eq_of_beq_eq_true h.1;have h1:=hf 0 f p rfl rfl;have h3:=v8 r _ ps h.2 (by simpa using hl) (fun i g q hg hq=>hf (i+1) g q (by simpa using hg) (by simpa using hq));rw[ho]at h1;rw[List.flatten_cons];have:=h1.append h3
  rwa[<- List.drop_drop,List.take_append_drop]at this
section
variable {H:Type} {enc:TypeId × Value->H} {W:World} {P:Program} {held:Bool}
theorem Mu {L:List TypeId} (hL:pt P L=true):∀(n:Nat) (t:TypeId) (vs:List Value) (x:DataW H × List MemPlace),t∈L->DataW.trod enc P W 0 (fun _=>true) held n t vs=some x ->
 ∃cs,CM (fun _=>False) W cs vs/\vV n x.1=some cs:=by
 intro n
 induction n with
 |zero=>intro t vs x _ h;simp[DataW.trod]at h
 |succ n ih=>
  intro t vs x ht h;have hp:=I_.1 hL t ht;cases hu:P.underlying t with
  |none=>rw[hu]at hp;simp at hp
  |some d=>
   rw[hu]at hp;cases d with
   |bool=>
    obtain⟨b,rfl,rfl⟩:=DataW.trod_bool hu h;exact⟨_,CM.cons (.val rfl) (CM.nil _ _),rfl⟩
   |int k=>
    obtain⟨i,rfl,rfl,h1⟩:=DataW.trod_int hu h;exact⟨_,CM.cons (.val rfl) (CM.nil _ _),rfl⟩
   |string=>
    obtain⟨s,rfl,rfl,h1⟩:=DataW.trod_string hu h;exact⟨_,CM.cons (.val rfl) (CM.nil _ _),by simp[vV]⟩
   |slice e=>
    have he:e∈L:=by simpa using hp
    rcases DataW.trod_slice hu h with⟨rfl,rfl⟩| ⟨a,len,cap,elems,rest,m,hm,rfl,rfl,_,hlc,hcm,hel,hget,_,_⟩
    ·exact⟨_,CM.cons (.emp (l_ _) O_ (fun _=>rfl)) (CM.nil _ _),rfl⟩
    ·obtain rfl:m=n:=O_
     have hrow:∀i,i<len-> ∃(r:List AV) (us:List Value),W.cells? 0 (a.add (i*P.cellsOf e)) (P.cellsOf e)=some us/\CM (fun _=>False) W r us/\ ∀y,elems[i]? =some y->vV m y.1=some r:=by
      intro i hi;have h1:=hget i hi;have h2:elems[i]? =some elems[i]:=S_
      rw[h2]at h1;obtain⟨us,h3,h4⟩:=Option.bind_eq_some_iff.1 h1;obtain⟨r,h5,h6⟩:=ih e us _ he h4;exact⟨r,us,h3,h5,fun y hy=>by rw[h2]at hy;cases hy;exact h6⟩
     have hrows:∀k,k<=len-> ∃rows:List (List AV),rows.length=k/\ ∀i r,rows[i]? =some r-> ∃us:List Value,W.cells? 0 (a.add (i*P.cellsOf e)) (P.cellsOf e)=some us/\CM (fun _=>False) W r us/\ ∀y,elems[i]? =some y->vV m y.1=some r:=by
      exact Tr
     obtain⟨rows,hl,hr⟩:=hrows len (l_ _)
     have hmap:iI (vV m) (elems.map (·.1))=some rows:=by
      refine qO (by simp[hel,hl]) (fun i y r hy h2=>?_);rw[List.getElem?_map]at hy;cases hz:elems[i]? with
      |none=>rw[hz]at hy;cases hy
      |some z=>
       rw[hz]at hy
       simp only[Option.map_some,X_]at hy
       obtain⟨_,_,_,h5⟩:=hr i r h2;rw[<- hy];exact h5 z hz
     have hsz:∀r∈rows,r.length=P.cellsOf e:=by
      exact PK
     refine⟨[.sl len rows.flatten],CM.cons ?_ (CM.nil _ _),by simp only[vV,hmap,hl]⟩;exact Pl
   |struct fs=>
    simp only[B_]at hp
    obtain⟨xs,m,hm,rfl,hlen,hxl,hget⟩:=DataW.trod_struct hu h;obtain rfl:m=n:=O_
    have htile:=hp.2;rw[<- hlen]at htile
    have hpart:∀k,k<=xs.length-> ∃ps:List (List AV),ps.length=k/\ ∀(i:Nat) (p:List AV) (f:Field),ps[i]? =some p->fs[i]? =some f->CM (fun _=>False) W p ((vs.drop f.offset).take (P.cellsOf f.type))/\ ∀y:DataW H × List MemPlace,xs[i]? =some y->vV m y.1=some p:=by
     intro k
     induction k with
     |zero=>intro _;exact⟨[],rfl,fun i p f h=>by simp at h⟩
     |succ k ihk=>
      intro hk;obtain⟨ps,h1,h2⟩:=ihk O_;have hkf:fs[k]? =some (fs[k]'(by omega)):=S_
      have h3:=hget k _ hkf;have h4:xs[k]? =some xs[k]:=S_
      rw[h4]at h3;have hfL:fs[k].type∈L:=by have:=I_.1 hp.1 fs[k] S_;simpa using this
      obtain⟨p,h5,h6⟩:=ih _ _ _ hfL h3;refine⟨ps++[p],by simp[h1],fun i q f hq hf=>?_⟩
      by_cases hi:i<ps.length
      ·rw[List.getElem?_append_left hi]at hq;exact h2 i q f hq hf
      ·have hil:=(G_.1 hq).1
       simp at hil
       have:i=k:=O_
       subst this;rw[g_ O_,h1,Nat.sub_self]at hq
       simp at hq
       subst hq;rw[hkf]at hf;cases hf;exact⟨h5,fun y hy=>by rw[h4]at hy;cases hy;exact h6⟩
    obtain⟨ps,h1,h2⟩:=hpart xs.length (l_ _);refine⟨ps.flatten,?_,?_⟩
    ·have:=v8 (w:=W) (vs:=vs) fs.toList 0 ps htile (by rw[h1,hxl];simp) (fun i f p hf hp=>(h2 i p f hp (by simpa using hf)).1)
     rwa[List.drop_zero]at this
    ·have hmap:iI (vV m) (xs.map (·.1))=some ps:=by
      refine qO (by simp[h1]) (fun i y p hy hpi=>?_);rw[List.getElem?_map]at hy;cases hz:xs[i]? with
      |none=>rw[hz]at hy;cases hy
      |some z=>
       rw[hz]at hy
       simp only[Option.map_some,X_]at hy
       have hil:i<fs.size:=by rw[<- hxl];exact(G_.1 hz).1
       rw[<- hy];exact(h2 i p fs[i] hpi (by simp[hil])).2 z hz
     simp only[vV,hmap]
   |array k e=>
    simp only[B_]at hp
    have he:e∈L:=by simpa using hp.1
    have hke:=Nat.eq_of_beq_eq_true hp.2;unfold DataW.trod at h;rw[hu]at h
    simp only at h
    have hr:∃xs:List (DataW H × List MemPlace),x.1= .agg (xs.map (·.1))/\vs.length=P.cellsOf t/\(List.range k).mapM (fun i=>DataW.trod enc P W 0 (fun _=>true) held n e ((vs.drop (i*P.cellsOf e)).take (P.cellsOf e)))=some xs:=by
     split at h
     ·rename_i hl
      obtain⟨xs,h1,h2⟩:=Option.map_eq_some_iff.1 h;exact⟨xs,by rw[<- h2],hl,h1⟩
     ·cases h
    obtain⟨xs,hx,hlen,hmm⟩:=hr;obtain⟨h1,h2⟩:=yQ hmm;rw[List.length_range]at h1
    have hpart:∀j,j<=k-> ∃ps:List (List AV),ps.length=j/\ ∀(i:Nat) (p:List AV),ps[i]? =some p->CM (fun _=>False) W p ((vs.drop (i*P.cellsOf e)).take (P.cellsOf e))/\ ∀y:DataW H × List MemPlace,xs[i]? =some y->vV n y.1=some p:=by
     intro j
     induction j with
     |zero=>intro _;exact⟨[],rfl,fun i p h=>by simp at h⟩
     |succ j ihj=>
      intro hj;obtain⟨ps,h3,h4⟩:=ihj O_;obtain⟨y,h5,h6⟩:=h2 j j (List.getElem?_range O_);obtain⟨p,h7,h8⟩:=ih _ _ _ he h6;refine⟨ps++[p],by simp[h3],fun i q hq=>?_⟩
      by_cases hi:i<ps.length
      ·rw[List.getElem?_append_left hi]at hq;exact h4 i q hq
      ·have hil:=(G_.1 hq).1
       simp at hil
       have:i=j:=O_
       subst this;rw[g_ O_,h3,Nat.sub_self]at hq
       simp at hq
       subst hq;exact⟨h7,fun z hz=>by rw[h5]at hz;cases hz;exact h8⟩
    obtain⟨ps,h3,h4⟩:=hpart k (l_ _);refine⟨ps.flatten,Ez k vs ps (by rw[hlen,<- hke]) h3 (fun i p hp=>(h4 i p hp).1),?_⟩
    have hmap:iI (vV n) (xs.map (·.1))=some ps:=by
     refine qO (by simp[h3,<- h1]) (fun i y p hy hpi=>?_);rw[List.getElem?_map]at hy;cases hz:xs[i]? with
     |none=>rw[hz]at hy;cases hy
     |some z=>
      rw[hz]at hy
      simp only[Option.map_some,X_]at hy
      rw[<- hy];exact(h4 i p hpi).2 z hz
    rw[hx]
    simp only[vV,hmap]
   |_=>simp at hp
end
end
section
open Go.ChangeShapes Go.WideShapes Go.ChangeAt Go.RowKit Go.Joins
theorem gw {P:Program} {W:World} {name:String} {d:DataW Unit}:∀{laid:List (String × DataW Unit)} {ps:List MemPlace},DataW.LaidVars P W laid ps->(name,d)∈laid ->
 ∃g t cs fuel p,P.globalNamed name=some g/\(P.globals[g]?).map (·.type)=some t/\W.var? P name=some cs/\DataW.trod (fun _=>()) P W 0 (fun _=>true) false fuel t cs.toList=some (d,p)
 | [],_,_,h=>by cases h
 |(n,d')::rest,ps,h,hm=>by
  obtain⟨g,t,cs,fuel,p,q,h1,h2,h3,h4,h5,_⟩:=h;rcases f_.1 hm with e|e
  ·cases e
   exact⟨g,t,cs,fuel,p,h1,h2,h3,h4⟩
  ·exact gw h5 e
theorem Gd:Tryz.prog.cellsOf 169=1:=by kernel_rfl
theorem LT:Tryz.prog.globalNamed "internal/strconv.uint64pow10" =some 5:=by kernel_rfl
theorem LB:(Tryz.prog.globals[5]?).map (·.type)=some 247:=by kernel_rfl
theorem Nr:Tryz.prog.cellsOf 247=20:=by kernel_rfl
theorem qT {P:Program} {W:World} {laid:List (String × DataW Unit)} {ps:List MemPlace} (hv:DataW.LaidVars P W laid ps) {name:String} {d:DataW Unit} (hm:(name,d)∈laid) {g t:Nat} (hg:P.globalNamed name=some g) (ht:(P.globals[g]?).map (·.type)=some t)
 {L:List TypeId} (hL:pt P L=true) (htL:t∈L) {n:Nat} {cs:List AV} (hav:vV n d=some cs) {S:Nat->Prop} (hS:S=fun _=>False):TV.M S (fun _=>0) ⟨[],[]⟩ W (.rp cs) (.pointer (some ⟨g,0,none⟩)):=by
 subst hS;obtain⟨g',t',c0,fuel,p,h1,h2,h3,h4⟩:=gw hv hm;obtain rfl:=Option.some.inj (hg.symm.trans h1);obtain rfl:=Option.some.inj (ht.symm.trans h2);obtain⟨cs',hc,ha⟩:=Mu hL fuel _ _ _ htL h4;have e:=Dw _ _ _ _ _ ha hav;subst e;unfold World.var? at h3;rw[hg]at h3
 simp only[Option.bind_some]at h3
 split at h3
 ·rename_i c1 e1 f1 hb
  cases h3;refine⟨g,0,fun i=>c0.getD i undef,rfl,fun h=>h,(A_.1 hb).1,fun i a hi=>?_,fun i a hi=>?_⟩
  ·have hl:i<c0.size:=by have:=(G_.1 hi).1;rw[hc.1]at this;simpa using this
   rw[J_]
   simp[World.cell?,hb,hl]
  ·have hl:i<c0.size:=by have:=(G_.1 hi).1;rw[hc.1]at this;simpa using this
   exact hc.2 i a _ hi (by simp[hl])
 ·cases h3
theorem od {α:Type} {g:Nat} {c:α} {r:List (Nat × α)} {k:Nat} {x:α} (h:ap ((g,c)::r) k=some x):(g=k/\c=x)∨ap r k=some x:=by
 by_cases e:g=k
 ·subst e;rw[am]at h;exact .inl ⟨rfl,Option.some.inj h⟩
 ·rw[au _ _ e]at h;exact .inr h
theorem Ny:Tryz.prog.globalNamed "setsquare/unit.units" =some 4:=by kernel_rfl
theorem Lu:(Tryz.prog.globals[4]?).map (·.type)=some 243:=by kernel_rfl
theorem LG:pt Tryz.prog [243,244,9,2]=true:=by kernel_rfl
theorem Fv:Tryz.prog.globalNamed "setsquare/formula.symbols" =some 2:=by kernel_rfl
theorem Gq:(Tryz.prog.globals[2]?).map (·.type)=some 184:=by kernel_rfl
theorem F1:pt Tryz.prog [184,9]=true:=by kernel_rfl
theorem Bb:Tryz.prog.globalNamed "setsquare/formula.operands" =some 1:=by kernel_rfl
theorem Co:(Tryz.prog.globals[1]?).map (·.type)=some 171:=by kernel_rfl
theorem A8:pt Tryz.prog [171,3]=true:=by kernel_rfl
theorem M5:Tryz.prog.globalNamed "setsquare/constraint.table" =some 0:=by kernel_rfl
theorem MJ:(Tryz.prog.globals[0]?).map (·.type)=some 73:=by kernel_rfl
theorem MH:pt Tryz.prog [73,72,60,9,3,4]=true:=by kernel_rfl
theorem Bk {w w':World} (h:o0 w) (hb:Below w.heap.size w w'):o0 w':=by
 have key:∀(g:Nat) (v:Value),w.cell? ⟨g,0,none⟩=some v->w'.cell? ⟨g,0,none⟩=some v:=fun g v hv=>(hb.cell (show(⟨g,0,none⟩:Addr).block<w.heap.size from Lib.lt_of_cell hv)).trans hv
 obtain⟨⟨m,h1⟩,⟨e,h2,h3⟩,e',h4,h5⟩:=h;exact⟨⟨m,key _ _ h1⟩,⟨e,key _ _ h2,h3⟩,e',key _ _ h4,h5⟩
theorem M8 {laid:List (String × DataW Unit)} (hp:(laid.all fun x=>x.2.handleName?.isNone)=true) (hm:("internal/strconv.uint64pow10",Rows.laid_internal_strconv_uint64pow10)∈laid)
 (hm1:("setsquare/unit.units",Rows.laid_setsquare_unit_units)∈laid)
 (hm2:("setsquare/formula.symbols",Rows.laid_setsquare_formula_symbols)∈laid)
 (hm3:("setsquare/formula.operands",Rows.laid_setsquare_formula_operands)∈laid)
 (hm4:("setsquare/constraint.table",Rows.laid_setsquare_constraint_table)∈laid)
 {W:World}
 (hva:o0 W)
 (h:laidMetH Tryz.prog laid W):dU (fun _=>False) W:=by
 rw[MakeChecks.laidMetH_plain _ _ _ hp]at h;obtain⟨ps,hv,_⟩:=h;obtain⟨g,t,cs,fuel,p,h1,h2,h3,h4⟩:=gw hv hm;obtain rfl:=Option.some.inj (LT.symm.trans h1);obtain rfl:=Option.some.inj (LB.symm.trans h2);have hd:(Rows.laid_internal_strconv_uint64pow10:DataW Unit)=Lib.tabData .u64 Lib.pow10Tab:=rfl;rw[hd]at h4
 have ht:Lib.TabIs Tryz.prog W "internal/strconv.uint64pow10" .u64 Lib.pow10Tab:=by
  unfold Lib.TabIs;rw[h3,<- Lib.cells_of_tab underlying247 underlying169 Gd Nr h4]
 refine⟨fun w' hb=>⟨Lib.tabBelow_of_tabIs ht w' hb,Bk hva hb⟩,fun _ h=>h.elim,fun k cs h=>?_⟩;unfold GT at h;rcases od h with⟨rfl,rfl⟩|h
 ·exact qT hv hm1 Ny Lu LG S_ (n:=4) rfl rfl
 rcases od h with⟨rfl,rfl⟩|h
 ·exact qT hv hm2 Fv Gq F1 S_ (n:=4) rfl rfl
 rcases od h with⟨rfl,rfl⟩|h
 ·exact qT hv hm4 M5 MJ MH S_ (n:=5) rfl rfl
 rcases od h with⟨rfl,rfl⟩|h
 ·exact qT hv hm3 Bb Co A8 S_ (n:=4) rfl rfl
 cases h
end
def pw:Rat->Nat->Rat
 |q,0=>q
 |q,k+1=>pw q k*((10:Int):Rat)
theorem wR {n:Int} (h:n.natAbs<4294967296):b8 1 (n:Rat):=⟨Sz.small h,Sz.small (z:=1) D_⟩
theorem Kj {q:Rat} {n:Nat} (h:b8 n q):∀k,b8 (n+k) (pw q k)
 |0=>h
 |k+1=>by
  have:=b8.mul (Kj h k) (wR (n:=10) D_)
  rwa[Nat.add_assoc]at this
def uo (k:Nat) (t:List UInt8):List UInt8:=List.replicate (k+1-t.length) 48++t
def lE (k:Nat) (t:List UInt8):List UInt8:=if 0<k then(uo k t).take ((uo k t).length-k)++[46]++(uo k t).drop ((uo k t).length-k)else uo k t
def lK (q:Rat):Nat->Nat->Option (List UInt8)
 |0,_=>none
 |n+1,k=>if((pw q k).den:Int)=1 then(if(lE k (fmt (pw q k).num)).length<=40 then some (lE k (fmt (pw q k).num))else none)else lK q n (k+1)
def gg (q:Rat):Option (List UInt8):=if KQ q<0 then none else lK q 41 0
def mw (na:Bool) (xs:List Nat) (nb:Bool) (ys:List Nat):Option (List UInt8):=if fQ na xs nb ys then gg (Rat.divInt (bI na xs) (bI nb ys))else none
theorem qa (q:Rat):∀n k,∃K,k<=K/\K<=k+n/\(∀j,k<=j->j<K-> ¬((pw q j).den:Int)=1)/\((K=k+n/\lK q n k=none)∨(K<k+n/\((pw q K).den:Int)=1/\lK q n k=if(lE K (fmt (pw q K).num)).length<=40 then some (lE K (fmt (pw q K).num))else none))
 |0,k=>⟨k,l_ _,l_ _,fun j h1 h2=>by omega, .inl ⟨rfl,rfl⟩⟩
 |n+1,k=>by
  by_cases h:((pw q k).den:Int)=1
  ·exact⟨k,l_ _,by omega,fun j h1 h2=>by omega, .inr ⟨by omega,h,by rw[lK,if_pos h]⟩⟩
  ·obtain⟨K,h1,h2,h3,h4⟩:=qa q n (k+1)
   refine⟨K,by omega,by omega,fun j hj hj2=>?_,?_⟩
   ·by_cases e:j=k
    ·subst e;exact h
    ·exact h3 j O_ hj2
   ·rw[lK,if_neg h]
    exact NU
theorem rj {q:Rat} (h:¬KQ q<0):∃K,K<=41/\(∀j,j<K-> ¬((pw q j).den:Int)=1)/\((K=41/\gg q=none)∨(K<=40/\((pw q K).den:Int)=1/\gg q=if(lE K (fmt (pw q K).num)).length<=40 then some (lE K (fmt (pw q K).num))else none)):=by
 obtain⟨K,h1,h2,h3,h4⟩:=qa q 41 0;refine⟨K,by omega,fun j hj=>h3 j (Nat.zero_le _) hj,?_⟩;rw[gg,if_neg h];exact NU
theorem Jb (k:Nat) (t:List UInt8):(uo k t).length=max (k+1) t.length:=by
 unfold uo
 simp
 omega
theorem Kf (k:Nat) (t:List UInt8) (h:0<k):(lE k t).length=max (k+1) t.length+1:=by
 have:=Jb k t;unfold lE;rw[if_pos h]
 simp only[L_,U_,n_,List.length_cons,List.length_nil]
 omega
theorem zH {q:Rat} {n:Nat} (sq:b8 n q) (hn:n<=900):∃t,aa Tryz.prog 111 [dQ q] (.tup [dL t,dB (gg q).isSome])/\ ∀u,gg q=some u->t=u:=by
 have cv:aa Tryz.prog 155 [dQ q] (.one (dB true)):=wZ q sq O_
 by_cases hneg:KQ q<0
 ·have h0:gg q=none:=by rw[gg,if_pos hneg]
  refine⟨[],?_,fun u h=>by rw[h0]at h;cases h⟩;rw[h0];refine kU func111 ?_;refine vH ?_;refine kC (mn q) ?_;refine kB true ?_ ?_
  ·exact T_ hneg
  exact aj
 ·obtain⟨K,k1,k2,k3⟩:=rj hneg
  have main:∀t b,(K=41->t=[]/\b=false)->(K<=40->t=lE K (fmt (pw q K).num)/\b=decide (t.length<=40))->aa Tryz.prog 111 [dQ q] (.tup [dL t,dB b]):=by
   intro t b g1 g2;refine kU func111 ?_;refine vH ?_;refine kC (mn q) ?_;refine kB false ?_ ?_
   ·exact F_ hneg
   refine O4 ?_;refine ac (ej 1 D_ D_) rfl rfl rfl rfl rfl rfl rfl ?_;refine kW ?_
   refine aq Nat (fun k=>k<=K) (fun k=>⟨[(1, .box 0 0),(2, .d (dL [])),(3, .d (dB false)),(4, .box 3001 0),(5, .box 4001 0),(6, .box 5001 0),(7, .d (dN .i64 k))],[(0,some (aQ q)),(3001,some (aQ ((10:Int):Rat))),(4001,some (aZ 1)),(5001,some (aQ (pw q k)))]⟩) (fun k=>41-k) 0 (Nat.zero_le _)
    kw ?_
   intro k hk;have sk:=Kj sq k;refine kI ?_;refine kO ?_
   by_cases h40:k<=40
   ·refine kT ?_
    refine kW ?_;have hcs:=Ld (pw q k).den 1
    by_cases hd1:((pw q k).den:Int)=1
    ·have hkK:k=K:=by
      rcases Nat.lt_or_ge k K with h|h
      ·exact absurd hd1 (k2 k h)
      ·omega
     rw[T_ hd1]at hcs;obtain⟨rfl,rfl⟩:=g2 O_;subst hkK;refine kQ (hcs) ?_;have hlen:(fmt (pw q k).num).length<=10*(n+k)+2:=C0 sk.1;refine ac (uL (db.of_lt sk.1 O_)) rfl rfl rfl rfl rfl rfl rfl ?_;unfold lE uo;generalize fmt (pw q k).num=u at *;refine kW ?_
     refine aq Nat (fun j=>j<=k+1-u.length) (fun j=>⟨[(2, .d (dL [])),(3, .d (dB false)),(7, .d (dN .i64 k)),(8, .d (dL (List.replicate j 48++u)))],[]⟩) (fun j=>k+1-u.length-j) 0 (Nat.zero_le _)
      kw ?_
     intro j hj;have hB:(Bs (List.replicate j 48++u)).size=j+u.length:=by rw[aJ];simp
     refine kI ?_
     refine kO3 ?_
     by_cases hjk:j+u.length<=k
     ·refine kT ?_
      refine kW ?_;refine ax rfl rfl rfl rfl rfl rfl rfl (dG (a:=[48]) (b:=List.replicate j 48++u) (by simp;omega)) ?_;refine kW ?_;exact⟨j+1,by omega,by omega,weak ⟨rfl,rfl,rfl,rfl,trivial⟩ trivial rfl⟩
     ·refine kE ?_
      obtain rfl:j=k+1-u.length:=O_
      have hwl:(List.replicate (k+1-u.length) 48++u).length=k+1-u.length+u.length:=S_
      generalize hwd:List.replicate (k+1-u.length) 48++u=w at *;refine jP ?_;refine kI ?_;refine kO ?_
      by_cases hk0:0<k
      ·rw[if_pos hk0]
       refine IP ?_;refine nt ?_;refine U4 ?_;generalize hz:w.take (w.length-k)++[46]++w.drop (w.length-k)=z;have hzB:=aJ z;refine jU ?_;refine cU (v':= .bool (decide (z.length<=40))) rfl rfl rfl rfl ?_ ?_
       ·exact IV
       exact aj
      ·rw[if_neg hk0]
       refine kE ?_;refine kN ?_;refine bu (T:=TT) ?_;refine dX (T:=TT) rfl ?_;refine kI ?_
       refine kO3 ?_
       refine cU (v':= .bool (decide (w.length<=40))) rfl rfl rfl rfl ?_ ?_
       ·exact IV
       exact aj
    ·rw[F_ hd1]at hcs
     refine kQ (hcs) ?_;refine ac (lj sk (wR (n:=10) D_) O_ (q:=pw q (k+1)) rfl) rfl rfl rfl rfl rfl rfl rfl ?_;refine kW ?_
     exact⟨k+1,by
      rcases Nat.lt_or_ge k K with h|h
      ·exact h
      ·obtain rfl:k=K:=O_
       rcases k3 with⟨e,_⟩| ⟨_,k3,_⟩
       ·omega
       ·exact absurd k3 hd1,by omega,weak ⟨rfl,rfl,rfl,rfl,rfl,rfl,ai O_ O_,trivial⟩ ⟨rfl,rfl,rfl,rfl,trivial⟩ rfl⟩
   ·refine kE ?_
    obtain⟨rfl,rfl⟩:=g1 O_;exact aj
  rcases k3 with⟨e,h0⟩| ⟨e,h1,h2⟩
  ·exact Le
  ·exact OY
abbrev oi:=Except (Nat × Int) (Ex × List Tk)
inductive Md where
 |sum
 |prod
 |un
 |prim
 |more (two:Bool) (e:Ex)
def E8:Bool->List UInt8->Option B4
 |false,[c]=>if c=43 then some .add else if c=45 then some .sub else none
 |true,[c]=>if c=42 then some .mul else if c=47 then some .div else none
 |_,_=>none
def i7 (two:Bool):List Tk->Option (B4 × List Tk)
 |t::r=>if t.1=4 then(match E8 two t.2.1 with|some k=>some (k,r)|none=>none)else none
 | []=>none
def dD (c:UInt8):List Tk->Option (List Tk)
 |t::r=>if t.1=4/\t.2.1=[c]then some r else none
 | []=>none
def Ip:List Tk->Nat
 |t::_=>t.2.2
 | []=>0
noncomputable def iy (t:Tk) (r:List Tk):oi:=match ge t.2.1 with
 |none=> .error (t.2.2,2)
 |some q=>match gg q with
  |none=> .error (t.2.2,3)
  |some _=>match r with
   |u::r'=>if u.1=1 then .ok (.num q u.2.1,r')else .ok (.num q [],r)
   | []=> .ok (.num q [],r)
def jh:Bool->Md
 |false=> .prod
 |true=> .un
noncomputable def pP:Nat->Md->List Tk->Option oi
 |0,_,_=>none
 |f+1, .sum,ts=>match pP f .prod ts with
  |some (.ok (e,r))=>pP f (.more false e) r
  |x=>x
 |f+1, .prod,ts=>match pP f .un ts with
  |some (.ok (e,r))=>pP f (.more true e) r
  |x=>x
 |f+1, .more two e,ts=>match i7 two ts with
  |some (k,r)=>match pP f (jh two) r with
   |some (.ok (e2,r2))=>pP f (.more two (.bin k e e2)) r2
   |x=>x
  |none=>some (.ok (e,ts))
 |f+1, .un,ts=>match dD 45 ts with
  |some r=>match pP f .un r with
   |some (.ok (e,r2))=>some (.ok (.neg e,r2))
   |x=>x
  |none=>pP f .prim ts
 |f+1, .prim,ts=>match dD 40 ts with
  |some r=>match pP f .sum r with
   |some (.ok (e,r2))=>match dD 41 r2 with
    |some r3=>some (.ok (e,r3))
    |none=>some (.error (Ip r2,2))
   |x=>x
  |none=>match ts with
   |t::r=>if t.1=2 then some (iy t r)else if t.1=1 then some (.ok (.nam t.2.1,r))else some (.error (t.2.2,2))
   | []=>some (.error (0,2))
theorem je (f:Nat) (ts:List Tk):pP (f+1) .sum ts=match pP f .prod ts with
 |some (.ok (e,r))=>pP f (.more false e) r
 |x=>x:=rfl
theorem gr (f:Nat) (ts:List Tk):pP (f+1) .prod ts=match pP f .un ts with
 |some (.ok (e,r))=>pP f (.more true e) r
 |x=>x:=rfl
theorem fo (f:Nat) (two:Bool) (e:Ex) (ts:List Tk):pP (f+1) (.more two e) ts=match i7 two ts with
 |some (k,r)=>match pP f (jh two) r with
  |some (.ok (e2,r2))=>pP f (.more two (.bin k e e2)) r2
  |x=>x
 |none=>some (.ok (e,ts)):=rfl
theorem mU (f:Nat) (ts:List Tk):pP (f+1) .un ts=match dD 45 ts with
 |some r=>match pP f .un r with
  |some (.ok (e,r2))=>some (.ok (.neg e,r2))
  |x=>x
 |none=>pP f .prim ts:=rfl
theorem gt (f:Nat) (ts:List Tk):pP (f+1) .prim ts=match dD 40 ts with
 |some r=>match pP f .sum r with
  |some (.ok (e,r2))=>match dD 41 r2 with
   |some r3=>some (.ok (e,r3))
   |none=>some (.error (Ip r2,2))
  |x=>x
 |none=>match ts with
  |t::r=>if t.1=2 then some (iy t r)else if t.1=1 then some (.ok (.nam t.2.1,r))else some (.error (t.2.2,2))
  | []=>some (.error (0,2)):=rfl
theorem rl {two:Bool} {ts r:List Tk} {k:B4} (h:i7 two ts=some (k,r)):r.length<ts.length:=by
 cases ts with
 |nil=>cases h
 |cons t r'=>
  simp only[i7]at h
  split at h
  ·split at h
   ·cases h;simp
   ·cases h
  ·cases h
theorem eZ {c:UInt8} {ts r:List Tk} (h:dD c ts=some r):r.length<ts.length:=by
 cases ts with
 |nil=>cases h
 |cons t r'=>
  simp only[dD]at h
  split at h
  ·cases h;simp
  ·cases h
theorem Au {t:Tk} {r r2:List Tk} {e:Ex} (h:iy t r= .ok (e,r2)):r2.length<=r.length:=by
 unfold iy at h
 split at h
 ·cases h
 ·split at h
  ·cases h
  ·split at h
   ·split at h
    ·cases h;simp
    ·cases h;exact l_ _
   ·cases h;exact l_ _
theorem ls:∀(f:Nat) (m:Md) (ts:List Tk) (x:oi),pP f m ts=some x->pP (f+1) m ts=some x
 |0,_,_,_,h=>by cases h
 |f+1, .sum,ts,x,h=>by
  rw[je]at h ⊢;cases h1:pP f .prod ts with
  |none=>rw[h1]at h;cases h
  |some y=>
   exact IA
 |f+1, .prod,ts,x,h=>by
  rw[gr]at h ⊢;cases h1:pP f .un ts with
  |none=>rw[h1]at h;cases h
  |some y=>
   exact IA
 |f+1, .more two e,ts,x,h=>by
  rw[fo]at h ⊢;cases h0:i7 two ts with
  |none=>rw[h0]at h;exact h
  |some p=>
   obtain⟨k,r⟩:=p;rw[h0]at h;dsimp only at h ⊢;cases h1:pP f (jh two) r with
   |none=>rw[h1]at h;cases h
   |some y=>
    exact IA
 |f+1, .un,ts,x,h=>by
  rw[mU]at h ⊢;cases h0:dD 45 ts with
  |none=>rw[h0]at h;exact ls f _ _ _ h
  |some r=>
   rw[h0]at h;dsimp only at h ⊢;cases h1:pP f .un r with
   |none=>rw[h1]at h;cases h
   |some y=>
    rw[h1]at h;rw[ls f _ _ _ h1];exact h
 |f+1, .prim,ts,x,h=>by
  rw[gt]at h ⊢;cases h0:dD 40 ts with
  |none=>rw[h0]at h;exact h
  |some r=>
   rw[h0]at h;dsimp only at h ⊢;cases h1:pP f .sum r with
   |none=>rw[h1]at h;cases h
   |some y=>
    rw[h1]at h;rw[ls f _ _ _ h1];exact h
theorem K6 {f f':Nat} (hf:f<=f') {m:Md} {ts:List Tk} {x:oi} (h:pP f m ts=some x):pP f' m ts=some x:=by
 induction hf with
 |refl=>exact h
 |step _ ih=>exact ls _ _ _ _ ih
theorem gM:∀(f:Nat) (m:Md) (ts:List Tk) (e:Ex) (r:List Tk),pP f m ts=some (.ok (e,r))->r.length<=ts.length/\((∀two x,m≠ .more two x)->r.length<ts.length)
 |0,_,_,_,_,h=>by cases h
 |f+1, .sum,ts,e,r,h=>by
  rw[je]at h
  split at h
  ·rename_i e1 r1 h1
   exact PR
  ·exact nI
 |f+1, .prod,ts,e,r,h=>by
  rw[gr]at h
  split at h
  ·rename_i e1 r1 h1
   exact PR
  ·exact nI
 |f+1, .more two e0,ts,e,r,h=>by
  rw[fo]at h;refine⟨?_,fun hm=>absurd rfl (hm two e0)⟩
  split at h
  ·rename_i k r1 h0
   have hl:=rl h0
   split at h
   ·rename_i e1 r2 h1
    have a:=(gM f _ _ _ _ h1).1;have b:=(gM f _ _ _ _ h).1;omega
   ·exact nI
  ·cases h;exact l_ _
 |f+1, .un,ts,e,r,h=>by
  rw[mU]at h
  split at h
  ·rename_i r1 h0
   have hl:=eZ h0
   split at h
   ·rename_i e1 r2 h1
    have a:=(gM f _ _ _ _ h1).1;cases h;exact⟨by omega,fun _=>by omega⟩
   ·exact nI
  ·exact⟨(gM f _ _ _ _ h).1,fun _=>(gM f _ _ _ _ h).2 (fun _ _ h=>by cases h)⟩
 |f+1, .prim,ts,e,r,h=>by
  rw[gt]at h
  split at h
  ·rename_i r1 h0
   have hl:=eZ h0
   split at h
   ·rename_i e1 r2 h1
    have a:=(gM f _ _ _ _ h1).1
    split at h
    ·rename_i r3 h2
     have b:=eZ h2;cases h;exact⟨by omega,fun _=>by omega⟩
    ·cases h
   ·exact nI
  ·split at h
   ·rename_i t r1 _
    split at h
    ·injection h with h
     have:=Au h;exact⟨by simp;omega,fun _=>by simp;omega⟩
    ·split at h
     ·cases h;exact⟨by simp,fun _=>by simp⟩
     ·cases h
   ·cases h
def rk:Md->Nat
 | .sum=>4
 | .prod=>3
 | .un=>2
 | .prim=>1
 | .more _ _=>0
theorem Se:∀(n:Nat) (m:Md) (ts:List Tk),5*ts.length+rk m+1<=n-> ∃x,pP n m ts=some x:=by
 intro n
 induction n using Nat.strongRecOn with
 |_ n ih=>
  intro m ts hn;cases n with
  |zero=>omega
  |succ f=>
   cases m with
   |sum=>
    obtain⟨y,hy⟩:=ih f O_ .prod ts (by simp only[rk]at hn ⊢;omega);rw[je,hy];cases y with
    |error e=>exact⟨_,rfl⟩
    |ok y=>
     obtain⟨e,r⟩:=y;have:=(gM f _ _ _ _ hy).1;exact ih f O_ (.more false e) r (by simp only[rk]at hn ⊢;omega)
   |prod=>
    obtain⟨y,hy⟩:=ih f O_ .un ts (by simp only[rk]at hn ⊢;omega);rw[gr,hy];cases y with
    |error e=>exact⟨_,rfl⟩
    |ok y=>
     obtain⟨e,r⟩:=y;have:=(gM f _ _ _ _ hy).1;exact ih f O_ (.more true e) r (by simp only[rk]at hn ⊢;omega)
   |un=>
    rw[mU];cases h0:dD 45 ts with
    |none=>exact ih f O_ .prim ts (by simp only[rk]at hn ⊢;omega)
    |some r=>
     have hl:=eZ h0;obtain⟨y,hy⟩:=ih f O_ .un r (by simp only[rk]at hn ⊢;omega);dsimp only;rw[hy];cases y with
     |error e=>exact⟨_,rfl⟩
     |ok y=>exact⟨_,rfl⟩
   |prim=>
    rw[gt];cases h0:dD 40 ts with
    |none=>
     cases ts with
     |nil=>exact⟨_,rfl⟩
     |cons t r=>
      dsimp only
      split
      ·exact⟨_,rfl⟩
      ·split
       ·exact⟨_,rfl⟩
       ·exact⟨_,rfl⟩
    |some r=>
     have hl:=eZ h0;obtain⟨y,hy⟩:=ih f O_ .sum r (by simp only[rk]at hn ⊢;omega);dsimp only;rw[hy];cases y with
     |error e=>exact⟨_,rfl⟩
     |ok y=>
      obtain⟨e,r2⟩:=y;dsimp only
      split
      ·exact⟨_,rfl⟩
      ·exact⟨_,rfl⟩
   |more two e0=>
    rw[fo];cases h0:i7 two ts with
    |none=>exact⟨_,rfl⟩
    |some p=>
     obtain⟨k,r⟩:=p;have hl:=rl h0;dsimp only;obtain⟨y,hy⟩:=ih f O_ (jh two) r (by cases two<;>(simp only[jh,rk]at hn ⊢;omega));rw[hy];cases y with
     |error e=>exact⟨_,rfl⟩
     |ok y=>
      obtain⟨e,r2⟩:=y;have h2:r2.length<r.length:=(gM f _ _ _ _ hy).2 (by cases two<;>(intro _ _ h;cases h))
      exact ih f O_ (.more two (.bin k e0 e)) r2 (by simp only[rk]at hn ⊢;omega)
section
variable {P:Program} {T:TypeId->Option Ty} {n:Nat} {ops:Array Oper} {id:Nat} {draw:Bool} {K:AS->Prop} {s:AS} {k:Nat} {o:Oper} {os:List Oper} {fps:List FP}
theorem Qe (hT:∀t d,T t=some d->a8 P t d) {t:TypeId} {ty:Ty} {x y:Operand} {et q m i:Nat} {ik:IntKind} {cs:List AV} (hcs:cs.length<=m*q) (hi:i<=m) (h1:gd ops s o=some true) (h2:o.op= .slice t x (some y) none none) (h5:T t=some ty) (h6:ty.elem=some (et,q)) (h7:s.ev x= .d (.leaf (.sl m cs))) (h8:s.ev y= .d (.leaf (.val (.int ik (i:Nat)))))
 (h3:aL n o.dst=true) (h4:fg draw ops (aA ops o ⟨.d (.leaf (.sl (m-i) (cs.drop (i*q)))),none⟩ []) k fps=true) (h:ar P T n ops id draw K (k+1) os (s.eff o.dst ⟨.d (.leaf (.sl (m-i) (cs.drop (i*q)))),none⟩) (aA ops o ⟨.d (.leaf (.sl (m-i) (cs.drop (i*q)))),none⟩ []::fps)):ar P T n ops id draw K k (o::os) s fps:=by
 refine .run h1 (.gen fun s2 ht _=>?_) h3 h4 h;have hx:=(aw ht (x:=x) (by simp[h2,Op.operands])).trans h7;have hy:=(aw ht (x:=y) (by simp[h2,Op.operands])).trans h8;obtain⟨u,hu,_,hel,_⟩:=(hT _ _ h5).und;obtain⟨rfl,hks⟩:=hel et q h6;refine ak fun n S0 w0 g a w hM=>?_
 have hm:=hM.ev x;rw[hx]at hm;have hm:AV.M (Own S0 g s2) w (.sl m cs) (a.eval x):=hm;have hiv:=a7 hM hy
 have key:∃v,(Instr.sliceAt t (a.eval x) (some (.int ik (i:Nat))) none none).run P w= .ok v w/\AV.M (Own S0 g s2) w (.sl (m-i) (cs.drop (i*q))) v:=by
  generalize a.eval x=v at hm;have hib:(0:Int)<=(i:Int)/\(i:Int)<=(m:Nat):=⟨by omega,by omega⟩
  have run:∀(A:Option Addr) (c:Nat),(Instr.sliceAt t (.slice A m c) (some (.int ik (i:Nat))) none none).run P w= .ok (.slice (if c=i then A else A.map (·.add (i*q))) (m-i) (c-i)) w:=fun A c=>by
   refine ET ?_;unfold Instr.slice
   simp only[Y_,run_underlying hu w,R_,Instr.sliceBounds,Instr.sliceBound,a_,asIntOf]
   rw[if_pos hib]
   simp only[a_,R_,Int.toNat_natCast]
   rw[bJ hks w];rfl
  cases hm with
  |emp e1 e2 e3=>
   rename_i A c
   refine⟨_,run A c,?_⟩;rw[List.drop_nil];refine .emp O_ O_ (fun hA=>?_)
   split at hA
   ·rename_i hci;omega
   ·have:A=none:=by cases A<;>simp_all
    have:=e3 this;omega
  |sl f e1 e2 e3 e4 e5 e6=>
   rename_i b off c
   refine⟨_,run _ c,?_⟩
   by_cases hci:c=i
   ·rw[if_pos hci]
    have hd:cs.drop (i*q)=[]:=List.drop_eq_nil_of_le (by rw[show i=m by omega];exact hcs);rw[hd];exact .emp O_ O_ (fun h=>by cases h)
   ·rw[if_neg hci]
    show AV.M _ _ _ (.slice (some ((⟨b,off,none⟩:Addr).add (i*q))) (m-i) (c-i));rw[b7];refine .sl (fun j=>f (i*q+j)) O_ O_ e3 e4 (fun j x hj=>?_) (fun j x hj=>?_)
    ·rw[List.getElem?_drop]at hj
     rw[Nat.add_assoc];exact e5 _ _ hj
    ·rw[List.getElem?_drop]at hj
     exact e6 _ _ hj
 obtain⟨v,hr,hv⟩:=key;refine⟨v,w,?_,Below.refl _ _,hv⟩;unfold execOp;rw[h2]
 simp only[hiv,Option.map_some,Option.map_none,Y_,hr,R_]
 rfl
theorem px {w:World} {t kt et:TypeId} {r:Nat} {es:Array MapEntry} {clk:Nat} {key:ByteArray} {v:Value} (hm:P.underlying t=some (.map kt et)) (hk:P.underlying kt=some .string) (hb:w.heap[r]? =some (.map es clk)) (hf:Instr.findNow .string (.string key) es.toList 0=some none):
 (Instr.mapUpdate t (.map (some r)) (.string key) v).run P w= .ok () { w with heap:=w.heap.setIfInBounds r (.map (es.push { key:= .string key,val:=v,born:=clk }) (clk+1)) }:=by
 have hc:(Instr.checkKey false 10000 kt (.string key)).run P w= .ok () w:=MapKept.run_checkKey hk (by simp[MapKept.IsKey]) false 9999
 simp[Instr.mapUpdate,run_underlying hm,MapKept.run_getObj_map hb,hc,MapKept.run_findKey hk hf,MapKept.run_setObj_map _ hb,Result.andThen]
theorem R3 {o1 o2 o3:Oper} {d:Nat} {t kt et:TypeId} {k1 k2:ByteArray} {v1 v2:Value} (hm:P.underlying t=some (.map kt et)) (hk:P.underlying kt=some .string) (h0:draw=false) (h1:o1.op= .makeMap t none) (h2:o2.op= .insert t (.tmp d) (.const (.string k1)) (.const v1)) (h3:o3.op= .insert t (.tmp d) (.const (.string k2)) (.const v2)) (hd:o1.dst=some d) (hg:o1.guard=none/\o2.guard=none/\o3.guard=none) (hd2:o2.dst=none) (hd3:o3.dst=none) (hdn:aL n o1.dst=true) (hne:(k2 == k1)=false)
 (h:ar P T n ops id draw K (k+3) os ⟨(d, .mp [(.string k1,v1),(.string k2,v2)])::s.t,s.b⟩ fps):ar P T n ops id draw K k (o1::o2::o3::os) s fps:=by
 refine .snd3 h0 hg (fun S0 w0 g a w K' Q hM hK=>?_) h;have hdl:d<n:=ee hdn d hd
 generalize hr:w.heap.size=r
 have hev:((a.put (some d) (.map (some r))).eval (.tmp d))= .map (some r):=by
  have:d<a.tmps.size:=by rw[hM.sz];exact hdl
  simp[Act.eval,Act.put,this]
 have b1:(w.alloc (.map #[] 0)).heap[r]? =some (.map #[] 0):=by rw[<- hr];exact heap_alloc_new w _
 have r1:=px (P:=P) (w:=w.alloc (.map #[] 0)) (key:=k1) (v:=v1) hm hk b1 rfl;generalize he1:({ key:= .string k1,val:=v1,born:=0 }:MapEntry)=e1 at r1;have hk1:e1.key= .string k1:=by rw[<- he1]
 have hv1:e1.val=v1:=by rw[<- he1]
 generalize hw2:({ (w.alloc (.map #[] 0))with heap:=(w.alloc (.map #[] 0)).heap.setIfInBounds r (.map (#[].push e1) (0+1)) }:World)=w2 at r1
 have b2:w2.heap[r]? =some (.map #[e1] 1):=by
  rw[<- hw2];have:r<(w.alloc (.map #[] 0)).heap.size:=(A_.1 b1).1
  show(Array.setIfInBounds _ r _)[r]? =_;rw[Array.getElem?_setIfInBounds,if_pos rfl,if_pos this];rfl
 have r2:=px (P:=P) (w:=w2) (key:=k2) (v:=v2) hm hk b2 (by simp[Instr.findNow,Instr.sameNow,hk1,hne]);generalize he2:({ key:= .string k2,val:=v2,born:=1 }:MapEntry)=e2 at r2;have hk2:e2.key= .string k2:=by rw[<- he2]
 have hv2:e2.val=v2:=by rw[<- he2]
 have hfin:({ w2 with heap:=w2.heap.setIfInBounds r (.map (#[e1].push e2) (1+1)) }:World)=w.alloc (.map #[e1,e2] 2):=by
  have hA:∀o:Obj,w.alloc o={ w with heap:=w.heap.push o }:=fun _=>rfl
  rw[<- hw2,<- hr,hA,hA];show({ w with heap:=Array.setIfInBounds (Array.setIfInBounds (w.heap.push _) w.heap.size _) w.heap.size _ }:World)={ w with heap:=w.heap.push _ }
  congr 1
  apply Array.ext_getElem?
  intro i
  simp only[Array.getElem?_setIfInBounds,Array.getElem?_push,Array.size_setIfInBounds,Array.size_push]
  by_cases hi:i=w.heap.size
  ·subst hi;simp
  ·have:¬w.heap.size=i:=fun e=>hi e.symm
   simp[this,hi]
 have q1:(execOp a.eval o1).run P w= .ok (.value (.map (some r))) (w.alloc (.map #[] 0)):=by
  unfold execOp;rw[h1,<- hr];rfl
 generalize ha1:a.put (some d) (.map (some r))=a1 at hev;have hev:a1.tmps.getD d Go.undef= .map (some r):=hev
 have q2:(execOp a1.eval o2).run P (w.alloc (.map #[] 0))= .ok .skip w2:=by
  unfold execOp;rw[h2]
  simp only[Act.eval,hev,Y_,r1,R_,a_]
 have q3:(execOp a1.eval o3).run P w2= .ok .skip (w.alloc (.map #[e1,e2] 2)):=by
  unfold execOp;rw[h3]
  simp only[Act.eval,hev,Y_,r2,hfin,R_,a_]
 have fin:MG n S0 w0 g ⟨(d, .mp [(.string k1,v1),(.string k2,v2)])::s.t,s.b⟩ a1 (w.alloc (.map #[e1,e2] 2)):=by
  rw[<- ha1];refine hM.put hdl ((Below.refl _ _).alloc (l_ _) _) ⟨r,#[e1,e2],2,rfl,by rw[<- hr];exact heap_alloc_new w _,fun hS=>?_,by simp[hk1,hv1,hk2,hv2]⟩;have:=hM.own_lt hS;omega
 unfold Oper.wp;rw[q1,Oper.upon_value,hd,ha1];show o2.upon P a1 _ Q ((execOp a1.eval o2).run P (w.alloc (.map #[] 0)));rw[q2,Oper.upon_skip,hd2];show o3.upon P a1 _ Q ((execOp a1.eval o3).run P w2);rw[q3,Oper.upon_skip,hd3];exact hK g _ _ fin
def Un (k:ByteArray):List (Value × Value)->Option Value
 | []=>none
 |(.string a,v)::r=>match k == a with
  |true=>some v
  |false=>Un k r
 |_::_=>none
theorem py {k:ByteArray} {v:Value}:∀(l:List MapEntry) (i:Nat),Un k (l.map fun e=>(e.key,e.val))=some v-> ∃j,Instr.findNow .string (.string k) l i=some (some (j,v))
 | [],_,h=>by cases h
 |e::r,i,h=>by
  simp only[List.map_cons]at h
  cases hk:e.key<;>rw[hk]at h<;>try(cases h)
  rename_i a
  simp only[Un]at h
  simp only[Instr.findNow,hk,Instr.sameNow]
  cases hb:k == a
  ·rw[hb]at h
   exact py r (i+1) h
  ·rw[hb]at h
   cases h;exact⟨i,rfl⟩
theorem IN {t kt et:TypeId} {x y:Operand} {es:List (Value × Value)} {key:ByteArray} {v:Value} (hm:P.underlying t=some (.map kt et)) (hk:P.underlying kt=some .string) (hl:Un key es=some v) (hp:v.oneCell'=true) (h1:gd ops s o=some true) (h2:o.op= .lookup t x y false) (h7:s.ev x= .mp es) (h8:s.ev y= .d (.leaf (.val (.string key))))
 (h3:aL n o.dst=true) (h4:fg draw ops (aA ops o ⟨.d (.leaf (.val v)),none⟩ []) k fps=true) (h:ar P T n ops id draw K (k+1) os (s.eff o.dst ⟨.d (.leaf (.val v)),none⟩) (aA ops o ⟨.d (.leaf (.val v)),none⟩ []::fps)):ar P T n ops id draw K k (o::os) s fps:=by
 refine .run h1 (.gen fun s2 ht _=>?_) h3 h4 h;have hx:=(aw ht (x:=x) (by simp[h2,Op.operands])).trans h7;have hy:=(aw ht (x:=y) (by simp[h2,Op.operands])).trans h8;refine ak fun n S0 w0 g a w hM=>⟨v,w,?_,Below.refl _ _,AV.M.val hp⟩
 have hmx:=hM.ev x;rw[hx]at hmx;obtain⟨r,ents,clk,e1,e2,_,e4⟩:=hmx;obtain⟨j,hj⟩:=py ents.toList 0 (by rw[e4];exact hl);have hc:(Instr.checkKey ents.isEmpty 10000 kt (.string key)).run P w= .ok () w:=MapKept.run_checkKey hk (by simp[MapKept.IsKey]) _ 9999;unfold execOp;rw[h2]
 simp[e1,a7 hM hy,Instr.lookup,run_underlying hm,MapKept.run_getObj_map e2,hc,MapKept.run_findKey hk hj,Result.andThen]
def V1 (s:AS):Bool:=pf (s.tv DK)
theorem C6 {f:Operand} {fid:FuncId} {args:Array Operand} {ts:Array TypeId} {cs:List CV} (h0:draw=false) (h1:gd ops s o=some true) (ho:o.op= .defer ⟨.value f,args,ts⟩) (hdst:o.dst=none) (hf:s.ev f= .d (.leaf (.val (.func (.func fid) #[] #[])))) (ha:nJ s args.toList=some cs) (hd:V1 s=true)
 (h:ar P T n ops id draw K (k+1) os ⟨(DK, .dfr fid cs)::s.t,s.b⟩ (aA ops o ⟨.junk,none⟩ []::fps)):ar P T n ops id draw K k (o::os) s fps:=by
 refine .snd h0 h1 (fun S0 w0 g a w K' Q hM hK=>?_) h;have hv:=a7 hM hf;have hc:=mO hM ha;have e:(List.map a.eval args.toList).toArray=args.map a.eval:=Array.ext' S_
 have hr:(execOp a.eval o).run P w= .ok (.defer ⟨.fn (.func fid) #[],(args.toList.map a.eval).toArray⟩) w:=by
  unfold execOp;rw[ho]
  simp only[resolve,hv,Deferred.ofValue,Y_,a_,R_,e,Array.empty_append]
 unfold Oper.wp;rw[hr,Oper.upon_defer,hdst];refine hK g _ w ⟨fun i=>?_,fun i ci hi=>?_,hM.inj,hM.grow,?_,hM.sz,hM.cl,hM.tg,fun k cs hk=>(hM.gl k cs hk).sameB rfl,hM.gp,hM.nk⟩
 ·by_cases hi:DK=i
  ·subst hi
   have e0:(AS.mk ((DK, .dfr fid cs)::s.t) s.b).tv DK= .dfr fid cs:=by simp[AS.tv,am]
   rw[e0]
   trivial
  ·have e0:(AS.mk ((DK, .dfr fid cs)::s.t) s.b).tv i=s.tv i:=by simp[AS.tv,au _ _ hi]
   rw[e0];exact(hM.tm i).sameB rfl
 ·obtain⟨h2,h3⟩:=hM.bm i ci hi
  exact⟨h2,h3.sameB rfl⟩
 ·have e0:(AS.mk ((DK, .dfr fid cs)::s.t) s.b).tv DK= .dfr fid cs:=by simp[AS.tv,am]
  rw[e0];refine⟨args.toList.map a.eval,?_,qm.sameB (s:=s) (s':=⟨(DK, .dfr fid cs)::s.t,s.b⟩) rfl hc⟩;have h2:=(AI.no hd).1 hM.df;show _::a.defers=_;rw[h2]
end
section
variable {P:Program} {T:TypeId->Option Ty}
structure VC (P:Program) (s:AS) (b':BL) (fid:FuncId) (cs:List CV) (b1:BL) (r1:RT) (b2:BL):Prop where
 dk:s.tv DK= .dfr fid cs
 one:sL cs=true
 body:gR P fid (cs.map Vd) b1 r1 b2
 kn:(EF (ay b1) ((cs.map Vd).flatMap d8) && ui (ay b1) (ay b1))=true
 bx:qQ s (ay b1)
 cl:dY (b1.map (·.1)) s.b=true
 new:md s b1 b2=true
 fin:qQ ⟨s.t,ay b2++dw b2 b1++s.b⟩ (ay b')
def UJ (P:Program) (T:TypeId->Option Ty) (s:AS) (rs:List ResultVar) (b':BL):Prop:=Lt T s rs (.v (.tup [])) b'∨ ∃fid cs b1 r1 b2,VC P s b' fid cs b1 r1 b2
theorem CallsD.mono {f:FuncId} {args:Array Value} {u:FrameMode} {w:World} {R R':Ending->FrameMode->World->Prop} (h:CallsD P f args u w R) (hR:∀e u' w',R e u' w'->R' e u' w'):CallsD P f args u w R':=fun c cs hu=>by
 obtain⟨e,u',w',fr,h1,h2⟩:=h c cs hu;exact⟨e,u',w',fr,hR _ _ _ h1,h2⟩
theorem gA (hT:∀t d,T t=some d->a8 P t d) (hmix:P.follows .mixedOrders=true) {f:FuncId} {fn:Func} {c:Code} {ts:List TV} {b b':BL} (hf:P.funcs[f]? =some fn) (hb:fn.body=some c) (hn:(fn.name == "runtime.NumGoroutine")=false) (hsz:(Nat.ble ts.length fn.ntmps && Nat.ble fn.ntmps DK)=true) (hrs:fn.results= #[])
 (hrv:tp b' b=true) (hkn:An (.v (.tup [])) b'=true) (hlen:dJ b b')
 (h:fP P T fn.ntmps c (fun e s=>match e with| .exit _=>False|_=>UJ P T s fn.results.toList b') ⟨uu 0 ts,ay b⟩):az P f ts b (.v (.tup [])) b':=by
 unfold An at hkn;rw[B_]at hkn hsz;obtain⟨hwfc,_⟩:=hkn;obtain⟨hsz,hnk⟩:=hsz;have hsz:=N_ hsz;have hnk:=N_ hnk
 have hres:∀(t:Array Value) (w:World),(results fn t).run P w= .ok (.tuple #[]) w:=fun t w=>by
  unfold results;rw[hrs]
  simp
 refine⟨fun args w=>?_,fun S g w vs hS hv=>?_⟩
 ·exact NT
 ·refine calls_of_wp_defers hf hb (wp_mono (oz (S0:=S) (w0:=qh g w b) hT hmix c _ _ _ w h (yP hS hv hsz hnk)) fun e a w1 hq=>?_)
  have nil:∀g1 w2,TV.M (Own S g1 (sB b')) g1 (sB b') w2 (RT.v (.tup [])).tv (.tuple #[]):=fun g1 w2=>⟨[],rfl,rfl,fun i x u h1 _=>by simp at h1⟩
  have fin:∀s,UJ P T s fn.results.toList b'->M fn.ntmps S (qh g w b) s a w1->Leaves P fn a.tmps (xo S g b (.v (.tup [])) b' w) a.defers .returning w1:=by
   rintro s (⟨⟨l,h1,_⟩,hwk⟩| ⟨fid,cs,b1,r1,b2,hD⟩) ⟨g1,hm⟩
   ·rw[(AI.no (iO h1)).1 hm.df]
    exact⟨_,hres _ _,CQ hrv hwfc hlen hwk hm (nil _ _)⟩
   ·have hdf:=hm.df
    rw[hD.dk]at hdf;obtain⟨us,e1,hcv⟩:=hdf;rw[e1];have hkw:=hD.kn;rw[B_]at hkw;obtain⟨S1,hpre,hO,hpost⟩:=hm.callT (b:=b1) (b':=b2) hD.bx hkw.2 (BQ hD.cl) (fun j cs hj hn=>qY hD.new (bU.1 hj) hn);have inb:∀j cs,(sB b1).bx j=some cs->s.bx j=some cs:=fun j cs hj=>hD.bx.at (bU.1 hj)
    obtain⟨fn1,c1,hf1,hb1,hw1⟩:=hD.body.body;refine⟨S_, .func fid,#[],fid,us.toArray,rfl,?_,?_⟩
    ·have:=hD.body.enter us.toArray w1
     simp only[invoke]
     simpa using this
    ·refine CallsD.mono (callsD_of_wp hf1 hb1 (hw1 S1 g1 w1 us hpre (by rw[hO];exact qS inb (CD hkw.1) (rC hD.one hcv)))) fun e u' w2 hq=>?_
     obtain⟨rfl,v,g2,rfl,k2,k3,k4,k5,k6⟩:=hq;obtain⟨g3,hm3⟩:=hpost r1 v g2 w2 k2 k3 k4 k5 k6 none (fun d h=>by cases h);exact⟨_,hres _ _,CQ hrv hwfc hlen hD.fin hm3 (nil _ _)⟩
  exact O0
end
theorem qF (s:List UInt8) (c:UInt8):aa Tryz.prog 228 [dL s,dL [c]] (.one (dB (decide (0<=Lib.indexByte s c)))):=
 ⟨aG func228 rfl rfl,fun S w vs hS hv=>by
  match vs,hv with
  | [v,u],⟨h1,h2,_⟩=>
   obtain rfl:=bc h1;obtain rfl:=bc h2;refine(Tryz.strings_Contains_one (Bs s) c w).mono ?_;rintro e w' ⟨rfl,rfl⟩;exact⟨_,rfl,AV.M.val rfl,Below.refl _ _⟩⟩
def fS (ts:List Tk) (a e:Int):List AV:=[.sl ts.length (gx ts), .val (.int .i64 a), .val (.int .i64 e)]
theorem gk {ts ts':List Tk} {a e a' e':Int}:dJ [(900,fS ts a e)] [(900,fS ts' a' e')]:=dJ.one (l_ 3)
theorem dA (t:Tk) (r:List Tk) (a e:Int):az Tryz.prog 79 [.box 900 0] [(900,fS (t::r) a e)] (.v (.one (.agg (AM t)))) [(900,fS (t::r) a e)]:=by
 refine aP af dx func79 rfl rfl rfl rfl rfl (gk) ?_;refine zp ?_
 refine aH (i:=0) (cs':=AM t) (Z_ _) (fun j a h=>by
  rw[Nat.zero_mul,J_];show(AM t++gx r)[j]? =some a;rw[List.getElem?_append_left (G_.1 h).1];exact h) (Z_ 2) rfl rfl rfl rfl rfl rfl rfl rfl ?_
 exact d9
theorem jk (t:Tk) (r:List Tk) (a e:Int):az Tryz.prog 170 [.box 900 0] [(900,fS (t::r) a e)] (.v (.one (.agg (AM t)))) [(900,fS r a e)]:=by
 refine aP af dx func170 rfl rfl rfl rfl rfl (gk) ?_;refine gy ?_;refine kD (dA t r a e) ?_;refine kG ?_
 refine kO5 ?_
 refine Qe (m:=(t::r).length) (i:=1) (q:=3) af (by rw[yC];exact l_ _) S_ rfl rfl rfl rfl rfl rfl rfl rfl ?_;exact d9
def Gc (pg:List UInt8) (t:Tk):Bool:=match t.2.1 with
 | [c]=>decide (0<=Lib.indexByte pg c)
 |_=>false
theorem sd (pg:List UInt8) (t:Tk) (r:List Tk) (a e:Int) (hk:t.1=4-> ∃c,t.2.1=[c]):az Tryz.prog 169 [.box 900 0, .d (dL pg)] [(900,fS (t::r) a e)] (.v (.one (dB (decide (e=0) && (decide (t.1=4) && Gc pg t))))) [(900,fS (t::r) a e)]:=by
 obtain⟨k,x,p⟩:=t;dsimp only at hk ⊢
 by_cases he:e=0
 ·by_cases h4:k=4
  ·obtain⟨c,rfl⟩:=hk h4
   have hc:=qF pg c;rw[T_ he,T_ h4,Bool.true_and,Bool.true_and,show Gc pg (k,[c],p)=decide (0<=Lib.indexByte pg c) from rfl];generalize decide (0<=Lib.indexByte pg c)=b at *;refine Km ?_;refine gy ?_;refine kD (dA (k,[c],p) r a e) ?_;refine kG ?_
   refine kO4 ?_
   refine kT ?_
   refine kO3 ?_
   refine kT ?_
   refine kO5 ?_
   refine kC (hc) ?_;exact d9
  ·rw[T_ he,F_ h4,Bool.true_and,Bool.false_and]
   refine Km ?_;refine gy ?_;refine kD (dA (k,x,p) r a e) ?_;refine kG ?_
   refine kO4 ?_
   refine kT ?_
   refine kO3 ?_
   refine kE ?_;exact d9
 ·rw[F_ he,Bool.false_and]
  refine Km ?_;refine gy ?_;refine kD (dA (k,x,p) r a e) ?_;refine kG ?_
  refine kO4 ?_
  refine kB false ?_ ?_
  ·exact F_ he
  exact d9
theorem ku (t:Tk) (r:List Tk) (a c:Int):az Tryz.prog 80 [.box 900 0, .d (dN .i64 c)] [(900,fS (t::r) a 0)] (.v (.tup [])) [(900,fS (t::r) t.2.2 c)]:=by
 refine aP af dx func80 rfl rfl rfl rfl rfl (gk) ?_;refine kW ?_;refine kD (dA t r a 0) ?_;exact d9
theorem x7 (t:Tk) (r:List Tk) (a e c:Int) (he:e≠0):az Tryz.prog 80 [.box 900 0, .d (dN .i64 c)] [(900,fS (t::r) a e)] (.v (.tup [])) [(900,fS (t::r) a e)]:=by
 refine aP af dx func80 rfl rfl rfl rfl rfl (gk) ?_;refine kI ?_
 refine kO4 ?_
 refine kB false ?_ ?_
 ·exact F_ he
 exact d9
def fI:List Tk->Prop
 | []=>False
 | [t]=>t.1=0
 |t::u::r=>(t.1≠0/\(t.1=4-> ∃c,t.2.1=[c])/\(t.1=2->t.2.1.length<=500))/\fI (u::r)
theorem fI.head {t:Tk} {r:List Tk} (h:fI (t::r)):(t.1=4-> ∃c,t.2.1=[c])/\(t.1=2->t.2.1.length<=500):=by
 cases r with
 |nil=>have h:t.1=0:=h;exact⟨fun e=>by omega,fun e=>by omega⟩
 |cons u r=>exact h.1.2
theorem fI.tail {t:Tk} {r:List Tk} (h:fI (t::r)) (h0:t.1≠0):fI r:=by
 cases r with
 |nil=>exact absurd h h0
 |cons u r=>exact h.2
theorem fI.ne {ts:List Tk} (h:fI ts):∃t r,ts=t::r:=by
 cases ts with
 |nil=>exact h.elim
 |cons t r=>exact⟨t,r,rfl⟩
def Rd (fid:FuncId) (ts:List Tk) (a:Int):oi->Prop
 | .ok (e,r)=>az Tryz.prog fid [.box 900 0] [(900,fS ts a 0)] (.v (.one (dE e))) [(900,fS r a 0)]/\fI r
 | .error (p,c)=>c≠0/\ ∃y ts',az Tryz.prog fid [.box 900 0] [(900,fS ts a 0)] (.v (.one (dR y))) [(900,fS ts' p c)]/\fI ts'
end Go.Proofs.YtnchbpoopnjghaaGreatDoor
