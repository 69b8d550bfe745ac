/- What the machine of HmA reckons is what the model does: code and calls. -/
import Derived.Test.YtnchbpoopnjghaaGreatDoorRHmD
set_option maxHeartbeats 100000000
set_option linter.all false
namespace Go.Proofs.YtnchbpoopnjghaaGreatDoor
open Go.RowKit
structure FR (n:Nat) (g:Nat->Option HG) (f:Nat->HV) (a:Act):Prop where
 tm:∀t,VR g (f t) (a.tmps.getD t undef)
 df:a.defers=[]
 sz:n<=a.tmps.size
def fv(f:Tr HV)(t:Nat):HV:=match f.get t with
 |some x=>x
 |none=> .t []
section
variable {P:Program}{g g':Nat->Option HG}{w0 w w':World}{h:Nat->Option HB}{k n:Nat}{a:Act}
def FR.mono{f:Nat->HV}(h:FR n g f a)(b:yx g g'):FR n g' f a:=⟨fun t=>(h.tm t).mono b,h.df,h.sz⟩
def RR(f:Tr HV)(d:Nat)(x:HV)(t:Nat):fv (f.put d x) t=if t=d then x else fv f t:=by
 unfold fv;rw[Tr.get_put];by_cases e:t=d
 ·rw[if_pos e,if_pos e]
 ·rw[if_neg e,if_neg e]
def FR.put{f:Nat->HV}{x:HV}{v:Value}{d:Option Nat}(h:FR n g f a)(i:VR g x v)(b:aO n d=true):FR n g (fun t=>if d=some t then x else f t) (a.put d v):=by
 cases d with
 |none=>exact⟨fun t=>by simpa[Act.put]using h.tm t,h.df,h.sz⟩
 |some d=>
  have b:d<n:=N_ b;have c:d<a.tmps.size:=k_ b h.sz;refine⟨fun t=>?_,h.df,by simpa[Act.put]using h.sz⟩;by_cases e:d=t
  ·subst e;rw[if_pos rfl];have:(a.put (some d) v).tmps.getD d undef=v:=by simp[Act.put,c]
   rw[this];exact i
  ·rw[if_neg (by simpa using e)];have:(a.put (some d) v).tmps.getD t undef=a.tmps.getD t undef:=by simp[Act.put,Array.getElem?_setIfInBounds_ne e]
   rw[this];exact h.tm t
def Bv(s:HS)(d:Option Nat)(x:HV):fv (s.put d x).f=fun t=>if d=some t then x else fv s.f t:=by
 funext t;cases d with
 |none=>rfl
 |some d=>
  show fv (s.f.put d x) t=_;rw[RR];by_cases e:d=t
  ·subst e;simp
  ·rw[if_neg (fun h=>e h.symm),if_neg (by simpa using e)]
def oK(s:HS)(d:Option Nat)(x:HV):(s.put d x).h=s.h/\(s.put d x).k=s.k:=by cases d<;>exact⟨rfl,rfl⟩
def Ia{f:Tr HV}(d:HR g w0 h k w){x:Operand}(e:∀t∈OZ x,VR g (fv f t) (a.tmps.getD t undef)):VR g (hev f x) (a.eval x):=by
 cases x with
 |tmp t=>exact e t (by simp[OZ])
 |const v=>exact Qs g v
 |global i=>
  show VR g (match Nat.blt i hG with|true=>HV.p i 0|false=> .j) _;split
  ·rename_i b;obtain⟨m,c⟩:=d.gl i (N_ b);rw[VR];exact⟨_,c,rfl⟩
  ·rw[VR];trivial
 |func f=>show VR g (.f (.func f) [] []) _;rw[VR];exact⟨[],[],rfl,bi.nil g,bi.nil g⟩
def FR.evs{f:Tr HV}(c:HR g w0 h k w)(b:FR n g (fv f) a)(l:List Operand):Se g f a l:=fun x _=>Ia c fun t _=>b.tm t
def Cf{ops:Array Oper}{f:Tr HV}{o:Oper}{b:Bool}(c:hgd ops f o=some b)(j:∀t∈Qo ops o,VR g (fv f t) (a.tmps.getD t undef)):Region.wanted o (yielded ops a.tmps)=b:=by
 unfold hgd at c;unfold Qo at j;unfold Region.wanted;split at c
 ·rename_i q;rw[q];cases c;rfl
 ·rename_i i d q;simp only[q]at j ⊢;split at c
  ·rename_i g' hi;simp only[hi]at j;split at c
   ·rename_i t hd;simp only[hd]at j;have m:VR g (hev f (.tmp t)) (a.tmps.getD t undef):=j t S_;split at c
    ·rename_i u r;cases c;rw[r]at m;have e:=m.v_inv;have s:yielded ops a.tmps i=some u:=by exact TO
     rw[s];cases u<;>cases d<;>rfl
    ·rename_i r;cases c;rw[r]at m;obtain⟨x,e,l⟩:=m.t_inv;rw[bi]at l;subst l;have s:yielded ops a.tmps i=none:=by exact Tt
     rw[s];cases d<;>rfl
    ·cases c
   ·cases c
  ·cases c
def NH(h:Tr HB)(k:Nat):Prop:=∀i,k<=i->h.get i=none
def KK(h:Tr HB)(k:Nat)(c:Tr HB)(b:Nat):Prop:=k<=b/\(NH h k->NH c b)
def KK.refl(h:Tr HB)(k:Nat):KK h k h k:=⟨l_ _,id⟩
def KK.trans{c d e:Tr HB}{f i j:Nat}(a:KK c f d i)(b:KK d i e j):KK c f e j:=⟨V_ a.1 b.1,fun h=>b.2 (a.2 h)⟩
def KK.new(h:Tr HB)(k:Nat)(b:HB):KK h k (h.put k b) (k+1):=⟨by omega,fun hn i hi=>by rw[Tr.get_put,if_neg O_];exact hn i O_⟩
def KK.old{h:Tr HB}{k j:Nat}{l:HB}(b:HB)(d:h.get j=some l):KK h k (h.put j b) k:=⟨l_ _,fun f i c=>by rw[Tr.get_put,if_neg (fun e=>by subst e;rw[f _ c]at d;cases d)];exact f i c⟩
def SW(P:Program)(o:Oper)(f:Tr HV)(h:Tr HB)(k:Nat)(m:HM):Prop:=KK h k m.h m.k/\ ∀(g:Nat->Option HG)(w0:World)(a:Act)(w:World)(K:Act->World->Prop)(Q:Exit->Act->World->Prop),HR g w0 h.get k w->Se g f a o.op.operands.toList ->
 (∀g' v w',gM k g g'->HR g' w0 m.h.get m.k w'->VR g' m.x v->K (a.put o.dst v) w')->o.wp P a w K Q
def QG{o:Oper}{f:Tr HV}{h:Tr HB}{x:HV}(c:hop P f h o=some x)(k:Nat):SW P o f h k ⟨x,h,k⟩:=by refine⟨KK.refl _ _,fun g w0 a w K Q b i j=>?_⟩;obtain⟨v,d,e⟩:=IL b c i;unfold Oper.wp;rw[d];exact j g v w (fun _ _=>rfl) b e
def Qp{h:Tr HB}{cs:List HV}{e:TypeId}{q:Bool}{x:HV}{m:HM}(b:hnew h k cs e q x=some m):KK h k m.h m.k:=by
 unfold hnew at b;split at b
 ·cases b;exact KK.new _ _ _
 ·cases b
def IF{h d:Tr HB}{b o:Nat}{cs:List HV}(c:hwr h b o cs=some d):KK h k d k:=by
 unfold hwr at c;split at c
 ·split at c
  ·cases c;exact KK.old _ (by assumption)
  ·cases c
 ·cases c
def RC{h:Tr HB}{e sz d i:Nat}{x:HV}{c:List HV}{m:HM}(b:A0 h k e sz d x i c=some m):KK h k m.h m.k:=by
 unfold A0 at b
 repeat' (split at b)
 all_goals first|(cases b;done)|(cases b;exact KK.refl _ _)|exact Qp b|(rename_i f;cases b;exact IF f)|(cases b;exact(KK.old .x (by assumption)).trans (KK.new _ _ _))
def No{h:Tr HB}{b:Builtin}{l:List HV}{ts:List TypeId}{m:HM}(c:Ai P h k b l ts=some m):KK h k m.h m.k:=by
 unfold Ai at c
 repeat' (split at c)
 all_goals first|(cases c;done)|(cases c;exact KK.refl _ _)|exact RC c|(rename_i d;cases c;exact IF d)|(cases c;exact KK.old .x (by assumption))
def M8{h:Tr HB}{t:TypeId}{x y z:HV}{m:HM}(b:yc P h k t x y z=some m):KK h k m.h m.k:=by
 unfold yc at b
 repeat' (split at b)
 all_goals first|(cases b;done)|(cases b;exact KK.old _ (by assumption))
def RB{h:Tr HB}{f:Tr HV}{o:Oper}{m:HM}(b:hmem P f h k o=some m):KK h k m.h m.k:=by
 unfold hmem at b;split at b
 ·cases b;exact KK.new _ _ _
 repeat' (split at b)
 all_goals first|(cases b;done)|exact No b|exact M8 b|(rename_i c;cases b;exact IF c)
def Mz{o:Oper}{f:Tr HV}{h:Tr HB}{m:HM}(b:hmem P f h k o=some m):SW P o f h k m:=by
 refine⟨RB b,fun g w0 a w K Q q p i=>?_⟩;obtain⟨n,v,w',j,l,g',c,d,e,_⟩:=Mq q b p;unfold Oper.wp;rw[j];rcases l with rfl| ⟨rfl,rfl⟩
 ·exact i g' v w' c d e
 ·exact i g' undef w' c d e
def QE(P:Program)(f:FuncId)(vs:List Value)(w:World)(R:Value->World->Prop):Prop:=
 (∃v w',(callFunc f vs.toArray).run P w= .ok (.value v) w'/\R v w')∨(callFunc f vs.toArray).run P w= .ok (.enter f vs.toArray) w/\Calls P f vs.toArray w fun e w'=>∃v,e= .returned v/\R v w'
def bY(P:Program)(f:FuncId)(args:List HV)(h:Tr HB)(k:Nat)(m:HM):Prop:=KK h k m.h m.k/\ ∀(g:Nat->Option HG)(w0 w:World)(b:List Value),HR g w0 h.get k w->bi g args b ->
 QE P f b w fun v w'=>∃g',gM k g g'/\HR g' w0 m.h.get m.k w'/\VR g' m.x v
def Cd{c:HS->FuncId->List HV->Option HM}(C:∀s f b m,c s f b=some m->bY P f b s.h s.k m){s:HS}{o:Oper}{m:HM}(i:xt c s o=some m):SW P o s.f s.h s.k m:=by
 unfold xt at i;split at i
 ·rename_i f b J z;split at i
  ·rename_i l I H D;obtain⟨E,hcall⟩:=C _ _ _ _ i;refine⟨E,fun g w0 a w K Q hr hE hK=>?_⟩;rw[z]at hE;have j:=hE f (by simp[Op.operands,Call.operands]);rw[D]at j;obtain⟨F,G,A,u,x⟩:=j.f_inv;have d:bi g (b.toList.map (hev s.f)) (b.toList.map a.eval):=bi.map (fun y hy=>hE y (by simp[Op.operands,Call.operands]at hy ⊢;exact .inr hy));have hrun:(execOp a.eval o).run P w=(callFunc l (F++b.toList.map a.eval++G).toArray).run P w:=by unfold execOp;rw[z];simp only[resolve,A,Deferred.ofValue,Y_,a_,R_,invoke];congr 2;apply Array.ext';simp
   unfold Oper.wp;rw[hrun];rcases hcall g w0 w _ hr ((u.append d).append x)with⟨v,w',p,g',q,r,t⟩| ⟨p,q⟩
   ·rw[p];exact hK g' v w' q r t
   ·rw[p];refine q.mono ?_;rintro e w' ⟨v,rfl,g',r,t,B⟩;exact hK g' v w' r t B
  ·cases i
 ·cases i
def vN{c:HS->FuncId->List HV->Option HM}(e:∀s f b m,c s f b=some m->bY P f b s.h s.k m){s:HS}{o:Oper}{m:HM}(d:xm P c s o=some m):SW P o s.f s.h s.k m:=by
 unfold xm at d;split at d
 ·cases d;exact Mz (by assumption)
 ·exact Cd e d
def nQ:VR g (.t []) undef:=by rw[VR];exact⟨[],rfl,bi.nil g⟩
def gM.trans{k e:Nat}{b c d:Nat->Option HG}(h:gM k b c)(f:gM e c d)(l:k<=e):gM k b d:=fun i j=>(f i O_).trans (h i j)
def wU{ops:Array Oper}{c:HS->FuncId->List HV->Option HM}(C:∀s f l m,c s f l=some m->bY P f l s.h s.k m):∀(e:List Oper)(s b:HS)(j:Nat),(∀i,ops[j+i]? =e[i]?)->CE P ops n c e s=some b ->
 KK s.h s.k b.h b.k/\ ∀(g:Nat->Option HG)(w0:World)(a:Act)(w:World)(Q:Exit->Act->World->Prop),HR g w0 s.h.get s.k w->FR n g (fv s.f) a->(∀g' r w',gM s.k g g'->HR g' w0 b.h.get b.k w'->FR n g' (fv b.f) r->Q .normal r w') ->
  wpOps P ops Q (List.range' j e.length) a w
 | [],s,b,j,_,h=>by cases h;exact⟨KK.refl _ _,fun g w0 a w Q hr hf hQ=>hQ g a w (fun _ _=>rfl) hr hf⟩
 |o::e,s,b,j,E,h=>by
  have h0:ops[j]? =some o:=by simpa using E 0
  have y:∀i,ops[j+1+i]? =e[i]?:=fun i=>by have:=E (i+1);rw[show j+(i+1)=j+1+i by omega]at this;simpa using this
  have p:∀(m:HM),SW P o s.f s.h s.k m->hgd ops s.f o=some true->aO n o.dst=true->CE P ops n c e (HS.put ⟨s.f,m.h,m.k⟩ o.dst m.x)=some b ->
   KK s.h s.k b.h b.k/\ ∀(g:Nat->Option HG)(w0:World)(a:Act)(w:World)(Q:Exit->Act->World->Prop),HR g w0 s.h.get s.k w->FR n g (fv s.f) a->(∀g' r w',gM s.k g g'->HR g' w0 b.h.get b.k w'->FR n g' (fv b.f) r->Q .normal r w') ->
    wpOps P ops Q (List.range' j (e.length+1)) a w:=by
   intro m A u q F;obtain⟨z,D⟩:=wU C e _ b (j+1) y F;have d:=oK ⟨s.f,m.h,m.k⟩ o.dst m.x;rw[d.1,d.2]at z;refine⟨A.1.trans z,fun g w0 a w Q hr hf hQ=>?_⟩;rw[List.range'_succ,wpOps,h0];dsimp only;rw[if_pos (Cf u fun t _=>hf.tm t)];refine .inl (A.2 g w0 a w _ Q hr (hf.evs hr _) fun g' v w' h1 h2 h3=>?_);refine D g' w0 _ w' Q (by rw[d.1,d.2];exact h2) (by rw[Bv];exact(hf.mono (hr.ext h1)).put h3 q) fun g2 a2 w2 h4 h5 h6=>hQ g2 a2 w2 (h1.trans h4 (by rw[d.2];exact A.1.1)) h5 h6
  simp only[CE]at h;split at h
  ·rename_i q B;split at h
   ·rename_i x G;refine p ⟨x,s.h,s.k⟩ (QG G s.k) B q ?_;exact h
   ·split at h
    ·rename_i m A;exact p m (vN C A) B q h
    ·cases h
  ·rename_i q B;obtain⟨z,D⟩:=wU C e _ b (j+1) y h;have d:=oK s o.dst (.t []);rw[d.1,d.2]at z;refine⟨z,fun g w0 a w Q hr hf hQ=>?_⟩;rw[List.length_cons,List.range'_succ,wpOps,h0];dsimp only;rw[if_neg (by rw[Cf B fun t _=>hf.tm t];simp)];refine D g w0 _ w Q (by rw[d.1,d.2];exact hr) (by rw[Bv];exact hf.put nQ q) fun g2 a2 w2 h4 h5 h6=>hQ g2 a2 w2 (by rw[d.2]at h4;exact h4) h5 h6
  ·cases h
def vK:∀(l:List HV)(j:Nat)(t:Tr HV)(i:Nat),(tS j l t).get i=if j<=i/\i<j+l.length then l[i-j]? else t.get i
 | [],j,t,i=>by rw[tS,if_neg (fun h=>by have:=h.2;simp at this;omega)]
 |x::l,j,t,i=>by
  rw[tS,vK l (j+1) _ i,Tr.get_put];by_cases b:j+1<=i/\i<j+1+l.length
  ·rw[if_pos b,if_pos (by simp;omega),show i-j=i-(j+1)+1 by omega,List.getElem?_cons_succ]
  ·rw[if_neg b];by_cases c:i=j
   ·subst c;simp
   ·rw[if_neg c,if_neg (by simp only[List.length_cons];omega)]
def FR.enter{args:List HV}{vs:List Value}{N:Nat}(d:bi g args vs):FR N g (fv (tS 0 args .l)) ⟨vs.toArray++Array.replicate (N-vs.toArray.size) undef,[]⟩:=by
 refine⟨fun t=>?_,rfl,by simp;omega⟩;unfold fv;rw[vK];have f:=d.len;simp only[Array.getD_eq_getD_getElem?,Array.getElem?_append];by_cases c:t<args.length
 ·rw[if_pos O_,if_pos (by simp;omega)];obtain⟨v,b,e⟩:=d.at t (args[t]) (by simp[c]);have:(args[t-0]?)=some args[t]:=by simp[c]
  rw[this];simp only[List.getElem?_toArray,b];exact e
 ·rw[if_neg O_,if_neg (by simp;omega)];show VR g (.t []) _;cases b:(Array.replicate (N-vs.toArray.size) undef)[t-vs.toArray.size]? with
  |none=>exact nQ
  |some v=>
   rw[Array.getElem?_replicate]at b;split at b
   ·cases b;exact nQ
   ·cases b
def xN{s:HS}(z:HR g w0 s.h.get s.k w)(m:FR n g (fv s.f) a):∀(c:List ResultVar)(l:List HV),Be P s c=some l-> ∃i:List Value,(c.mapM fun r=>match r with
  | .tmp t=>pure (a.tmps.getD t undef)
  | .cell j t=>(do loadVar t (<- asAddr (a.tmps.getD j undef)):Sem Value):Sem (List Value)).run P w= .ok i w/\bi g l i
 | [],l,h=>by cases h;exact⟨[],rfl,bi.nil g⟩
 | .tmp t::c,l,h=>by
  simp only[Be]at h;split at h
  ·rename_i A y;cases h;obtain⟨i,p,u⟩:=xN z m c A y;exact⟨a.tmps.getD t undef::i,by simp only[List.mapM_cons,Y_,a_,R_,p],bi.cons (m.tm t) u⟩
  ·cases h
 | .cell j t::c,l,h=>by
  simp only[Be]at h;split at h
  ·rename_i b o F;split at h
   ·rename_i x A hrd y;cases h;have B:VR g (hev s.f (.tmp j)) (a.tmps.getD j undef):=m.tm j;rw[F]at B;obtain⟨q,E,e⟩:=B.p_inv;obtain⟨v,C,D⟩:=Jr z hrd E;obtain⟨i,p,u⟩:=xN z m c A y;refine⟨v::i,?_,bi.cons D u⟩;simp only[List.mapM_cons,Y_];rw[e,show asAddr (.pointer (some ⟨q.b,q.d+o,none⟩))=pure ⟨q.b,q.d+o,none⟩ from rfl];simp only[a_,R_,C,p]
   ·cases h
  ·cases h
def XE:HX->Exit->Prop
 | .normal, .normal=>True
 | .exit i, .exit j=>i=j
 | .ret, .ret=>True
 |_,_=>False
def SC(P:Program)(n:Nat)(c:Code)(s:HS)(x:HX)(s':HS):Prop:=KK s.h s.k s'.h s'.k/\ ∀(g:Nat->Option HG)(w0:World)(a:Act)(w:World),HR g w0 s.h.get s.k w->FR n g (fv s.f) a ->
 c.wp P (fun e b w'=>XE x e/\ ∃g',gM s.k g g'/\HR g' w0 s'.h.get s'.k w'/\FR n g' (fv s'.f) b) a w
def wH(P:Program)(X:FuncId->List HV->Tr HB->Nat->Option HM):Prop:=∀f b h k m,X f b h k=some m->bY P f b h k m
def zU{X:FuncId->List HV->Tr HB->Nat->Option HM}(T:wH P X){B:Nat->Code->HS->Option (HX × HS)}(hev:∀n c s x o,B n c s=some (x,o)->SC P n c s x o){s:HS}{f:FuncId}{args:List HV}{m:HM}(b:hcall P X B s f args=some m):bY P f args s.h s.k m:=by
 unfold hcall at b;split at b
 ·cases b;exact T _ _ _ _ _ (by assumption)
 ·split at b
  ·rename_i q u;split at b
   ·rename_i c R H;have C:∀(x:HX)(o:HS)(l:List HV),B q.ntmps c ⟨tS 0 args .l,s.h,s.k⟩=some (x,o)->(∀i,x≠ .exit i)->Be P o q.results.toList=some l->bY P f args s.h s.k ⟨JM l,o.h,o.k⟩:=by
     intro x o l E Y F;obtain⟨U,W⟩:=hev _ _ _ _ _ E;refine⟨U,fun g w0 w Z V J=> .inr ⟨?_,?_⟩⟩
     ·have G:¬q.name= "runtime.NumGoroutine" :=by simpa using H
      simp[callFunc,Y_,u,G,R]
     ·refine calls_of_wp u R (wp_mono (W g w0 _ w V (FR.enter J)) fun e a' w' hq=>?_);obtain⟨d,g',O,D,Q⟩:=hq;have z:a'.defers=[]/\ ∃v,(results q a'.tmps).run P w'= .ok v w'/\VR g' (JM l) v:=by
       refine⟨Q.df,?_⟩;obtain⟨A,S,p⟩:=xN D Q q.results.toList l F;refine⟨if h:A.toArray.size=1 then A.toArray[0]else .tuple A.toArray,?_,?_⟩
       ·unfold results;rw[Y_,Array.mapM_eq_mapM_toList,Sem.run_map];erw[S];simp only[R_];rfl
       ·have hlen:=p.len
        match l,p,hlen with
        | [],p,hlen=>rw[dif_neg (by simp at hlen ⊢;omega)];show VR g' (.t []) _;rw[VR];exact⟨A,rfl,p⟩
        | [x],p,hlen=>obtain⟨v,rfl,J⟩:=p.one_inv;exact J
        |x::y::r,p,hlen=>rw[dif_neg (by simp at hlen ⊢;omega)];show VR g' (.t (x::y::r)) _;rw[VR];exact⟨A,rfl,p⟩
      cases e with
      |normal=>obtain⟨K,v,L,N⟩:=z;exact⟨K,v,L,v,rfl,g',O,D,N⟩
      |ret=>obtain⟨K,v,L,N⟩:=z;exact⟨K,v,L,v,rfl,g',O,D,N⟩
      |exit i=>cases x with
       |exit j=>exact absurd rfl (Y j)
       |normal=>exact d.elim
       |ret=>exact d.elim
      |goto l=>cases x<;>exact d.elim
      |panic c=>cases x<;>exact d.elim
      |outgrown=>cases x<;>exact d.elim
    split at b
    ·cases b
    ·rename_i x o I E;split at b
     ·rename_i l F;cases b;exact C x o l E (fun i e=>I i e) F
     ·cases b
    ·cases b
   ·cases b
  ·cases b
end
end Go.Proofs.YtnchbpoopnjghaaGreatDoor
