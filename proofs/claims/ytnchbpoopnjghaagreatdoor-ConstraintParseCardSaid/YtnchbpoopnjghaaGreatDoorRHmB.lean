/- What the machine of HmA reckons is what the model does: values and memory. -/
import Derived.Test.YtnchbpoopnjghaaGreatDoorRHmA
set_option maxHeartbeats 100000000
set_option linter.all false
namespace Go.Proofs.YtnchbpoopnjghaaGreatDoor
open Go.RowKit
structure HG where
 b:Nat
 d:Nat
 n:Nat
def eC(l:List Nat):ByteArray:=⟨(l.map UInt8.ofNat).toArray⟩
def Ku(q:Bool)(o n c a:Nat):Prop:=match q with
 |false=>a=c
 |true=>o+a*c=n
mutual
def VR(g:Nat->Option HG):HV->Value->Prop
 | .v x,y=>y=x/\zB x=true
 | .z l,y=>y= .string (eC l)
 | .p b o,y=>∃u,g b=some u/\y= .pointer (some ⟨u.b,u.d+o,none⟩)
 | .s b o n c q,y=>∃u A,g b=some u/\y= .slice (some ⟨u.b,u.d+o,none⟩) n A/\n<=A/\A<=9223372036854775807/\Ku q o u.n c A
 | .f C D r,y=>∃e B:List Value,y= .func C e.toArray B.toArray/\bi g D e/\bi g r B
 | .i t x,y=>∃u,y= .iface t u/\VR g x u
 | .a r,y=>∃e:List Value,y= .agg e.toArray/\bi g r e
 | .t r,y=>∃e:List Value,y= .tuple e.toArray/\bi g r e
 | .m b,y=>∃u,g b=some u/\y= .map (some u.b)
 | .o,y=>y.oneCell'=true
 | .j,_=>True
def bi(g:Nat->Option HG):List HV->List Value->Prop
 | [],a=>a=[]
 |x::b,a=>∃y r,a=y::r/\VR g x y/\bi g b r
end
def yx(g g':Nat->Option HG):Prop:=∀i u,g i=some u->g' i=some u
def gM(k:Nat)(g g':Nat->Option HG):Prop:=∀i,i<k->g' i=g i
def yx.refl(g:Nat->Option HG):yx g g:=fun _ _ h=>h
mutual
def VR.mono{g g':Nat->Option HG}(h:yx g g'):∀{x:HV}{y:Value},VR g x y->VR g' x y
 | .v _,_,r=>r
 | .z _,_,r=>r
 | .p b o,_,r=>by rw[VR]at r ⊢;obtain⟨u,e,r⟩:=r;exact⟨u,h _ _ e,r⟩
 | .s b o n c q,_,r=>by rw[VR]at r ⊢;obtain⟨u,A,e,r⟩:=r;exact⟨u,A,h _ _ e,r⟩
 | .f _ E l,_,r=>by rw[VR]at r ⊢;obtain⟨d,D,e,B,C⟩:=r;exact⟨d,D,e,bi.mono h B,bi.mono h C⟩
 | .i _ x,_,r=>by rw[VR]at r ⊢;obtain⟨u,e,r⟩:=r;exact⟨u,e,VR.mono h r⟩
 | .a l,_,r=>by rw[VR]at r ⊢;obtain⟨d,e,r⟩:=r;exact⟨d,e,bi.mono h r⟩
 | .t l,_,r=>by rw[VR]at r ⊢;obtain⟨d,e,r⟩:=r;exact⟨d,e,bi.mono h r⟩
 | .m b,_,r=>by rw[VR]at r ⊢;obtain⟨u,e,r⟩:=r;exact⟨u,h _ _ e,r⟩
 | .o,_,r=>r
 | .j,_,r=>r
def bi.mono{g g':Nat->Option HG}(h:yx g g'):∀{a:List HV}{b:List Value},bi g a b->bi g' a b
 | [],_,r=>r
 |x::a,_,r=>by rw[bi]at r ⊢;obtain⟨y,l,e,c,d⟩:=r;exact⟨y,l,e,VR.mono h c,bi.mono h d⟩
end
def bi.nil(g:Nat->Option HG):bi g [] []:=by rw[bi]
def bi.cons{g:Nat->Option HG}{x:HV}{y:Value}{xs:List HV}{ys:List Value}(h:VR g x y)(r:bi g xs ys):bi g (x::xs) (y::ys):=by rw[bi];exact⟨y,ys,rfl,h,r⟩
def bi.len{g:Nat->Option HG}:∀{a:List HV}{b:List Value},bi g a b->a.length=b.length
 | [],_,r=>by rw[bi]at r;subst r;rfl
 |x::a,_,r=>by rw[bi]at r;obtain⟨y,l,rfl,_,r⟩:=r;simp[bi.len r]
def bi.at{g:Nat->Option HG}:∀{a:List HV}{b:List Value},bi g a b-> ∀(i:Nat)x,a[i]? =some x-> ∃y,b[i]? =some y/\VR g x y
 | [],_,_,i,x,h=>by simp at h
 |x::a,_,r,i,z,h=>by
  rw[bi]at r;obtain⟨y,l,rfl,c,d⟩:=r;cases i with
  |zero=>simp at h;subst h;exact⟨y,rfl,c⟩
  |succ i=>simpa using bi.at d i z (by simpa using h)
def bi.of{g:Nat->Option HG}{C:Nat->Value->Prop}:∀{xs:List HV},(∀(i:Nat)x,xs[i]? =some x-> ∃y,C i y/\VR g x y)-> ∃a,bi g xs a/\a.length=xs.length/\ ∀(i:Nat)y,a[i]? =some y->C i y
 | [],_=>⟨[],bi.nil g,rfl,fun i y h=>by simp at h⟩
 |x::xs,h=>by
  obtain⟨y,f,j⟩:=h 0 x rfl;obtain⟨a,c,d,e⟩:=bi.of (C:=fun i y=>C (i+1) y) (xs:=xs) (fun i x l=>h (i+1) x (by simpa using l));refine⟨y::a,bi.cons j c,by simp[d],fun i z b=>?_⟩;cases i with
  |zero=>simp at b;subst b;exact f
  |succ i=>exact e i z (by simpa using b)
def bi.append{g:Nat->Option HG}:∀{d a:List HV}{e b:List Value},bi g d e->bi g a b->bi g (d++a) (e++b)
 | [],_,_,_,r,c=>by rw[bi]at r;subst r;exact c
 |x::d,_,_,_,r,c=>by rw[bi]at r;obtain⟨y,l,rfl,f,i⟩:=r;exact bi.cons f (bi.append i c)
def bi.map{α:Type}{g:Nat->Option HG}{f:α->HV}{p:α->Value}:∀{l:List α},(∀x∈l,VR g (f x) (p x))->bi g (l.map f) (l.map p)
 | [],_=>bi.nil g
 |x::l,h=>bi.cons (h x S_) (bi.map (l:=l) (fun y a=>h y (by simp[a])))
def VR.one{g:Nat->Option HG}:∀{x:HV}{y:Value},VR g x y->j4 x=true->y.oneCell'=true
 | .v x,y,r,_=>by rw[VR]at r;obtain⟨rfl,r⟩:=r;cases y<;>first|rfl|(cases r)
 | .z _,_,r,_=>by rw[VR]at r;subst r;rfl
 | .p _ _,_,r,_=>by rw[VR]at r;obtain⟨u,_,rfl⟩:=r;rfl
 | .s _ _ _ _ _,_,r,_=>by rw[VR]at r;obtain⟨u,c,_,rfl,_⟩:=r;rfl
 | .f _ _ _,_,r,_=>by rw[VR]at r;obtain⟨u,c,rfl,_⟩:=r;rfl
 | .i _ _,_,r,_=>by rw[VR]at r;obtain⟨u,rfl,_⟩:=r;rfl
 | .a _,_,_,h=>by cases h
 | .t _,_,_,h=>by cases h
 | .m _,_,r,_=>by rw[VR]at r;obtain⟨u,_,rfl⟩:=r;rfl
 | .o,_,r,_=>by rw[VR]at r;exact r
 | .j,_,_,h=>by cases h
def dT:∀{l:List HV},da l=true-> ∀x∈l,j4 x=true
 | [],_,x,h=>by cases h
 |y::l,h,x,a=>by
  simp only[da]at h;split at h
  ·rcases f_.1 a with rfl|a
   ·assumption
   ·exact dT h x a
  ·cases h
def VR.cells{g:Nat->Option HG}{x:HV}{y:Value}(h:VR g x y)(b:da (hcells x)=true):bi g (hcells x) y.cells.toList:=by
 cases x with
 |a c=>rw[VR]at h;obtain⟨d,rfl,h⟩:=h;exact h
 |t c=>cases b
 |j=>cases b
 |_=>rw[kH (VR.one h (by rfl))];exact bi.cons h (bi.nil g)
def GJ(b:ByteArray):eC (b.data.toList.map UInt8.toNat)=b:=by obtain⟨⟨l⟩⟩:=b;simp only[eC,List.map_map,ByteArray.mk.injEq];congr 1;rw[show(UInt8.ofNat ∘ UInt8.toNat)=id from funext fun x=>by simp];simp
def Ei(g:Nat->Option HG)(v:Value):VR g (hc1 v) v:=by
 unfold hc1;split
 ·rw[VR,GJ]
 ·rw[VR];exact⟨[],[],rfl,bi.nil g,bi.nil g⟩
 ·split
  ·rw[VR];exact⟨rfl,by assumption⟩
  ·rw[VR];trivial
def Qs(g:Nat->Option HG)(v:Value):VR g (RY v) v:=by
 unfold RY;split
 ·rename_i a;rw[VR];refine⟨a.toList,rfl,?_⟩;have:=bi.map (g:=g) (f:=hc1) (p:=id) (l:=a.toList) (fun x _=>Ei g x);simpa using this
 ·exact Ei g v
def Tr.get_open{α:Type}(t:Tr α)(k:Nat):t.get k=match Nat.beq k 0 with
  |true=>t.open.2.1
  |false=>match Nat.beq (k%2) 1 with
   |true=>t.open.1.get (k/2)
   |false=>t.open.2.2.get (k/2-1):=by
 cases t with
 |l=>
  simp only[Tr.open,Tr.get];repeat' split
  all_goals rfl
 |n x v y=>rfl
def uq{a b:Nat}(h:a≠b):Nat.beq a b=false:=by
 cases hb:Nat.beq a b
 ·rfl
 ·exact absurd (Nat.eq_of_beq_eq_true hb) h
def Tr.get_set{α:Type}(u:α):∀(f:Nat)(t:Tr α)(k i:Nat),k<f->(Tr.set f t k u).get i=if i=k then some u else t.get i
 |0,_,_,_,h=>absurd h (Nat.not_lt_zero _)
 |f+1,t,k,i,h=>by
  rw[Tr.get_open t i];unfold Tr.set;by_cases c:k=0
  ·subst c;rw[show Nat.beq 0 0=true from rfl];simp only[Tr.get];by_cases b:i=0
   ·subst b;simp
   ·simp only[uq b,if_neg b];cases Nat.beq (i%2) 1<;>rfl
  ·simp only[uq c];by_cases d:k%2=1
   ·simp only[show Nat.beq (k%2) 1=true by rw[d];rfl,Tr.get];by_cases b:i=0
    ·subst b;simp[Ne.symm c]
    ·simp only[uq b];by_cases a:i%2=1
     ·simp only[show Nat.beq (i%2) 1=true by rw[a];rfl];exact TX
     ·simp only[uq a];rw[if_neg (by intro e;subst e;exact a d)]
   ·simp only[uq d,Tr.get];by_cases b:i=0
    ·subst b;simp[Ne.symm c]
    ·simp only[uq b];by_cases a:i%2=1
     ·simp only[show Nat.beq (i%2) 1=true by rw[a];rfl];rw[if_neg (by intro e;subst e;exact d a)]
     ·simp only[uq a];exact TX
def Tr.get_put{α:Type}(t:Tr α)(k i:Nat)(u:α):(t.put k u).get i=if i=k then some u else t.get i:=Tr.get_set u _ _ _ _ (m_ k)
def sL:∀{n:Nat}{l r:List HV},yR n l=some r->r=l.take n/\r.length=n/\n<=l.length
 |0,l,r,h=>by cases h;simp
 |n+1,[],r,h=>by cases h
 |n+1,x::l,r,h=>by
  simp only[yR]at h;split at h
  ·rename_i e c;cases h;obtain⟨a,b,d⟩:=sL c;exact⟨by simp[<- a],by simp[b],by simp;omega⟩
  ·cases h
def y5:∀{n:Nat}{l r:List HV},KA n l=some r->r=l.drop n/\n<=l.length
 |0,l,r,h=>by cases h;simp
 |n+1,[],r,h=>by cases h
 |n+1,x::l,r,h=>by obtain⟨a,b⟩:=y5 (n:=n) (l:=l) h;exact⟨by simpa using a,by simp;omega⟩
def xB{o n:Nat}{l r:List HV}(h:Ab o n l=some r):r.length=n/\o+n<=l.length/\ ∀(i:Nat)x,r[i]? =some x->l[o+i]? =some x:=by
 unfold Ab at h;split at h
 ·rename_i m d;obtain⟨rfl,e⟩:=y5 d;obtain⟨rfl,b,c⟩:=sL h;refine⟨b,by simp at c;omega,fun i x a=>?_⟩;rw[List.getElem?_take]at a;split at a
  ·simpa using a
  ·cases a
 ·cases h
def lH:∀{l:List HV}{o:Nat}{a r:List HV},pB l o a=some r->o+a.length<=l.length/\r.length=l.length/\ ∀(i:Nat)x,r[i]? =some x->(i<o∨o+a.length<=i)/\l[i]? =some x∨o<=i/\a[i-o]? =some x
 | [],0,[],r,h=>by unfold pB at h;cases h;simp
 |x::l,0,[],r,h=>by unfold pB at h;cases h;exact⟨by simp,rfl,fun i x n=> .inl ⟨.inr S_,n⟩⟩
 | [],0,y::a,r,h=>by unfold pB at h;cases h
 | [],o+1,[],r,h=>by unfold pB at h;cases h
 | [],o+1,y::a,r,h=>by unfold pB at h;cases h
 |x::l,0,y::a,r,h=>by
  unfold pB at h;split at h
  ·rename_i p j;cases h;obtain⟨m,d,e⟩:=lH j;refine⟨by simp at m ⊢;omega,by simp[d],fun i z c=>?_⟩;cases i with
   |zero=>exact .inr ⟨l_ _,by simpa using c⟩
   |succ i=>
    rcases e i z (by simpa using c)with⟨f,b⟩| ⟨f,b⟩
    ·exact .inl ⟨.inr (by simp;omega),by simpa using b⟩
    ·exact .inr ⟨by omega,by simpa using b⟩
  ·cases h
 |x::l,o+1,a,r,h=>by
  unfold pB at h;split at h
  ·rename_i p j;cases h;obtain⟨m,d,e⟩:=lH j;refine⟨by simp;omega,by simp[d],fun i z c=>?_⟩;cases i with
   |zero=>exact .inl ⟨.inl O_,by simpa using c⟩
   |succ i=>
    rcases e i z (by simpa using c)with⟨f,b⟩| ⟨f,b⟩
    ·exact .inl ⟨by omega,by simpa using b⟩
    ·exact .inr ⟨by omega,by rw[show i+1-(o+1)=i-o by omega];exact b⟩
  ·cases h
def bI{α:Type}:∀(l:List α),fh l=l.length
 | []=>rfl
 |_::r=>by simp[fh,bI r]
def sT(arr:Array Value)(fz:Nat × Nat):Prop:=∀o,o<arr.size-> ¬(fz.1<=o/\o<fz.2)
def CR(g:Nat->Option HG)(cs:List HV)(vs:List Value):Prop:=∀(o:Nat)x,cs[o]? =some x->j4 x=true/\ ∃v,vs[o]? =some v/\VR g x v
def CO(q:Bool)(m n:Nat):Prop:=match q with
 |false=>m=n
 |true=>m<=n
structure mJ (g:Nat->Option HG) (w0 w:World) (cs:List HV) (e:TypeId) (q:Bool) (u:HG):Prop where
 d:u.d=0
 b:w0.heap.size<=u.b
 m:∃arr fz,w.heap[u.b]? =some (.cells arr e fz)/\sT arr fz/\arr.size=u.n/\CO q cs.length arr.size/\CR g cs arr.toList
def MR(g:Nat->Option HG):List (List Nat × HV)->List MapEntry->Prop
 | [],a=>a=[]
 |p::r,a=>∃e l,a=e::l/\e.key= .string (eC p.1)/\VR g p.2 e.val/\MR g r l
def ll:HB->Bool
 | .c _ _ _=>true
 | .m _=>true
 |_=>false
def iF(g:Nat->Option HG)(w0 w:World)(u:HG):HB->Prop
 | .c i e q=>mJ g w0 w i e q u
 | .m j=>w0.heap.size<=u.b/\ ∃a f,w.heap[u.b]? =some (.map a f)/\MR g j a.toList
 | .r i=>u.b<w0.heap.size/\ ∀(o:Nat)x,i[o]? =some x->j4 x=true/\ ∃v,w0.cell? ⟨u.b,u.d+o,none⟩=some v/\VR g x v
 | .x=>True
structure HR (g:Nat->Option HG) (w0:World) (h:Nat->Option HB) (k:Nat) (w:World):Prop where
 tb:lX w0
 bel:Below w0.heap.size w0 w
 nx:∀i,k<=i->g i=none
 nh:∀i,k<=i->h i=none
 gl:∀i,i<hG-> ∃n,g i=some ⟨i,0,n⟩
 blk:∀i b u,h i=some b->g i=some u->iF g w0 w u b
 inj:∀i j a b u u',h i=some a->h j=some b->ll a=true->ll b=true->g i=some u->g j=some u'->u.b=u'.b->i=j
def Se(g:Nat->Option HG)(f:Tr HV)(a:Act)(l:List Operand):Prop:=∀x∈l,VR g (hev f x) (a.eval x)
def tD{q:Bool}{m n:Nat}(h:CO q m n):m<=n:=by
 cases q
 ·exact Nat.le_of_eq h
 ·exact h
def pp{g:Nat->Option HG}{w0 w:World}{h:Tr HB}{k b o n:Nat}{l:List HV}{u:HG}(E:HR g w0 h.get k w)(s:MQ h b o n=some l)(F:g b=some u):
 l.length=n/\ ∃c,bi g l c/\c.length=n/\(∀x∈l,j4 x=true)/\ ∀(i:Nat)v,c[i]? =some v->w.cell? ⟨u.b,u.d+o+i,none⟩=some v:=by
 unfold MQ at s;have z:∀a:List HV,Ab o n a=some l->(∀(o:Nat)x,a[o]? =some x->j4 x=true/\ ∃v,w.cell? ⟨u.b,u.d+o,none⟩=some v/\VR g x v)->l.length=n/\ ∃c,bi g l c/\c.length=n/\(∀x∈l,j4 x=true)/\ ∀(i:Nat)v,c[i]? =some v->w.cell? ⟨u.b,u.d+o+i,none⟩=some v:=by
  intro a y f;obtain⟨t,A,m⟩:=xB y;obtain⟨c,H,S,I⟩:=bi.of (g:=g) (xs:=l) (C:=fun i v=>w.cell? ⟨u.b,u.d+o+i,none⟩=some v) (fun i x j=>by obtain⟨_,v,J,K⟩:=f (o+i) x (m i x j);exact⟨v,by rw[Nat.add_assoc];exact J,K⟩)
  refine⟨t,c,H,by omega,fun x j=>?_,I⟩;obtain⟨i,Q⟩:=W_ j;exact(f (o+i) x (m i x Q)).1
 split at s
 ·rename_i a e q B;obtain⟨N,L,G,R,O,_,_,T,y⟩:mJ g w0 w a e q u:=E.blk b _ u B F;refine z a s fun p x j=>?_;obtain⟨t,v,A,m⟩:=y p x j;refine⟨t,v,?_,m⟩;rw[N,J_];simpa[World.cell?,O]using A
 ·rename_i a B;obtain⟨D,y⟩:iF g w0 w u (.r a):=E.blk b _ u B F;refine z a s fun p x j=>?_;obtain⟨t,v,A,m⟩:=y p x j;exact⟨t,v,(E.bel.cell (p:=⟨u.b,u.d+p,none⟩) D).trans A,m⟩
 ·cases s
section
variable {P:Program}{g:Nat->Option HG}{w0 w:World}{h:Tr HB}{k:Nat}
def eS{t n:Nat}(h:hsz P t=some n)(w:World):(sizeOf t).run P w= .ok n w:=by
 unfold hsz at h;split at h
 ·rename_i i a;cases h;exact b5 (by rw[a];rfl) w
 ·cases h
def rj{t:Nat}{b:Bool}(h:K5 P t=some b):∃u,P.underlying t=some u/\kP u=b:=by
 unfold K5 at h;split at h
 ·cases h;exact⟨_,by assumption,rfl⟩
 ·cases h;exact⟨_,by assumption,rfl⟩
 ·rename_i u a c d;cases h;refine⟨u,d,?_⟩;cases u<;>first|rfl|exact absurd rfl (a _)|exact absurd rfl (c _ _)
 ·cases h
def Jr{t b o:Nat}{x:HV}{u:HG}(y:HR g w0 h.get k w)(a:hrd P h t b o=some x)(z:g b=some u):∃v,(loadVar t ⟨u.b,u.d+o,none⟩).run P w= .ok v w/\VR g x v:=by
 unfold hrd at a;split at a
 ·rename_i c;obtain⟨d,p,e⟩:=rj c;split at a
  ·rename_i n C;split at a
   ·rename_i l q;cases a;obtain⟨A,i,f,s,_,m⟩:=pp y q z;refine⟨.agg i.toArray,?_,by rw[VR];exact⟨i,rfl,f⟩⟩;have B:=run_loadCells_list (P:=P) w ⟨u.b,u.d+o,none⟩ i (fun j v D=>by rw[bt];exact m j v D);simp only[loadVar,Y_,R_,gI p w,e,if_true,eS C w,<- s,B,a_]
   ·cases a
  ·cases a
 ·rename_i c;obtain⟨d,p,e⟩:=rj c;split at a
  ·rename_i E q;cases a;obtain⟨A,i,f,s,_,m⟩:=pp y q z;rw[bi]at f;obtain⟨v,r,rfl,f,_⟩:=f;refine⟨v,?_,f⟩;have:=m 0 v rfl;simp only[Nat.add_zero]at this;simp only[loadVar,Y_,R_,gI p w,e,Bool.false_eq_true,if_false,run_load,this]
  ·cases a
 ·cases a
def M2{t o:Nat}{cs:List HV}{vs:List Value}{x:HV}(a:hcut P t cs o=some x)(z:bi g cs vs)(w:World):∃v,(part t vs.toArray o).run P w= .ok v w/\VR g x v:=by
 unfold hcut at a;have f:∀{n:Nat}{l:List HV},Ab o n cs=some l->bi g l ((vs.drop o).take n):=by
  intro n l e;obtain⟨j,u,m⟩:=xB e;obtain⟨s,p,H,B⟩:=bi.of (g:=g) (xs:=l) (C:=fun i y=>vs[o+i]? =some y) (fun i x G=>z.at _ _ (m i x G));have E:=z.len;have:s=(vs.drop o).take n:=by
   apply List.ext_getElem?;intro i;by_cases D:i<n
   ·obtain⟨y,A⟩:∃y,s[i]? =some y:=⟨s[i]'(by omega),by simp⟩;rw[A,List.getElem?_take,if_pos D,List.getElem?_drop,B i y A]
   ·rw[List.getElem?_eq_none O_,List.getElem?_eq_none (by simp;omega)]
  rw[<- this];exact p
 split at a
 ·rename_i b;obtain⟨d,q,c⟩:=rj b;split at a
  ·rename_i n F;split at a
   ·rename_i l e;cases a;refine⟨.agg ((vs.drop o).take n).toArray,?_,by rw[VR];exact⟨_,rfl,f e⟩⟩;simp only[part,Y_,gI q w,R_,c,if_true,eS F w,a_];congr 2;simp
   ·cases a
  ·cases a
 ·rename_i b;obtain⟨d,q,c⟩:=rj b;split at a
  ·rename_i I e;cases a;have j:=f e;rw[bi]at j;obtain⟨v,r,u,m,_⟩:=j;refine⟨v,?_,m⟩;have p:vs[o]? =some v:=by have:=congrArg (fun l:List Value=>l[0]?) u;simpa using this
   simp[part,Y_,gI q w,R_,c,p]
  ·cases a
 ·cases a
end
end Go.Proofs.YtnchbpoopnjghaaGreatDoor
