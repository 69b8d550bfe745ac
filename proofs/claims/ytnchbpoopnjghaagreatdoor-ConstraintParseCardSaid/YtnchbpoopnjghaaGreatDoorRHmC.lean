/- What the machine of HmA reckons is what the model does: operations that only read. -/
import Derived.Test.YtnchbpoopnjghaaGreatDoorRHmB
set_option maxHeartbeats 100000000
set_option linter.all false
namespace Go.Proofs.YtnchbpoopnjghaaGreatDoor
open Go.RowKit
section
variable {P:Program}{g:Nat->Option HG}{w0 w:World}{h:Tr HB}{k:Nat}
def VR.v_inv{g:Nat->Option HG}{x y:Value}(h:VR g (.v x) y):y=x:=by rw[VR]at h;exact h.1
def VR.z_inv{g:Nat->Option HG}{l:List Nat}{y:Value}(h:VR g (.z l) y):y= .string (eC l):=by rw[VR]at h;exact h
def VR.vok{g:Nat->Option HG}{x:Value}(h:zB x=true):VR g (.v x) x:=by rw[VR];exact⟨rfl,h⟩
def VR.zok{g:Nat->Option HG}{l:List Nat}:VR g (.z l) (.string (eC l)):=by rw[VR]
def VR.pok{g:Nat->Option HG}{b o:Nat}{u:HG}(h:g b=some u):VR g (.p b o) (.pointer (some ⟨u.b,u.d+o,none⟩)):=by rw[VR];exact⟨u,h,rfl⟩
def VR.p_inv{g:Nat->Option HG}{b o:Nat}{y:Value}(h:VR g (.p b o) y):∃u,g b=some u/\y= .pointer (some ⟨u.b,u.d+o,none⟩):=by rw[VR]at h;exact h
def VR.s_inv{g:Nat->Option HG}{b o n c:Nat}{q:Bool}{y:Value}(h:VR g (.s b o n c q) y):∃u a,g b=some u/\y= .slice (some ⟨u.b,u.d+o,none⟩) n a/\n<=a/\a<=9223372036854775807/\Ku q o u.n c a:=by rw[VR]at h;exact h
def VR.a_inv{g:Nat->Option HG}{cs:List HV}{y:Value}(h:VR g (.a cs) y):∃b:List Value,y= .agg b.toArray/\bi g cs b:=by rw[VR]at h;exact h
def VR.m_inv{g:Nat->Option HG}{b:Nat}{y:Value}(h:VR g (.m b) y):∃u,g b=some u/\y= .map (some u.b):=by rw[VR]at h;exact h
def VR.t_inv{g:Nat->Option HG}{cs:List HV}{y:Value}(h:VR g (.t cs) y):∃a:List Value,y= .tuple a.toArray/\bi g cs a:=by rw[VR]at h;exact h
def VR.i_inv{g:Nat->Option HG}{t:Nat}{x:HV}{y:Value}(h:VR g (.i t x) y):∃u,y= .iface t u/\VR g x u:=by rw[VR]at h;exact h
def VR.f_inv{g:Nat->Option HG}{a:Fn}{b cs:List HV}{y:Value}(h:VR g (.f a b cs) y):∃c d:List Value,y= .func a c.toArray d.toArray/\bi g b c/\bi g cs d:=by rw[VR]at h;exact h
def t6(l:List Nat):(eC l).toList=l.map UInt8.ofNat:=by rw[ByteArray.toList_eq];simp[eC]
def d8(l:List Nat):(eC l).size=l.length:=by simp[eC,ByteArray.size]
def Bb(a b:List Nat):eC a++eC b=eC (a++b):=by apply ByteArray.ext;simp[eC]
def oz(a b:Nat):(UInt8.ofNat a=UInt8.ofNat b)↔a%256=b%256:=by rw[<- UInt8.toNat_inj];simp
def y9(a b:Nat):(UInt8.ofNat a<UInt8.ofNat b)↔a%256<b%256:=by rw[UInt8.lt_iff_toNat_lt];simp
def rO:∀(a b:List Nat),((a.map UInt8.ofNat) == (b.map UInt8.ofNat))=wT a b
 | [],[]=>rfl
 | [],_::_=>rfl
 |_::_,[]=>rfl
 |a::r,b::s=>by
  simp only[List.map_cons,wT,List.cons_beq_cons,rO r s];by_cases e:a%256=b%256
  ·rw[show Nat.beq (a%256) (b%256)=true by rw[e];simp,(oz a b).2 e];simp
  ·rw[uq e];have:(UInt8.ofNat a == UInt8.ofNat b)=false:=by simpa using fun h=>e ((oz a b).1 h)
   rw[this];rfl
def Fk(x y:Nat):Nat.blt x y=decide (x<y):=by
 by_cases h:x<y
 ·rw[show Nat.blt x y=true from Nat.ble_eq_true_of_le h];simp[h]
 ·cases hb:Nat.blt x y
  ·simp[h]
  ·exact absurd (N_ hb) h
def yv:∀(a b:List Nat),Op.bytesLess (a.map UInt8.ofNat) (b.map UInt8.ofNat)=u9 a b
 |_,[]=>by simp[Op.bytesLess,u9]
 | [],_::_=>by simp[Op.bytesLess,u9]
 |a::r,b::s=>by
  simp only[List.map_cons,Op.bytesLess,u9,yv r s];by_cases e:a%256<b%256
  ·simp[Fk,e,(y9 a b).2 e]
  ·have d:¬UInt8.ofNat a<UInt8.ofNat b:=fun h=>e ((y9 a b).1 h);by_cases c:a%256=b%256
   ·rw[show Nat.beq (a%256) (b%256)=true by rw[c];simp,(oz a b).2 c];simp[Fk,c]
   ·rw[uq c];have:(UInt8.ofNat a == UInt8.ofNat b)=false:=by simpa using fun h=>c ((oz a b).1 h)
    simp[Fk,e,d,this]
def JB(H:HR g w0 h.get k w):∀(d D t:Nat)(x y:HV)(u v:Value)(b:Bool),d<=D->heq P d t x y=some b->VR g x u->VR g y v->(Op.equalIn D t u v).run P w= .ok b w
 |0,_,_,_,_,_,_,_,_,h,_,_=>by cases h
 |d+1,D,t,x,y,u,v,b,R,h,f,j=>by
  obtain⟨l,rfl⟩:∃l,D=l+1:=⟨D-1,by omega⟩;unfold heq at h;split at h<;>rename_i hu
  ·split at h
   ·cases h;rw[f.v_inv,j.v_inv];exact run_equalIn_bool w l t _ _ hu
   ·cases h
  ·split at h
   ·split at h
    ·rename_i F;subst F;cases h;rw[f.v_inv,j.v_inv];exact run_equalIn_int w l t _ _ _ _ hu
    ·cases h
   ·cases h
  ·split at h
   ·cases h;rw[f.v_inv,j.v_inv];exact Io
   ·cases h;obtain⟨q,_,rfl⟩:=f.p_inv;rw[j.v_inv];exact Io
   ·rename_i b o Q z;split at h
    ·rename_i a I;cases h;have a:=Nat.eq_of_beq_eq_true a;subst a;obtain⟨q,G,rfl⟩:=f.p_inv;obtain⟨S,m,rfl⟩:=j.p_inv;rw[G]at m;cases m;have B:((⟨q.b,q.d+o,none⟩:Addr) == ⟨q.b,q.d+z,none⟩)=Nat.beq o z:=by
      by_cases e:o=z
      ·subst e;simp
      ·rw[uq e];simpa using e
     simp[Op.equalIn,run_underlying hu,eS I w,sameAddr,B]
    ·cases h
   ·cases h
  ·split at h
   ·cases h;obtain⟨q,c,_,rfl,_⟩:=f.s_inv;rw[j.v_inv];exact Io
   ·cases h
  ·split at h
   ·cases h;rw[f.v_inv,j.v_inv];exact Io
   ·cases h;obtain⟨q,rfl,_⟩:=f.i_inv;rw[j.v_inv];exact Io
   ·rename_i A N J O;obtain⟨K,rfl,r⟩:=f.i_inv;obtain⟨L,rfl,s⟩:=j.i_inv;split at h
    ·rename_i a;cases h;have n:A≠J:=fun e=>by rw[e]at a;simp at a
     simp[Op.equalIn,run_underlying hu,n]
    ·rename_i a;have a:=Nat.eq_of_beq_eq_true a;subst a;split at h
     ·rename_i i E;split at h
      ·rename_i C;have:=JB H d l A N O K L b O_ h r s;simp[Op.equalIn,run_underlying hu,typeInfo,E,C,this]
      ·cases h
     ·cases h
   ·cases h
  ·cases h
def eJ(op:BinOp)(t:TypeId)(x y:Operand)(a b:Value)(d:a≠ .nilIface)(e:∀c,a≠ .agg c):(eqGuard op t x y a b).run P w= .ok () w:=by unfold eqGuard;cases op<;>simp;all_goals(split <;>first|(exact absurd rfl d)|(exact absurd rfl (e _))|rfl)
def uJ(op:BinOp)(t:TypeId)(x y:Operand)(b:Value)(a:(yI x || yI y)=true):(eqGuard op t x y .nilIface b).run P w= .ok () w:=by
 unfold eqGuard;cases op<;>simp;all_goals
  split
  ·cases x<;>cases y<;>simp_all [yI]
  ·rename_i h;cases h
  ·rfl
def xV:Value->Bool
 | .int _ _=>false
 | .string _=>false
 | .float _ _=>false
 | .complex _ _ _=>false
 |_=>true
def EQ{t:TypeId}{u v:Value}(h:xV u=true):binOp .eql t u v=(do pure (.bool (<- Op.equal t u v)):Sem Value):=by cases u<;>first|(cases h;done)|rfl
def E2{t:TypeId}{u v:Value}(h:xV u=true):binOp .neq t u v=(do pure (.bool (!(<- Op.equal t u v))):Sem Value):=by cases u<;>first|(cases h;done)|rfl
def Nb{op:BinOp}{t:TypeId}{x y:Operand}{a b:HV}{r:HV}{u v:Value}(L:HR g w0 h.get k w)(f:hbin P op t x y a b=some r)(i:VR g a u)(D:VR g b v):
 ∃q,(do eqGuard op t x y u v;binOp op t u v:Sem Value).run P w= .ok q w/\VR g r q:=by
 unfold hbin at f;split at f
 ·rename_i Q n R o;split at f
  ·rename_i s N;split at f
   ·rename_i j;cases f;rw[i.v_inv,D.v_inv,nT N];exact⟨s,rfl,VR.vok j⟩
   ·cases f
  ·cases f
 ·rename_i n o;rw[i.z_inv,D.z_inv];have hgd:=eJ (P:=P) (w:=w) op t x y (.string (eC n)) (.string (eC o)) S_ S_;simp only[Y_,hgd,R_];have E:∀q:Sem Value,binOp op t (.string (eC n)) (.string (eC o))=Op.stringOp op (eC n) (eC o):=by intro q;cases op<;>rfl
  rw[E (pure undef)];unfold Op.stringOp;simp only[t6,rO,yv];cases op;all_goals first|(cases f;done)|skip
  ·simp only at f ⊢;split at f
   ·rename_i p;cases f;have p:=N_ p;rw[bI,bI]at p;have J:IntKind.max .i64=9223372036854775807:=D_;have K:¬(((eC n).size+(eC o).size:Nat):Int) > IntKind.i64.max:=by rw[J,d8,d8];omega
    refine⟨.string (eC (n++o)),?_,VR.zok⟩;rw[if_neg K,Bb];rfl
   ·cases f
  all_goals(cases f;exact⟨_,rfl,VR.vok rfl⟩)
 ·rename_i n o _ _;split at f
  ·rename_i O C d;split at f
   ·rename_i s H;cases f;have A:=JB L 20 10000 t a b u v s O_ H i D;have I:(eqGuard op t x y u v).run P w= .ok () w:=by
     unfold Sb at d;split at d
     ·rw[i.v_inv];exact uJ op t x y v d
     ·cases d
     ·rename_i z m l _ _;have j:=i;rw[VR]at j;rw[j.1];refine eJ op t x y z v m (fun c e=>?_);have B:=j.2;rw[e]at B;cases B
     ·obtain⟨_,_,rfl⟩:=i.p_inv;exact eJ op t x y _ v S_ S_
     ·obtain⟨_,_,_,rfl,_⟩:=i.s_inv;exact eJ op t x y _ v S_ S_
     ·obtain⟨_,rfl,_⟩:=i.i_inv;exact eJ op t x y _ v S_ S_
     ·cases d
    simp only[Y_,I,R_];have F:xV u=true:=by
     unfold Sb at d;split at d
     ·rw[i.v_inv];rfl
     ·cases d
     ·rename_i z m l _ _;have j:=i;rw[VR]at j;rw[j.1];have B:=j.2;cases z<;>first|rfl|(cases B;done)|exact absurd rfl (l _ _)
     ·obtain⟨_,_,rfl⟩:=i.p_inv;rfl
     ·obtain⟨_,_,_,rfl,_⟩:=i.s_inv;rfl
     ·obtain⟨_,rfl,_⟩:=i.i_inv;rfl
     ·cases d
    have G:(binOp op t u v).run P w= .ok (.bool (s == O)) w:=by
     cases op<;>first|(cases C;done)|skip
     ·cases C;rw[EQ F];simp only[Y_,Op.equal,Op.maxDepth,A,R_];cases s<;>rfl
     ·cases C;rw[E2 F];simp only[Y_,Op.equal,Op.maxDepth,A,R_];cases s<;>rfl
    exact⟨_,G,VR.vok rfl⟩
   ·cases f
  ·cases f
def jm{x:HV}{n:Nat}{v:Value}(h:sV x=some n)(a:VR g x v):∃b,v= .int b (n:Nat):=by
 unfold sV at h;split at h
 ·cases h;exact⟨_,a.v_inv⟩
 ·cases h
def nc{v:Value}{ik:IntKind}{n y:Nat}{a:BoundsCode}(b:v= .int ik (n:Nat))(c:n<=y):(Instr.sliceBound v y a).run P w= .ok n w:=by subst b;simp only[Instr.sliceBound,asIntOf,Y_,a_,R_];rw[if_pos ⟨by omega,by omega⟩];simp
def BR(g:Nat->Option HG)(m:Option Nat)(v:Option Value):Prop:=match m,v with
 |none,none=>True
 |some n,some v=>∃a,v= .int a (n:Nat)
 |_,_=>False
def El{f:Tr HV}{a:Act}{x:Option Operand}{m:Option Nat}(h:MH f x=some m)(b:∀y,x=some y->VR g (hev f y) (a.eval y)):BR g m (x.map a.eval):=by
 unfold MH at h;split at h
 ·cases h;trivial
 ·rename_i y;split at h
  ·rename_i n c;cases h;exact jm c (b y rfl)
  ·cases h
def lB{len cap l u:Nat}{j e:Option Value}{m n:Option Nat}{sl:Bool}(c:BR g m j)(d:BR g n e)(o:l=m.getD 0)(p:u=n.getD len)(a:l<=u)(b:u<=cap):(Instr.sliceBounds sl len cap j e none).run P w= .ok (l,u,cap) w:=by
 subst o p;unfold Instr.sliceBounds;cases n<;>cases e<;>first|exact d.elim|skip
 all_goals cases m<;>cases j<;>first|exact c.elim|skip
 ·simp
 ·obtain⟨q,f⟩:=c;simp only[Option.getD]at a b ⊢;simp[nc f a]
 ·obtain⟨r,i⟩:=d;simp only[Option.getD]at a b ⊢;simp[nc i b]
 ·obtain⟨q,f⟩:=c;obtain⟨r,i⟩:=d;simp only[Option.getD]at a b ⊢;simp[nc i b,nc f a]
def yh(l:List Nat)(i j:Nat):(eC l).extract i j=eC ((l.take j).drop i):=by apply ByteArray.ext;rw[ByteArray.data_extract];apply Array.ext';simp[eC,List.extract_eq_drop_take,List.drop_take]
def Fp{t:TypeId}{x r:HV}{v:Value}{N L:Option Value}{f F:Option Nat}(a:Bo P t x f F=some r)(E:VR g x v)(C:BR g f N)(D:BR g F L):
 ∃q,(Instr.sliceAt t v N L none).run P w= .ok q w/\VR g r q:=by
 unfold Bo at a;split at a<;>rename_i p
 ·split at a
  ·rename_i s;unfold VD at a;split at a
   ·rename_i j m;cases a;have j:=N_ j;have m:=N_ m;rw[bI]at j m;rw[E.z_inv];refine⟨.string (eC ((s.take (F.getD s.length)).drop (f.getD 0))),?_,by rw[bI];exact VR.zok⟩;have y:=lB (P:=P) (w:=w) (len:=(eC s).size) (cap:=(eC s).size) (sl:=false) C D rfl (by rw[d8]) j (by rw[d8];exact m);simp[Instr.sliceAt,Instr.slice,run_underlying p,y,yh]
   ·cases a
  ·cases a
 ·rename_i e;split at a
  ·rename_i k J;split at a
   ·split at a
    ·rename_i j m;cases a;have j:=Nat.eq_of_beq_eq_true j;have m:=Nat.eq_of_beq_eq_true m;rw[E.v_inv];have y:=lB (P:=P) (w:=w) (len:=0) (cap:=0) (l:=0) (u:=0) (sl:=true) C D j.symm m.symm (l_ _) (l_ _);exact⟨.slice none 0 0,by simp[Instr.sliceAt,Instr.slice,run_underlying p,y,eS J w],VR.vok rfl⟩
    ·cases a
   ·rename_i b o n c;obtain⟨q,i,I,rfl,R,Q,A⟩:=E.s_inv;have A:i=c:=A;subst A;unfold VE at a;split at a
    ·rename_i G H K;have G:=N_ G;have H:=N_ H;have K:f.getD 0<i:=N_ K;cases a;have y:=lB (P:=P) (w:=w) (len:=n) (cap:=i) (sl:=true) C D rfl rfl G H;refine⟨_,by simp only[Instr.sliceAt,Instr.slice,Y_,run_underlying p,R_,y,eS J w];rfl,?_⟩;rw[if_neg O_,Option.map_some,bt,VR];exact⟨q,_,I,by rw[Nat.add_assoc],by omega,by omega,rfl⟩
    ·cases a
   ·rename_i b o n c;obtain⟨q,i,I,rfl,R,Q,A⟩:=E.s_inv;have A:o+i*c=q.n:=A;split at a
    ·rename_i z;have z:=Nat.eq_of_beq_eq_true z;subst z;unfold VC at a;split at a
     ·rename_i j m O;have j:=N_ j;have m:=N_ m;cases a;have y:=lB (P:=P) (w:=w) (len:=n) (cap:=i) (sl:=true) C D rfl rfl j O_;refine⟨.slice (if i=f.getD 0 then some ⟨q.b,q.d+o,none⟩else some ((⟨q.b,q.d+o,none⟩:Addr).add (f.getD 0*c))) (F.getD n-f.getD 0) (i-f.getD 0),by simp only[Instr.sliceAt,Instr.slice,Y_,run_underlying p,R_,y,eS J w];rfl,?_⟩;rw[VR];refine⟨q,i-f.getD 0,I,?_,by omega,by omega,?_⟩
      ·rw[bt,Nat.add_assoc];rcases(Bool.or_eq_true _ _).mp O with B|B
       ·rw[Nat.eq_of_beq_eq_true B];simp
       ·have B:f.getD 0<n:=N_ B;rw[if_neg O_]
      ·show o+f.getD 0*c+(i-f.getD 0)*c=q.n;rw[Nat.add_assoc,<- Nat.add_mul,show f.getD 0+(i-f.getD 0)=i by omega];exact A
     ·cases a
    ·cases a
   ·cases a
  ·cases a
 ·cases a
def MB{x:HV}{n:Nat}{v:Value}(h:hlen x=some n)(a:VR g x v):∃A c,v= .slice A n c:=by
 unfold hlen at h;split at h
 ·cases h;obtain⟨q,c,_,rfl,_⟩:=a.s_inv;exact⟨_,_,rfl⟩
 ·cases h;rw[a.v_inv];exact⟨_,_,rfl⟩
 ·cases h
def bi.one_inv{x:HV}{vs:List Value}(h:bi g [x] vs):∃v,vs=[v]/\VR g x v:=by rw[bi]at h;obtain⟨y,r,rfl,b,a⟩:=h;rw[bi]at a;subst a;exact⟨y,rfl,b⟩
def bi.cons_inv{x:HV}{l:List HV}{vs:List Value}(h:bi g (x::l) vs):∃v r,vs=v::r/\VR g x v/\bi g l r:=by rw[bi]at h;exact h
def LX{b:Builtin}{l:List HV}{ts:List TypeId}{r:HV}{vs:List Value}{ty:TypeId}{cs:Array Bool}(a:QI P b l ts=some r)(j:bi g l vs):∃q,(builtin b ts.toArray ty cs vs.toArray).run P w= .ok (.value q) w/\VR g r q:=by
 unfold QI at a;split at a
 ·split at a
  ·rename_i x t C;obtain⟨v,rfl,f⟩:=j.one_inv;split at a
   ·rename_i i;split at a
    ·rename_i l;cases a;rw[f.z_inv];exact⟨.int .i64 (eC l).size,by simp[builtin,Builtin.len_,run_underlying i,goInt],by rw[d8,bI];exact VR.vok rfl⟩
    ·cases a
   ·rename_i e i;split at a
    ·rename_i n y;cases a;obtain⟨A,c,rfl⟩:=MB y f;exact⟨.int .i64 n,by simp[builtin,Builtin.len_,run_underlying i,goInt],VR.vok rfl⟩
    ·cases a
   ·cases a
  ·cases a
 ·split at a
  ·rename_i x t C;obtain⟨v,rfl,f⟩:=j.one_inv;split at a
   ·rename_i i;cases a;rw[f.v_inv];exact⟨.int .i64 0,by simp[builtin,Builtin.cap_,run_underlying i,goInt],VR.vok rfl⟩
   ·cases a
  ·cases a
 ·split at a
  ·rename_i F B z _ _;cases a;obtain⟨v,rfl,f⟩:=j.one_inv;obtain⟨q,c,u,rfl,G,_,H⟩:=f.s_inv;have s:c≠0:=O_;have p:=Lib.run_unsafeSliceData_row (P:=P) w ts.toArray ty ⟨q.b,q.d+B,none⟩ (z+1) c s;refine⟨_,?_,VR.pok u⟩;simp only[builtin,Y_];erw[p];rfl
  ·cases a
 ·split at a
  ·cases a;obtain⟨v,D,rfl,f,m⟩:=j.cons_inv;obtain⟨E,rfl,o⟩:=m.one_inv;rw[f.v_inv,o.v_inv];exact⟨_,by simp[builtin,Builtin.min_,Builtin.min2];try rfl,VR.vok rfl⟩
  ·cases a
 ·split at a
  ·cases a;obtain⟨v,D,rfl,f,m⟩:=j.cons_inv;obtain⟨E,rfl,o⟩:=m.one_inv;rw[f.v_inv,o.v_inv];exact⟨_,by simp[builtin,Builtin.max_,Builtin.max2];try rfl,VR.vok rfl⟩
  ·cases a
 ·cases a
def nN{t:Nat}{l:List HV}(h:oJ P t=some l)(w:World):∃v,(zeroValue t).run P w= .ok v w/\bi g l v.cells.toList:=by
 unfold oJ at h;split at h
 ·rename_i i a;split at h
  ·rename_i z b;cases h;refine⟨z,jk (by rw[a];exact b) w,?_⟩;have:=bi.map (g:=g) (f:=hc1) (p:=id) (l:=z.cells.toList) (fun x _=>Ei g x);simpa using this
  ·cases h
 ·cases h
def gy{a:TypeId}(b:Bool)(d:Nat)(c:P.underlying a=some .string)(s:ByteArray):(Instr.checkKey b (d+1) a (.string s)).run P w= .ok () w:=by simp[Instr.checkKey,run_underlying c]
def mD(key:List Nat):∀(b:List (List Nat × HV))(a:List MapEntry)(i:Nat),MR g b a->match sc key b with
  |some x=>∃j u,Instr.findNow .string (.string (eC key)) a i=some (some (j,u))/\VR g x u
  |none=>Instr.findNow .string (.string (eC key)) a i=some none
 | [],a,i,h=>by have h:a=[]:=h;subst h;rfl
 |(c,x)::b,a,i,h=>by
  obtain⟨e,l,rfl,d,m,n⟩:=h;have o:=mD key b l (i+1) n;have f:(eC key == eC c)=wT key c:=by rw[beq_toListBytes,t6,t6,rO]
  simp only[sc];cases hq:wT key c with
  |true=>exact⟨i,e.val,by simp[Instr.findNow,Instr.sameNow,d,f,hq],m⟩
  |false=>
   have:Instr.findNow .string (.string (eC key)) (e::l) i=Instr.findNow .string (.string (eC key)) l (i+1):=by simp[Instr.findNow,Instr.sameNow,d,f,hq]
   rw[this];exact o
def H7{b:List (List Nat × HV)}{a:Array MapEntry}{c:TypeId}(h:MR g b a.toList)(key:List Nat)(d:P.underlying c=some .string)(w:World):match sc key b with
  |some x=>∃j u,(Instr.findKey c (.string (eC key)) a.toList).run P w= .ok (some (j,u)) w/\VR g x u
  |none=>(Instr.findKey c (.string (eC key)) a.toList).run P w= .ok none w:=by
 have:=mD key b a.toList 0 h;cases hq:sc key b with
 |none=>rw[hq]at this;simp[Instr.findKey,run_underlying d,this]
 |some x=>rw[hq]at this;obtain⟨j,u,e,f⟩:=this;exact⟨j,u,by simp[Instr.findKey,run_underlying d,e],f⟩
def LT(g:Nat->Option HG):List (Nat × HV)->List (Nat × Value)->Prop
 | [],[]=>True
 |p::a,q::b=>(p.1=q.1/\VR g p.2 q.2)/\LT g a b
 |_,_=>False
def LT.map{α:Type}{i:α->Nat}{p:α->HV}{q:α->Value}:∀{l:List α},(∀x∈l,VR g (p x) (q x))->LT g (l.map fun x=>(i x,p x)) (l.map fun x=>(i x,q x))
 | [],_=>trivial
 |x::l,h=>⟨⟨rfl,h x S_⟩,LT.map (l:=l) (fun y a=>h y (by simp[a]))⟩
def MF{l ys r:List HV}{o:Nat}(h:pB l o ys=some r):r=l.take o++ys++l.drop (o+ys.length):=by
 obtain⟨e,f,d⟩:=lH h;apply List.ext_getElem?;intro i;by_cases j:i<l.length
 ·obtain⟨x,c⟩:∃x,r[i]? =some x:=⟨r[i]'(by omega),by simp⟩;rw[c,List.getElem?_append,List.getElem?_append,List.getElem?_take,List.getElem?_drop];simp only[L_,U_];rcases d i x c with⟨a,b⟩| ⟨a,b⟩
  ·rcases a with a|a
   ·rw[if_pos O_,if_pos O_,if_pos a,b]
   ·rw[if_neg O_,show o+ys.length+(i-(min o l.length+ys.length))=i by omega,b]
  ·have:=(G_.1 b).1;rw[if_pos O_,if_neg O_,show i-min o l.length=i-o by omega,b]
 ·rw[List.getElem?_eq_none O_,List.getElem?_eq_none (by simp;omega)]
def bi.take{xs:List HV}{ys:List Value}(h:bi g xs ys):∀n,bi g (xs.take n) (ys.take n):=by
 induction xs generalizing ys with
 |nil=>intro n;rw[bi]at h;subst h;simpa using bi.nil g
 |cons x xs c=>
  intro n;obtain⟨y,r,rfl,a,b⟩:=h.cons_inv;cases n with
  |zero=>exact bi.nil g
  |succ n=>exact bi.cons a (c b n)
def bi.drop{xs:List HV}{ys:List Value}(h:bi g xs ys):∀n,bi g (xs.drop n) (ys.drop n):=by
 induction xs generalizing ys with
 |nil=>intro n;rw[bi]at h;subst h;simpa using bi.nil g
 |cons x xs c=>
  intro n;obtain⟨y,r,rfl,b,a⟩:=h.cons_inv;cases n with
  |zero=>exact bi.cons b a
  |succ n=>exact c a n
def r6{c:Nat->Option (Nat × Nat)}:∀(r:List (Nat × HV))(s:List (Nat × Value))(p:List HV)(a:Array Value)(b:List HV),bi g p a.toList->LT g r s->x6 c p r=some b-> ∃n,Instr.fill c a s=some n/\bi g b n.toList
 | [],_::_,_,_,_,_,d,_=>d.elim
 |_::_,[],_,_,_,_,d,_=>d.elim
 | [],[],p,a,b,o,_,h=>by cases h;exact⟨a,rfl,o⟩
 |(i,x)::r,(D,v)::s,p,a,b,o,d,h=>by
  obtain⟨⟨e,B⟩,d⟩:=d;dsimp only at e;subst e;simp only[x6]at h;split at h
  ·rename_i m k u;split at h
   ·rename_i q z;have q:=Nat.eq_of_beq_eq_true q;rw[bI]at q;split at h
    ·rename_i l y;have t:=o.len;have f:=B.cells z;have j:=f.len;simp only[Array.length_toList]at t j;obtain⟨A,C,_⟩:=lH y;simp only[Instr.fill,u];dsimp only at j f q A;rw[if_neg (by simp;omega)];refine r6 r s l _ b ?_ d h;have e:=p9 m v.cells.toList 0 a (by simp;omega);rw[<- Array.foldl_toList,Array.toList_zipIdx,e,MF y];have:=((o.take m).append f).append (o.drop (m+(hcells x).length));simpa[j]using this
    ·cases h
   ·cases h
  ·cases h
def zh(c:Array Field)(w:World)(b:c.toList.all (fun f=>(hsz P f.type).isSome)=true):∃a:Array (Nat × Nat),(c.mapM fun f=>do pure (f.offset,<- sizeOf f.type):Sem (Array (Nat × Nat))).run P w= .ok a w/\ ∀i,a[i]? =mW P c i:=by
 have j:∀l:List Field,l.all (fun f=>(hsz P f.type).isSome)=true-> ∃a:List (Nat × Nat),(l.mapM fun f=>do pure (f.offset,<- sizeOf f.type):Sem (List (Nat × Nat))).run P w= .ok a w/\ ∀i,a[i]? =mW P l.toArray i:=by
  intro l;induction l with
  |nil=>intro _;exact⟨[],rfl,fun i=>by simp[mW]⟩
  |cons f l n=>
   intro h;simp only[List.all_cons,B_]at h;obtain⟨a,d,e⟩:=n h.2;obtain⟨z,m⟩:=Option.isSome_iff_exists.1 h.1;refine⟨(f.offset,z)::a,by simp only[List.mapM_cons,Y_,eS m w,R_,a_,d],fun i=>?_⟩;cases i with
   |zero=>simp[mW,m]
   |succ i=>simpa[mW]using e i
 obtain⟨a,d,e⟩:=j c.toList b;refine⟨a.toArray,?_,fun i=>by simpa using e i⟩;rw[Array.mapM_eq_mapM_toList,Sem.run_map,d];rfl
def Q4{α β:Type}(f:α->β)(l:Array α):(l.toList.map f).toArray=l.map f:=Array.ext' S_
def Cs{x:HV}{n:Nat}{v:Value}(h:wn x=some n)(b:VR g x v):v= .int .u8 (n:Nat)/\n<256:=by
 unfold wn at h;split at h
 ·split at h
  ·rename_i a;cases h;exact⟨b.v_inv,N_ a⟩
  ·cases h
 ·cases h
def KW{x:HV}{n:Nat}{v:Value}(h:Jk x=some n)(a:VR g x v):v= .int .i64 (n:Nat):=by
 unfold Jk at h;split at h
 ·cases h;exact a.v_inv
 ·cases h
def Ad{α β:Type}{f:α->Option β}:∀{l:List α}{r:List β},tK f l=some r->r.length=l.length/\ ∀(i:Nat)y,r[i]? =some y-> ∃x,l[i]? =some x/\f x=some y
 | [],r,h=>by cases h;simp
 |x::l,r,h=>by
  simp only[tK]at h;split at h
  ·rename_i y e;split at h
   ·rename_i j a;cases h;obtain⟨c,d⟩:=Ad a;refine⟨by simp[c],fun i z b=>?_⟩;cases i with
    |zero=>simp at b;subst b;exact⟨x,rfl,e⟩
    |succ i=>simpa using d i z (by simpa using b)
   ·cases h
  ·cases h
def IL{f:Tr HV}{a:Act}{o:Oper}{x:HV}(hr:HR g w0 h.get k w)(s:hop P f h o=some x)(hE:Se g f a o.op.operands.toList):∃v,(execOp a.eval o).run P w= .ok (.value v) w/\VR g x v:=by
 have C:∀y,y∈o.op.operands.toList->VR g (hev f y) (a.eval y):=hE;unfold hop at s;unfold execOp;split at s<;>rename_i ho<;>(try rw[ho]at C)<;>(try simp only[ho])
 ·cases s;exact⟨_,rfl,C _ (by simp[Op.operands])⟩
 ·cases s;exact⟨_,rfl,C _ (by simp[Op.operands])⟩
 ·rename_i c x y;have hc:=C c (by simp[Op.operands]);split at s
  ·rename_i X;cases s;rw[X]at hc;exact⟨a.eval x,by rw[hc.v_inv];rfl,C _ (by simp[Op.operands])⟩
  ·rename_i X;cases s;rw[X]at hc;exact⟨a.eval y,by rw[hc.v_inv];rfl,C _ (by simp[Op.operands])⟩
  ·cases s
 ·rename_i t x;have B:=C x (by simp[Op.operands]);split at s
  ·rename_i b Q A;rw[A]at B;obtain⟨q,K,e⟩:=B.p_inv;obtain⟨v,J,L⟩:=Jr hr s K;exact⟨v,by simp only[e,Instr.loadAt,Instr.sureAddr,Y_,a_,R_,J],L⟩
  ·cases s
 ·rename_i x;have B:=C x (by simp[Op.operands]);split at s
  ·rename_i A;cases s;rw[A]at B;obtain⟨q,K,e⟩:=B.p_inv;exact⟨a.eval x,by rw[e];rfl,B⟩
  ·cases s
 ·rename_i op t x y _;obtain⟨q,J,L⟩:=Nb hr s (C x (by simp[Op.operands])) (C y (by simp[Op.operands]));exact⟨q,by rw[Y_,J];rfl,L⟩
 ·rename_i op _ x;have B:=C x (by simp[Op.operands]);split at s
  ·rename_i u A;rw[A]at B;split at s
   ·rename_i r hs;split at s
    ·rename_i hf;cases s;exact⟨r,by rw[B.v_inv,nT hs];rfl,VR.vok hf⟩
    ·cases s
   ·cases s
  ·cases s
 ·rename_i t t' x;have B:=C x (by simp[Op.operands]);split at s
  ·rename_i E N A;cases s;rw[A]at B;exact⟨_,by simp only[B.v_inv,convert,Y_,run_underlying E,run_underlying N,R_];rfl,VR.vok rfl⟩
  ·rename_i et b Q E N A;rw[A]at B;obtain⟨q,K,S⟩:=B.p_inv;split at s
   ·rename_i z R e O U;split at s
    ·rename_i D;cases s;have D:Q<fh R:=N_ D;rw[bI]at D;obtain⟨hd,_,F,fz,hh,_,_,V,_⟩:mJ g w0 w R e false q:=hr.blk b _ q U K;have V:R.length=F.size:=V;refine⟨a.eval x,?_,B⟩;rw[S];have T:w.shape? q.b=some (e,F.size):=by simp[World.shape?,hh]
     have a0:¬(F.size<=q.d+Q):=O_;simp[convert,run_underlying E,run_underlying N,Conv.unsafePointer,Conv.seenAt,viewAt,cellsIn,shape,Sem.run,T,eS O w,a0]
    ·cases s
   ·cases s
  ·rename_i u b Q E N A;rw[A]at B;obtain⟨q,K,S⟩:=B.p_inv;split at s
   ·rename_i z R e O U;split at s
    ·rename_i al;cases s;obtain⟨hd,_,F,fz,hh,_,_,V,_⟩:mJ g w0 w R e false q:=hr.blk b _ q U K;have V:R.length=F.size:=V;refine⟨a.eval x,?_,B⟩;rw[S];rw[bI,V]at al;have T:w.shape? q.b=some (e,F.size):=by simp[World.shape?,hh]
     rw[hd,J_];have a4:(variablesAt ⟨q.b,Q,none⟩ u 1).run P w= .ok true w:=by simp[variablesAt,shape,Sem.run,T,al]
     simp[convert,run_underlying E,run_underlying N,Conv.unsafePointer,Conv.seenAt,viewAt,shape,Sem.run,T,eS O w,a4]
    ·cases s
   ·cases s
  ·cases s
 ·rename_i t x;have B:=C x (by simp[Op.operands]);split at s
  ·cases s
  ·rename_i u E hn;cases s;refine⟨.iface t (a.eval x),?_,by rw[VR];exact⟨_,rfl,B⟩⟩;cases u<;>first|(exact absurd rfl (E _))|skip
   all_goals simp[Instr.makeInterface,run_underlying hn]
  ·cases s
 ·rename_i fn W R;cases s;refine⟨.func fn (W.map a.eval) (R.map a.eval),rfl,?_⟩;rw[VR];refine⟨W.toList.map a.eval,R.toList.map a.eval,by rw[Q4,Q4],bi.map (fun y H=>C y (by simp[Op.operands]at H ⊢;exact .inl H)),bi.map (fun y H=>C y (by simp[Op.operands]at H ⊢;exact .inr H))⟩
 ·rename_i t x fi;have B:=C x (by simp[Op.operands]);split at s
  ·rename_i b Q W A E;rw[A]at B;obtain⟨q,K,e⟩:=B.p_inv;split at s
   ·rename_i fd Y;split at s
    ·rename_i z O;cases s;refine⟨.pointer (some ⟨q.b,q.d+Q+fd.offset,none⟩),?_,by rw[Nat.add_assoc];exact VR.pok K⟩;simp[e,Instr.fieldAt,run_underlying E,Y,Instr.sureAddr,fieldPlace,eS O w,bt]
    ·cases s
   ·cases s
  ·cases s
 ·rename_i t x fi;have B:=C x (by simp[Op.operands]);split at s
  ·rename_i R W A E;rw[A]at B;obtain⟨us,e,Z⟩:=B.a_inv;split at s
   ·rename_i fd Y;obtain⟨v,J,L⟩:=M2 s Z w;exact⟨v,by simp[e,Instr.field,run_underlying E,Y,asAgg,J],L⟩
   ·cases s
  ·cases s
 ·rename_i t x y;have B:=C x (by simp[Op.operands]);have H:=C y (by simp[Op.operands]);split at s
  ·rename_i i n e b Q hi E A;rw[A]at B;obtain⟨ik,I⟩:=jm hi H;obtain⟨q,K,S⟩:=B.p_inv;split at s
   ·rename_i z D O;cases s;have D:i<n:=N_ D;refine⟨.pointer (some ⟨q.b,q.d+Q+i*z,none⟩),?_,by rw[Nat.add_assoc];exact VR.pok K⟩;simp[S,I,Instr.indexAt,asIntOf,run_underlying E,Instr.sureAddr,D,eS O w,bt]
   ·cases s
  ·rename_i i e b Q n _ _ hi E A;rw[A]at B;obtain⟨ik,I⟩:=jm hi H;obtain⟨q,c,K,S,_⟩:=B.s_inv;split at s
   ·rename_i z D O;cases s;have D:i<n:=N_ D;refine⟨.pointer (some ⟨q.b,q.d+Q+i*z,none⟩),?_,by rw[Nat.add_assoc];exact VR.pok K⟩;simp[S,I,Instr.indexAt,asIntOf,run_underlying E,D,eS O w,bt]
   ·cases s
  ·cases s
 ·rename_i t x y;have B:=C x (by simp[Op.operands]);have H:=C y (by simp[Op.operands]);split at s
  ·rename_i i l hi E A;rw[A]at B;obtain⟨ik,I⟩:=jm hi H;split at s
   ·rename_i b U;cases s;refine⟨.int .u8 ((b%256:Nat):Int),?_,VR.vok rfl⟩;have h9:(eC l)[i]? =some (UInt8.ofNat b):=by
     have D:i<l.length:=(G_.1 U).1;rw[getElem?_pos _ _ (by rw[d8];exact D)];have:l[i]=b:=by simpa[D]using U
     simp[eC,ByteArray.getElem_eq_getElem_data,this]
    simp[B.z_inv,I,Instr.index,asIntOf,run_underlying E,h9]
   ·cases s
  ·cases s
 ·rename_i t x lo hi;have B:=C x (by simp[Op.operands]);split at s
  ·rename_i l u V E;obtain⟨q,J,L⟩:=Fp (w:=w) s B (El V fun y e=>C y (by simp[Op.operands,e])) (El E fun y e=>C y (by simp[Op.operands,e]));exact⟨q,by simp only[Option.map_none,Y_,J,R_,a_],L⟩
  ·cases s
 ·rename_i x i;have B:=C x (by simp[Op.operands]);split at s
  ·rename_i l A;rw[A]at B;obtain⟨us,e,Z⟩:=B.t_inv;obtain⟨v,J,L⟩:=Z.at _ _ s;exact⟨v,by simp[e,Instr.extract,J],L⟩
  ·cases s
 ·rename_i t x y;have B:=C x (by simp[Op.operands]);have H:=C y (by simp[Op.operands]);split at s
  ·rename_i kt et b ao E A I;rw[A]at B;rw[I]at H;obtain⟨q,K,S⟩:=B.m_inv;split at s
   ·rename_i es hk U;obtain⟨_,ad,bb,hh,hm⟩:iF g w0 w q (.m es):=hr.blk b _ q U K;have hf:=H7 hm ao hk w;rw[s]at hf;obtain⟨j,u,J,L⟩:=hf;exact⟨u,by simp[S,H.z_inv,Instr.lookup,run_underlying E,getObj,Sem.run,hh,gy (P:=P) (w:=w) ad.isEmpty 9999 hk (eC ao),J],L⟩
   ·cases s
  ·cases s
 ·rename_i t G;have a3:LT g (G.toList.map fun p=>(p.1,hev f p.2)) (G.toList.map fun p=>(p.1,a.eval p.2)):=LT.map fun p hp=>C p.2 (by simp only[Op.operands];simp;exact⟨p.1,by simpa using hp⟩);have e:(G.map fun x=>match x with|(i,y)=>(i,a.eval y)).toList=G.toList.map fun(p:Nat × Operand)=>(p.1,a.eval p.2):=S_;split at s
  ·rename_i W z E O;obtain⟨zv,a9,a5⟩:=nN (g:=g) O w;split at s
   ·rename_i l ag hf;cases s;obtain⟨F,J,L⟩:=r6 _ _ _ _ _ a5 a3 hf;obtain⟨ps,a1,a2⟩:=zh (P:=P) W w ag;rw[show mW P W=fun i=>ps[i]? from funext fun i=>(a2 i).symm]at J;refine⟨.agg F,?_,by rw[VR];exact⟨F.toList,by simp,L⟩⟩;simp only[Instr.build,Y_,a9,R_,run_underlying E,a1,e,J];rfl
   ·cases s
  ·cases s
 ·rename_i b args ts;have hv:bi g (args.toList.map (hev f)) (args.toList.map a.eval):=bi.map (fun y H=>C y (by simp[Op.operands,Call.operands]at H ⊢;exact H));refine Tl ?_;exact LX s hv
 ·cases s
end
end Go.Proofs.YtnchbpoopnjghaaGreatDoor
