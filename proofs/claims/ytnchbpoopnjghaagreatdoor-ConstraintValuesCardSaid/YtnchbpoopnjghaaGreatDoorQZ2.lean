/- Parts of a proof: contracts of the functions that the laws reach. -/
import Derived.Test.YtnchbpoopnjghaaGreatDoorQZ1
set_option maxHeartbeats 100000000
set_option linter.all false
open Go.Proofs.Tryz
namespace Go.Proofs.YtnchbpoopnjghaaGreatDoor
open Go.RowKit
def ep (c:UInt8):Bool:=(decide (97<=c.toNat) && decide (c.toNat<=122)) || (decide (65<=c.toNat) && decide (c.toNat<=90))
def eP (c:UInt8):Bool:=decide (48<=c.toNat) && decide (c.toNat<=57)
def i8 (c:UInt8):Bool:=ep c || eP c || decide (c.toNat=95)
def dq (p:UInt8->Bool) (s:List UInt8):Nat:=(s.takeWhile p).length
theorem km (p:UInt8->Bool) (s:List UInt8):dq p s<=s.length:=by
 induction s with
 |nil=>exact l_ _
 |cons c r ih=>
  unfold dq at *;rw[List.takeWhile_cons]
  split
  ·simpa using ih
  ·simp
theorem m9 {p:UInt8->Bool}:∀{s:List UInt8} {i:Nat},(∀(q:Nat) c,q<i->s[q]? =some c->p c=true)->(s[i]? =none/\i<=s.length∨ ∃c,s[i]? =some c/\p c=false)->dq p s=i
 | [],i,_,h=>by
  rcases h with⟨_,h⟩| ⟨c,h,_⟩
  ·simp at h;simp[dq,h]
  ·simp at h
 |a::s,0,_,h=>by
  rcases h with⟨h,_⟩| ⟨c,h,k⟩
  ·simp at h
  ·simp at h;subst h;simp[dq,List.takeWhile,k]
 |a::s,i+1,hq,h=>by
  have h0:=hq 0 a O_ rfl;have ih:=m9 (s:=s) (i:=i) (fun q c h1 h2=>hq (q+1) c O_ (by simpa using h2)) (by simpa using h);unfold dq at *
  simp only[List.takeWhile,h0,List.length_cons]
  omega
def dF (f:FuncId):DV:= .leaf (.val (.func (.func f) #[] #[]))
theorem iG (c:UInt8):aa Tryz.prog 38 [dN .u8 c.toNat] (.one (dB (ep c))):=by
 by_cases h1:97<=c.toNat
 ·by_cases h2:c.toNat<=122
  ·rw[show ep c=true by unfold ep;simp[h1,h2]]
   refine kU func38 ?_;refine gy ?_;refine p7 ?_;exact aj
  ·rw[show ep c=false by unfold ep;rw[F_ h2,F_ (show ¬c.toNat<=90 by omega)];simp]
   refine kU func38 ?_;refine gy ?_;refine yD ?_
   refine kO3 ?_
   refine yD ?_;exact aj
 ·by_cases h2:65<=c.toNat
  ·by_cases h3:c.toNat<=90
   ·rw[show ep c=true by unfold ep;simp[h2,h3]]
    refine kU func38 ?_;refine wh ?_;refine p7 ?_;exact aj
   ·rw[show ep c=false by unfold ep;rw[F_ h1,F_ h3];simp]
    refine kU func38 ?_;refine wh ?_;refine yD ?_;exact aj
  ·rw[show ep c=false by unfold ep;rw[F_ h1,F_ h2];simp]
   refine kU func38 ?_;refine wh ?_;refine kE ?_;exact aj
theorem lZ (c:UInt8):aa Tryz.prog 130 [dN .u8 c.toNat] (.one (dB (ep c))):=by
 by_cases h1:97<=c.toNat
 ·by_cases h2:c.toNat<=122
  ·rw[show ep c=true by unfold ep;simp[h1,h2]]
   refine kU func130 ?_;refine gy ?_;refine p7 ?_;exact aj
  ·rw[show ep c=false by unfold ep;rw[F_ h2,F_ (show ¬c.toNat<=90 by omega)];simp]
   refine kU func130 ?_;refine gy ?_;refine yD ?_
   refine kO3 ?_
   refine yD ?_;exact aj
 ·by_cases h2:65<=c.toNat
  ·by_cases h3:c.toNat<=90
   ·rw[show ep c=true by unfold ep;simp[h2,h3]]
    refine kU func130 ?_;refine wh ?_;refine p7 ?_;exact aj
   ·rw[show ep c=false by unfold ep;rw[F_ h1,F_ h3];simp]
    refine kU func130 ?_;refine wh ?_;refine yD ?_;exact aj
  ·rw[show ep c=false by unfold ep;rw[F_ h1,F_ h2];simp]
   refine kU func130 ?_;refine wh ?_;refine kE ?_;exact aj
theorem gu (c:UInt8):aa Tryz.prog 83 [dN .u8 c.toNat] (.one (dB (eP c))):=by
 by_cases h1:48<=c.toNat
 ·by_cases h2:c.toNat<=57
  ·rw[show eP c=true by unfold eP;simp[h1,h2]]
   refine kU func83 ?_;refine gy ?_;refine p7 ?_;exact aj
  ·rw[show eP c=false by unfold eP;rw[F_ h2];simp]
   refine kU func83 ?_;refine gy ?_;refine yD ?_;exact aj
 ·rw[show eP c=false by unfold eP;rw[F_ h1];simp]
  refine kU func83 ?_;refine gy ?_;refine kE ?_;exact aj
theorem wC (c:UInt8):aa Tryz.prog 131 [dN .u8 c.toNat] (.one (dB (eP c))):=by
 by_cases h1:48<=c.toNat
 ·by_cases h2:c.toNat<=57
  ·rw[show eP c=true by unfold eP;simp[h1,h2]]
   refine kU func131 ?_;refine gy ?_;refine p7 ?_;exact aj
  ·rw[show eP c=false by unfold eP;rw[F_ h2];simp]
   refine kU func131 ?_;refine gy ?_;refine yD ?_;exact aj
 ·rw[show eP c=false by unfold eP;rw[F_ h1];simp]
  refine kU func131 ?_;refine gy ?_;refine kE ?_;exact aj
theorem pA (c:UInt8):aa Tryz.prog 40 [dN .u8 c.toNat] (.one (dB (i8 c))):=by
 have c1:=iG c;have c2:=gu c;unfold i8;cases h1:ep c
 ·rw[h1]at c1
  cases h2:eP c
  ·rw[h2]at c2
   refine kU func40 ?_;refine iQ ?_;refine kC (c2) ?_
   refine kO3 ?_
   by_cases h3:c.toNat=95
   ·refine kT ?_
    rw[T_ h3];exact aj
   ·refine kE ?_
    rw[F_ h3];exact aj
  ·rw[h2]at c2
   refine kU func40 ?_;refine iQ ?_;refine kC (c2) ?_;exact aj
 ·rw[h1]at c1
  refine kU func40 ?_;exact kx
theorem lg {fid:FuncId} {p:UInt8->Bool} (hp:∀c:UInt8,aa Tryz.prog fid [dN .u8 c.toNat] (.one (dB (p c)))) (s:List UInt8) (hl:s.length<=4611686018427387904):aa Tryz.prog 39 [dL s,dF fid] (.one (dN .i64 (dq p s))):=by
 have hB:=aJ s;refine kV func39 ?_
 refine aq Nat (fun i=>i<=s.length/\ ∀(q:Nat) c,q<i->s[q]? =some c->p c=true) (fun i=>⟨[(0, .d (dL s)),(1, .d (dF fid)),(4, .d (dN .i64 0)),(5, .d (dN .i64 i))],[]⟩) (fun i=>s.length-i) 0 ⟨Nat.zero_le _,fun q c h=>absurd h (Nat.not_lt_zero _)⟩
  kw ?_
 rintro i ⟨hi,hq⟩;refine kI ?_
 refine kO3 ?_
 by_cases hlt:i<s.length
 ·have hx:s[i]? =some s[i]:=by simp[hlt]
  have hc:=hp s[i];refine kT ?_
  refine kO4 ?_
  refine gL af (i:=i) (c:=s[i]) hx rfl rfl rfl rfl rfl rfl rfl rfl ?_;cases hb:p s[i]
  ·rw[hb]at hc
   refine kQ (hc) ?_;rw[m9 hq (.inr ⟨_,hx,hb⟩)];exact bK (T:=TT) rfl rfl
  ·rw[hb]at hc
   refine kQ (hc) ?_
   exact⟨i+1,⟨hlt,fun q c h1 h2=>by
    by_cases e:q=i
    ·subst e;rw[hx]at h2;cases h2;exact hb
    ·exact hq q c O_ h2⟩,by omega,weak ⟨rfl,rfl,rfl,ai O_ O_,trivial⟩ trivial rfl⟩
 ·refine kE ?_
  refine kW ?_;rw[m9 hq (.inl ⟨List.getElem?_eq_none O_,hi⟩)];exact bK (T:=TT) rfl rfl
def Gp (s:List UInt8):Nat:=if s[dq eP s]? =some 46/\0<dq eP (s.drop (dq eP s+1))then dq eP s+1+dq eP (s.drop (dq eP s+1))else dq eP s
theorem yl (s:List UInt8) (hl:s.length<=4611686018427387903):aa Tryz.prog 166 [dL s] (.one (dN .i64 (Gp s))):=by
 have hB:=aJ s;have c1:=lg gu s O_;have hn:=km eP s;unfold Gp;generalize dq eP s=n at *
 by_cases h1:n<s.length
 ·have hx:s[n]? =some s[n]:=by simp[h1]
  by_cases h2:s[n]=46
  ·have c2:=lg gu (s.drop (n+1)) (by rw[n_];omega)
   have hm:=km eP (s.drop (n+1));rw[n_]at hm;generalize dq eP (s.drop (n+1))=m at *;have hx2:s[n]? =some 46:=by rw[hx,h2]
   have h2':s[n].toNat=46:=by rw[h2];rfl
   by_cases h3:0<m
   ·rw[if_pos ⟨hx2,h3⟩]
    refine DM ?_;refine u6 ?_;refine PY ?_;refine kT ?_;refine kG ?_;refine kO ?_;refine kJ ((n+1:Nat)) ?_;refine kO ?_;refine kJ ((n+1+m:Nat)) ?_;exact aj
   ·rw[if_neg (fun h=>h3 h.2)]
    refine DM ?_;refine u6 ?_;refine PY ?_;refine kE ?_;exact aj
  ·have h2':¬s[n].toNat=46:=fun e=>h2 (UInt8.toNat_inj.1 e)
   rw[if_neg (fun h=>by rw[hx]at h;exact h2 (Option.some.inj h.1))];refine DM ?_;refine u6 ?_;refine gL af (i:=n) (c:=s[n]) hx rfl rfl rfl rfl rfl rfl rfl rfl ?_;refine kE ?_;exact aj
 ·rw[if_neg (fun h=>by rw[List.getElem?_eq_none O_]at h;cases h.1)]
  refine DM ?_
  refine kO3 ?_
  refine kE ?_;exact aj
theorem jb (s:List UInt8) (c:UInt8):aa Tryz.prog 168 [dL s,dN .u8 c.toNat] (.one (dN .i64 (Lib.indexByte s c))):=
 ⟨aG func168 rfl rfl,fun S w vs hS hv=>by
  match vs,hv with
  | [v,u],⟨h1,h2,_⟩=>
   obtain rfl:=bc h1;obtain rfl:=bc h2;refine(Tryz.strings_IndexByte (Bs s) c.toNat w).mono ?_;rintro e w' ⟨rfl,rfl⟩;have e1:Lib.indexByte (Bs s).data.toList ((c.toNat:Int).toNat.toUInt8)=Lib.indexByte s c:=by simp[Bs]
   rw[e1];exact⟨_,rfl,AV.M.val rfl,Below.refl _ _⟩⟩
def gZ:List UInt8->Nat->Nat
 | [],_=>0
 | [c],i=>if c=34 then i+1 else 0
 |c::d::r,i=>if c=34 then i+1 else if c.toNat<32 then 0 else if c=92 then(if Lib.indexByte [34,92,110] d<0 then 0 else gZ r (i+2))else gZ (d::r) (i+1)
def Ly (s:List UInt8):Nat:=gZ (s.drop 1) 1
theorem Sl {r:List UInt8} {i:Nat}:gZ (34::r) i=i+1:=by cases r<;>simp[gZ]
theorem K8 {c:UInt8} {r:List UInt8} {i:Nat} (h:c≠34) (h':c.toNat<32):gZ (c::r) i=0:=by cases r<;>simp[gZ,h,h']
theorem Lc {c:UInt8} {i:Nat} (h:c≠34):gZ [c] i=0:=by simp[gZ,h]
theorem I4 {d:UInt8} {r:List UInt8} {i:Nat}:gZ (92::d::r) i=if Lib.indexByte [34,92,110] d<0 then 0 else gZ r (i+2):=by simp[gZ]
theorem NF {c:UInt8} {r:List UInt8} {i:Nat} (h:c≠34) (h':¬c.toNat<32) (h2:c≠92):gZ (c::r) i=gZ r (i+1):=by
 cases r with
 |nil=>simp[gZ,h]
 |cons d r=>simp[gZ,h,h',h2]
theorem mc {c:UInt8} {n:UInt8} (h:¬c=n):¬c.toNat=n.toNat:=fun e=>h (UInt8.toNat_inj.1 e)
theorem zY (s:List UInt8) (hl:s.length<=4611686018427387903):aa Tryz.prog 167 [dL s] (.one (dN .i64 (Ly s))):=by
 have hB:=aJ s;refine kV func167 ?_
 refine aq Nat (fun i=>1<=i/\(i<=s.length∨i=1)/\gZ (s.drop i) i=Ly s) (fun i=>⟨[(0, .d (dL s)),(2, .d (dN .i64 0)),(3, .d (dN .i64 i))],[]⟩) (fun i=>s.length+1-i) 1 ⟨l_ _, .inr rfl,rfl⟩
  kw ?_
 rintro i ⟨h1,h2,h3⟩;refine kI ?_
 refine kO3 ?_
 by_cases hlt:i<s.length
 ·have hx:s[i]? =some s[i]:=by simp[hlt]
  rw[List.drop_eq_getElem_cons hlt]at h3;generalize hc:s[i]=c at *;refine kT ?_;refine kG ?_
  refine kO2 ?_
  refine CF ?_
  by_cases c34:c=34
  ·have e34:c.toNat=34:=by rw[c34];rfl
   rw[c34,Sl]at h3;refine kT ?_;refine kG ?_;refine kO ?_;refine kJ ((i+1:Nat)) ?_;rw[<- h3];exact aj
  ·have e34:¬c.toNat=34:=mc c34
   refine kE ?_;refine kG ?_
   refine kO2 ?_
   refine CF ?_
   by_cases c32:c.toNat<32
   ·rw[K8 c34 c32]at h3
    refine kT ?_;rw[<- h3];exact aj
   ·refine kE ?_
    refine kG ?_
    refine kO2 ?_
    refine CF ?_
    by_cases c92:c=92
    ·have e92:c.toNat=92:=by rw[c92];rfl
     refine kT ?_;refine kG ?_;refine kO ?_;refine kJ ((i+1:Nat)) ?_;refine kG ?_
     refine kO3 ?_
     by_cases hend:i+1=s.length
     ·rw[List.drop_eq_nil_of_le O_,Lc c34]at h3
      refine kT ?_;rw[<- h3];exact aj
     ·have hlt2:i+1<s.length:=O_
      have hx2:s[i+1]? =some s[i+1]:=by simp[hlt2]
      rw[List.drop_eq_getElem_cons hlt2,c92,I4]at h3;generalize s[i+1]=d at *;refine kE ?_
      refine kO3 ?_
      refine gL af (i:=i+1) (c:=d) hx2 rfl rfl rfl rfl rfl rfl rfl rfl ?_;refine kC (jb [34,92,110] d) ?_
      by_cases hd:Lib.indexByte [34,92,110] d<0
      ·rw[if_pos hd]at h3
       refine kB true ?_ ?_
       ·exact T_ hd
       rw[<- h3];exact aj
      ·rw[if_neg hd]at h3
       refine kB false ?_ ?_
       ·exact F_ hd
       refine kW ?_;exact⟨i+2,⟨by omega, .inl O_,h3⟩,by omega,weak ⟨rfl,rfl,ai O_ O_,trivial⟩ trivial rfl⟩
    ·have e92:¬c.toNat=92:=mc c92
     rw[NF c34 c32 c92]at h3;refine kY ?_;exact⟨i+1,⟨by omega, .inl O_,h3⟩,by omega,weak ⟨rfl,rfl,ai O_ O_,trivial⟩ trivial rfl⟩
 ·refine kE ?_
  rw[List.drop_eq_nil_of_le O_,gZ]at h3;rw[<- h3];exact aj
def pg:List UInt8:=[43,45,42,47,40,41,91,93,123,125,44,58,59,61,46,60,62,64,35]
def Q7 (c:UInt8):Bool:=decide (0<=Lib.indexByte pg c)
def qo:List UInt8->Nat × Nat
 | []=>(0,0)
 |c::r=>if ep c then(1,dq i8 (c::r))else if eP c then(2,Gp (c::r))else if c=34 then(3,Ly (c::r))else if c=10 then(5,1)else if Q7 c then(4,1)else(0,0)
theorem FU (c:UInt8) (r:List UInt8) (hl:(c::r).length<=4611686018427387903):aa Tryz.prog 119 [dL (c::r)] (.tup [dN .i64 (qo (c::r)).1,dN .i64 (qo (c::r)).2]):=by
 have c1:=iG c;have c2:=gu c;cases h1:ep c
 ·rw[h1]at c1
  cases h2:eP c
  ·rw[h2]at c2
   by_cases h3:c=34
   ·have e3:c.toNat=34:=by rw[h3];rfl
    rw[show qo (c::r)=(3,Ly (c::r)) by rw[qo,h1,h2];simp[h3]];refine zS ?_;refine kG ?_;refine F6 ?_;refine kC (zY (c::r) hl) ?_;exact aj
   ·have e3:¬c.toNat=34:=mc h3
    by_cases h4:c=10
    ·have e4:c.toNat=10:=by rw[h4];rfl
     rw[show qo (c::r)=(5,1) by rw[qo,h1,h2];simp[h3,h4]];refine zS ?_;refine kG ?_;refine kO ?_;refine kE ?_;refine kG ?_;refine kO ?_;refine kT ?_;exact aj
    ·have e4:¬c.toNat=10:=mc h4
     by_cases h5:0<=Lib.indexByte pg c
     ·rw[show qo (c::r)=(4,1) by simp[qo,h1,h2,h3,h4,Q7,h5]]
      refine zS ?_;refine kG ?_;refine kO ?_;refine kE ?_;refine kG ?_;refine Cy ?_;refine kC (jb pg c) ?_;refine kB true ?_ ?_
      ·exact T_ h5
      exact aj
     ·rw[show qo (c::r)=(0,0) by simp[qo,h1,h2,h3,h4,Q7,h5]]
      refine zS ?_;refine kG ?_;refine kO ?_;refine kE ?_;refine kG ?_;refine Cy ?_;refine kC (jb pg c) ?_;refine kB false ?_ ?_
      ·exact F_ h5
      exact aj
  ·rw[h2]at c2
   rw[show qo (c::r)=(2,Gp (c::r)) by simp[qo,h1,h2]];refine zS ?_;refine kW ?_;refine kC (yl (c::r) hl) ?_;exact aj
 ·rw[h1]at c1
  rw[show qo (c::r)=(1,dq i8 (c::r)) by simp[qo,h1]];refine kU func119 ?_;refine gy ?_;refine R2 ?_;refine iQ ?_;refine ac (lg pA (c::r) O_) rfl rfl rfl rfl rfl rfl rfl ?_;exact aj
inductive RT where
 |v (r:RV)
 |own (j n k e:Nat)
def RT.tv:RT->TV
 | .v r=>r.tv
 | .own j n k e=> .own j n k e
abbrev BL:=List (Nat × List AV)
def ay:BL->List (Nat × Option (List AV))
 | []=>[]
 |(j,cs)::r=>(j,some cs)::ay r
def sB (b:BL):AS:=⟨[],ay b⟩
def uu:Nat->List TV->List (Nat × TV)
 |_,[]=>[]
 |k,d::r=>(k,d)::uu (k+1) r
def oq (S:Nat->Prop) (g:Nat->Nat) (s:AS) (w:World):List TV->List Value->Prop
 | [],[]=>True
 |x::xs,v::vs=>TV.M S g s w x v/\oq S g s w xs vs
 |_,_=>False
def BX (g:Nat->Nat) (b:BL) (q:Nat):Prop:=∃j cs,(sB b).bx j=some cs/\g j=q
structure Gi (S:Nat->Prop) (g:Nat->Nat) (w:World) (b:BL):Prop where
 tab:∀w',cR (BX g b) w w'->KW w'
 blk:∀q,S q->q<w.heap.size/\ ¬BX g b q/\ ∀off v,w.cell? ⟨q,off,none⟩=some v->gb v=true
 gl:∀k cs,ap GT k=some cs->TV.M (Own S g (sB b)) g (sB b) w (.rp cs) (.pointer (some ⟨k,0,none⟩))
 bm:∀j cs,(sB b).bx j=some cs->mb (Own S g (sB b)) g (sB b) w j cs (g j)
 inj:∀i j ci cj,(sB b).bx i=some ci->(sB b).bx j=some cj->g i=g j->i=j
def xo (S:Nat->Prop) (g:Nat->Nat) (b:BL) (r:RT) (b':BL) (w:World) (e:Ending) (w':World):Prop:=
 ∃v g',e= .returned v/\(∀j cs cs',(sB b).bx j=some cs->(sB b').bx j=some cs'->g' j=g j/\cs.length<=cs'.length) /\
  (∀j cs',(sB b').bx j=some cs'->(w.heap.size<=g' j∨BX g b (g' j))/\mb (Own S g' (sB b')) g' (sB b') w' j cs' (g' j)) /\
  (∀i j ci cj,(sB b').bx i=some ci->(sB b').bx j=some cj->g' i=g' j->i=j)/\TV.M (Own S g' (sB b')) g' (sB b') w' r.tv v/\cR (BX g b) w w'
structure az (P:Program) (f:FuncId) (ts:List TV) (b:BL) (r:RT) (b':BL):Prop where
 enter:∀args w,(callFunc f args).run P w= .ok (.enter f args) w
 calls:∀S g w vs,Gi S g w b->oq (Own S g (sB b)) g (sB b) w ts vs->Calls P f vs.toArray w (xo S g b r b' w)
section
variable {n:Nat} {S0:Nat->Prop} {w0:eR} {g:Nat->Nat} {s:AS} {a:Act} {w w':World}
theorem fL:∀(b:BL) (j:Nat),ap (ay b) j=none∨ ∃cs,ap (ay b) j=some (some cs)
 | [],_=> .inl rfl
 |(i,cs)::r,j=>by
  by_cases e:i=j
  ·subst e;exact .inr ⟨cs,am _ _ _⟩
  ·simp only[ay,au _ _ e];exact fL r j
theorem bU {b:BL} {j:Nat} {cs:List AV}:(sB b).bx j=some cs↔ap (ay b) j=some (some cs):=by
 unfold sB AS.bx
 constructor
 ·intro h;split at h
  ·rename_i x hx;cases h;exact hx
  ·cases h
 ·intro h;simp only[h]
theorem zc {α:Type} (x y:List (Nat × α)) (j:Nat):ap (x++y) j=match ap x j with|some v=>some v|none=>ap y j:=ub x y j
def Mn:Option Nat->TV->List (Nat × TV)->List (Nat × TV)
 |some d,x,t=>(d,x)::t
 |none,_,t=>t
def dw (b':BL):BL->List (Nat × Option (List AV))
 | []=>[]
 |(j,_)::r=>match ap (ay b') j with
  |some _=>dw b' r
  |none=>(j,none)::dw b' r
theorem mf {b':BL}:∀{b:BL} {j:Nat} {cs:List AV},ap (ay b) j=some (some cs)->ap (ay b') j=none->ap (dw b' b) j=some none
 | [],_,_,h,_=>by cases h
 |(i,c)::r,j,cs,h,h'=>by
  simp only[dw]
  by_cases e:i=j
  ·subst e
   rw[h'];exact am _ _ _
  ·simp only[ay,au _ _ e]at h
   split
   ·exact mf h h'
   ·rw[au _ _ e];exact mf h h'
theorem jA {b':BL}:∀{b:BL} {j:Nat},ap (ay b) j=none->ap (dw b' b) j=none
 | [],_,_=>rfl
 |(i,c)::r,j,h=>by
  by_cases e:i=j
  ·subst e;simp only[ay,am]at h;cases h
  ·simp only[ay,au _ _ e]at h
   simp only[dw]
   split
   ·exact jA h
   ·rw[au _ _ e];exact jA h
theorem TV.M.sub {S:Nat->Prop} {s s':AS} {x:TV} {v:Value} (h:TV.M S g s w x v) (hk:∀j∈d8 x,s'.kn j) (hb:∀j cs,s'.bx j=some cs->s.bx j=some cs):TV.M S g s' w x v:=by
 cases x with
 |d x=>exact h
 |tup ts=>exact h
 |box j o=>exact⟨hk j (by simp[d8]),fun cs hc=>h.2 cs (hb j cs hc)⟩
 |rp cs=>exact h
 |own j n k e0=>exact⟨hk j (by simp[d8]),fun cs hc=>h.2 cs (hb j cs hc)⟩
 |clo fn fs cs=>obtain⟨us,vs,e,h1,h2⟩:=h;exact⟨us,vs,e,h1.weak hb (fun j hj=>hk j (by simp[d8,hj])),h2.weak hb (fun j hj=>hk j (by simp[d8,hj]))⟩
 |mp es=>exact h
 |nil=>exact h
 |und=>exact h
 |junk=>trivial
 |dfr=>trivial
 |vw j o n k=>exact⟨hk j (by simp[d8]),fun cs hc=>h.2 cs (hb j cs hc)⟩
 |vs j o n c k e0=>exact⟨hk j (by simp[d8]),fun cs hc=>h.2 cs (hb j cs hc)⟩
theorem MG.callT (h:MG n S0 w0 g s a w) {b b':BL} (hb:qQ s (ay b)) (hwfc:ui (ay b) (ay b)=true) (hcl:∀j cs,s.bx j=some cs->j ∉ b.map (·.1)->bL j=false)
 (hnew:∀j cs,(sB b').bx j=some cs->ap (ay b) j=none->ap s.b j=none/\iF j=false):
 ∃S,Gi S g w b/\Own S g (sB b)=Own S0 g s/\ ∀(r:RT) (v:Value) (g':Nat->Nat) (w':World),
  (∀j cs cs',(sB b).bx j=some cs->(sB b').bx j=some cs'->g' j=g j/\cs.length<=cs'.length) ->
  (∀j cs',(sB b').bx j=some cs'->(w.heap.size<=g' j∨BX g b (g' j))/\mb (Own S g' (sB b')) g' (sB b') w' j cs' (g' j)) ->
  (∀i j ci cj,(sB b').bx i=some ci->(sB b').bx j=some cj->g' i=g' j->i=j)->TV.M (Own S g' (sB b')) g' (sB b') w' r.tv v->cR (BX g b) w w' ->
  ∀(dst:Option Nat),(∀d,dst=some d->d<n) ->
  ∃g2,MG n S0 w0 g2 ⟨Mn dst r.tv s.t,ay b'++dw b' b++s.b⟩ (a.put dst v) w':=by
 have inb:∀j cs,(sB b).bx j=some cs->s.bx j=some cs:=fun j cs hj=>hb.at (bU.1 hj)
 have bxown:∀q,BX g b q->Own S0 g s q:=fun q ⟨j,cs,hj,e⟩=> .inr ⟨j,cs,inb j cs hj,e⟩
 have s0no:∀q,S0 q-> ¬BX g b q:=fun q hq ⟨j,cs,hj,e⟩=>by
  have h1:=h.cl q hq;rcases(h.bm j cs (inb j cs hj)).1 with h2|h2
  ·rw[e]at h2;exact absurd h1.1 (Nat.not_lt.2 h2)
  ·rw[e]at h2;exact h1.2.1 h2
 have notin:∀i ci,s.bx i=some ci->ap (ay b) i=none-> ¬BX g b (g i):=fun i ci hi hn ⟨j,cs,hj,e⟩=>by
  have:=h.inj j i cs ci (inb j cs hj) hi e;subst this;rw[bU.1 hj]at hn;cases hn
 refine⟨fun q=>Own S0 g s q/\ ¬BX g b q,?_,?_,?_⟩
 ·refine⟨fun w' hw=>h.tg w' (h.grow.go hw (fun q ⟨j,cs,hj,e⟩=>by rw[<- e];exact(h.bm j cs (inb j cs hj)).1)),fun q hq=>⟨h.own_lt hq.1,hq.2,?_⟩,fun k cs hk=>?_,fun j cs hj=>?_,fun i j ci cj hi hj e=>h.inj i j ci cj (inb i ci hi) (inb j cj hj) e⟩
  ·intro off v hv
   rcases hq.1 with hs| ⟨j,cs,hj,e⟩
   ·obtain⟨h1,hx,h2⟩:=h.cl q hs
    exact h2 off v (by rw[show w.cell? ⟨q,off,none⟩=w0.w.cell? ⟨q,off,none⟩ from World.cell?_of_block (h.grow.block q h1 hx)]at hv;exact hv)
   ·subst e
    have hjn:j ∉ b.map (·.1):=fun hm=>by
     have:∀(b:BL),j∈b.map (·.1)-> ∃cs,ap (ay b) j=some (some cs):=by
      intro b
      induction b with
      |nil=>intro hm;cases hm
      |cons p r ih=>
       obtain⟨i,c⟩:=p;intro hm
       by_cases e:i=j
       ·subst e;exact⟨c,am _ _ _⟩
       ·obtain⟨c',hc'⟩:=ih (by simpa[show ¬j=i from fun e'=>e e'.symm]using hm)
        exact⟨c',by simp only[ay,au _ _ e];exact hc'⟩
     obtain⟨c,hc⟩:=this b hm;exact hq.2 ⟨j,c,bU.2 hc,rfl⟩
    have hwb:bL j=false:=hcl j cs hj hjn;obtain⟨_,arr,e1,h1,_,h3,_⟩:=h.bm j cs hj
    simp only[World.cell?,h1,Option.isSome_none,Bool.false_eq_true,if_false]at hv
    exact h3 hwb v (Array.mem_toList_iff.2 (Array.mem_of_getElem? hv))
  ·have e:Own (fun q=>Own S0 g s q/\ ¬BX g b q) g (sB b)=Own S0 g s:=by
    exact Ig
   rw[e];exact h.gl k cs hk
  ·have e:Own (fun q=>Own S0 g s q/\ ¬BX g b q) g (sB b)=Own S0 g s:=by
    exact Ig
   rw[e];obtain⟨_,arr,e1,p1,p2,p3,p4,p5⟩:=h.bm j cs (inb j cs hj);exact⟨arr,e1,p1,p2,p3,fun hl i a v ha hv=>(p4 hl i a v ha hv).sub (fun q hq=>ui.at hwfc (bU.1 hj) hl q (mI ha q hq)) inb,p5⟩
 ·exact Ig
 ·intro r v g' w' hkeep hbm hinj hres hbx dst hdst
  generalize hs2:(AS.mk (Mn dst r.tv s.t) (ay b'++dw b' b++s.b))=s2;have hb2:s2.b=ay b'++(dw b' b++s.b):=by rw[<- hs2,e_]
  have lk:∀i,ap s2.b i=match ap (ay b') i with|some v=>some v|none=>(match ap (dw b' b) i with|some v=>some v|none=>ap s.b i):=fun i=>by
   rw[hb2,zc,zc];cases ap (ay b') i<;>cases ap (dw b' b) i<;>rfl
  have al:∀i ci,s2.bx i=some ci->(sB b').bx i=some ci∨((sB b').bx i=none/\ap (ay b') i=none/\ap (ay b) i=none/\s.bx i=some ci):=by
   intro i ci hi;unfold AS.bx at hi;rw[lk i]at hi;rcases fL b' i with h1| ⟨cs,h1⟩
   ·right
    simp only[h1]at hi
    rcases fL b i with h2| ⟨cs,h2⟩
    ·rw[jA h2]at hi
     refine⟨?_,h1,h2,?_⟩
     ·unfold sB AS.bx;simp only[h1]
     ·unfold AS.bx;exact hi
    ·rw[mf h2 h1]at hi
     cases hi
   ·left
    simp only[h1]at hi
    cases hi;exact bU.2 h1
  have la:∀i ci,(sB b').bx i=some ci->s2.bx i=some ci:=by
   intro i ci hi;unfold AS.bx;rw[lk i,bU.1 hi]
  have lo:∀i ci,s.bx i=some ci->ap (ay b') i=none->ap (ay b) i=none->s2.bx i=some ci:=by
   intro i ci hi h1 h2;unfold AS.bx;rw[lk i,h1,jA h2];exact hi
  generalize hg2:(fun i=>match ap (ay b') i with|some _=>g' i|none=>g i)=g2;have g2n:∀i ci,(sB b').bx i=some ci->g2 i=g' i:=fun i ci hi=>by rw[<- hg2];simp only[bU.1 hi]
  have g2o:∀i,ap (ay b') i=none->g2 i=g i:=fun i hi=>by rw[<- hg2];simp only[hi]
  have old:∀i ci,(sB b').bx i=some ci->s.kn i-> ∃cs,(sB b).bx i=some cs:=by
   intro i ci hi hk;rcases fL b i with h1| ⟨cs,h1⟩
   ·obtain⟨x,hx⟩:=hk
    rw[(hnew i ci hi h1).1]at hx;cases hx
   ·exact⟨cs,bU.2 h1⟩
  have eO:Own S0 g2 s2=Own (fun q=>Own S0 g s q/\ ¬BX g b q) g' (sB b'):=by
   funext q
   apply propext
   constructor
   ·rintro(h1| ⟨i,ci,hi,e⟩)
    ·exact .inl ⟨.inl h1,s0no q h1⟩
    ·rcases al i ci hi with h1| ⟨h1,h2,h3,h4⟩
     ·exact .inr ⟨i,ci,h1,by rw[<- g2n i ci h1];exact e⟩
     ·rw[g2o i h2]at e
      subst e;exact .inl ⟨.inr ⟨i,ci,h4,rfl⟩,notin i ci h4 h3⟩
   ·rintro(⟨h1| ⟨i,ci,hi,e⟩,h2⟩| ⟨i,ci,hi,e⟩)
    ·exact .inl h1
    ·have hbn:ap (ay b) i=none:=by
      rcases fL b i with h3| ⟨cs,h3⟩
      ·exact h3
      ·exact absurd ⟨i,cs,bU.2 h3,e⟩ h2
     have hbn':ap (ay b') i=none:=by
      rcases fL b' i with h3| ⟨cs,h3⟩
      ·exact h3
      ·obtain⟨x,hx⟩:=AS.kn_of hi
       rw[(hnew i cs (bU.2 h3) hbn).1]at hx;cases hx
     exact .inr ⟨i,ci,lo i ci hi hbn' hbn,by rw[g2o i hbn'];exact e⟩
    ·exact .inr ⟨i,ci,la i ci hi,by rw[g2n i ci hi];exact e⟩
  have hA:bY (Own S0 g s) w w':=⟨hbx.size,fun q hq hn=>hbx.block q hq (fun hx=>hn (bxown q hx))⟩
  have hS:∀q,q<w.heap.size->Own S0 g2 s2 q->Own S0 g s q:=by
   intro q hq h1;rw[eO]at h1;rcases h1 with h1| ⟨i,ci,hi,e⟩
   ·exact h1.1
   ·rcases(hbm i ci hi).1 with h2|h2
    ·omega
    ·rw[e]at h2;exact bxown q h2
  have hF:iX s s2 g g2 w w':=by
   refine⟨fun j hj=>?_,fun j cs2 hk hj=>?_⟩
   ·obtain⟨x,hx⟩:=hj
    unfold AS.kn;rw[lk j]
    split
    ·exact⟨_,rfl⟩
    ·split
     ·exact⟨_,rfl⟩
     ·exact⟨x,hx⟩
   ·rcases al j cs2 hj with h1| ⟨h1,h2,h3,h4⟩
    ·obtain⟨cs,hcs⟩:=old j cs2 h1 hk
     obtain⟨h5,h6⟩:=hkeep j cs cs2 hcs h1;refine⟨cs,inb j cs hcs,h6,by rw[g2n j cs2 h1,h5],fun arr e he=>?_⟩;obtain⟨a2,f2,k1,k2⟩:=hbx.shp (g j) (A_.1 he).1 ⟨j,cs,hcs,rfl⟩ arr e (0,0) he;obtain⟨_,a3,e3,k3,_⟩:=hbm j cs2 h1;rw[h5,k1]at k3;cases k3;exact⟨_,k1,k2⟩
    ·refine⟨cs2,h4,l_ _,g2o j h2,fun arr e he=>⟨arr,?_,rfl⟩⟩
     exact(hbx.block (g j) (A_.1 he).1 (notin j cs2 h4 h3)).trans he
  have hkn:∀j,(sB b').kn j->s2.kn j:=fun j ⟨x,hx⟩=>by
   have hx:ap (ay b') j=some x:=hx;unfold AS.kn;rw[lk j,hx];exact⟨x,rfl⟩
  have hback:∀j cs,(sB b').kn j->s2.bx j=some cs->(sB b').bx j=some cs:=fun j cs ⟨x,hx⟩ hj=>by
   rcases al j cs hj with h1| ⟨_,h2,_⟩
   ·exact h1
   ·have hx:ap (ay b') j=some x:=hx
    rw[h2]at hx;cases hx
  refine⟨g2,fun k=>?_,fun i ci hi=>?_,fun i j ci cj hi hj e=>?_,h.grow.go hbx (fun q ⟨j,cs,hj,e⟩=>by rw[<- e];exact(h.bm j cs (inb j cs hj)).1),by
   rw[xD,show s2.tv DK=s.tv DK by
    rw[<- hs2];cases dst with
    |none=>rfl
    |some d=>exact qP (hdst d rfl) h.nk]
   exact h.df.agree hF,by cases dst<;>simpa[Act.put]using h.sz,h.cl,h.tg,fun k cs hk=>(h.gl k cs hk).agree hA hS hF,fun i q ci h1 h2 hi=>?_,h.nk⟩
  ·have hold:∀q,TV.M (Own S0 g2 s2) g2 s2 w' (s.tv q) (a.tmps.getD q Go.undef):=fun q=>(h.tm q).agree hA hS hF
   cases dst with
   |none=>
    have:s2.tv k=s.tv k:=by rw[<- hs2];rfl
    rw[this];exact hold k
   |some d=>
    by_cases hk:d=k
    ·subst hk
     have e1:s2.tv d=r.tv:=by rw[<- hs2];simp[AS.tv,Mn,am]
     rw[e1];have e2:(a.put (some d) v).tmps.getD d Go.undef=v:=by simp[Act.put,h.sz,hdst d rfl]
     rw[e2,eO];generalize r.tv=x at hres;cases x with
     |d x=>exact hres
     |tup ts=>exact hres
     |box j o=>exact⟨hkn j hres.1,fun cs hc=>by have:=hback j cs hres.1 hc;rw[g2n j cs this];exact hres.2 cs this⟩
     |rp cs=>exact hres
     |own j m q e0=>exact⟨hkn j hres.1,fun cs hc=>by have:=hback j cs hres.1 hc;rw[g2n j cs this];exact hres.2 cs this⟩
     |clo fn fs cs=>
      have hc:∀{xs:List CV} {vs:List Value},qm g' (sB b') xs vs->qm g2 s2 xs vs:=by
       intro xs
       induction xs with
       |nil=>intro vs h;cases vs with
        |nil=>trivial
        |cons=>exact h.elim
       |cons c xs ih=>intro vs h;cases vs with
        |nil=>exact h.elim
        |cons v vs=>
         refine⟨?_,ih h.2⟩;cases c with
         |val u=>exact h.1
         |box j o=>exact⟨hkn j h.1.1,fun cs hc=>by have:=hback j cs h.1.1 hc;rw[g2n j cs this];exact h.1.2 cs this⟩
      obtain⟨us,vs,e,h1,h2⟩:=hres;exact⟨us,vs,e,hc h1,hc h2⟩
     |mp es=>exact hres
     |nil=>exact hres
     |und=>exact hres
     |junk=>trivial
     |dfr=>trivial
     |vw j o m q=>exact⟨hkn j hres.1,fun cs hc=>by have:=hback j cs hres.1 hc;rw[g2n j cs this];exact hres.2 cs this⟩
     |vs j o m c q e0=>exact⟨hkn j hres.1,fun cs hc=>by have:=hback j cs hres.1 hc;rw[g2n j cs this];exact hres.2 cs this⟩
    ·have e1:s2.tv k=s.tv k:=by rw[<- hs2];simp[AS.tv,Mn,au _ _ hk]
     rw[e1];have e2:(a.put (some d) v).tmps.getD k Go.undef=a.tmps.getD k Go.undef:=by simp[Act.put,Array.getElem?_setIfInBounds_ne hk]
     rw[e2];exact hold k
  ·rcases al i ci hi with h1| ⟨h1,h2,h3,h4⟩
   ·rw[g2n i ci h1]
    obtain⟨h5,h6⟩:=hbm i ci h1
    refine⟨?_,by
     rw[eO];obtain⟨arr,e1,p1,p2,p3,p4,p5⟩:=h6;refine⟨arr,e1,p1,p2,p3,fun hl q c v hc hv=>?_,p5⟩;have hq:=p4 hl q c v hc hv;cases c with
     |ow j m k e=>exact⟨hkn j hq.1,fun cs hc=>by have:=hback j cs hq.1 hc;rw[g2n j cs this];exact hq.2 cs this⟩
     |bp j o=>exact⟨hkn j hq.1,fun cs hc=>by have:=hback j cs hq.1 hc;rw[g2n j cs this];exact hq.2 cs this⟩
     |val=>trivial
     |sl=>trivial
     |nl=>trivial⟩
    rcases h5 with h5| ⟨j,cs,hj,e⟩
    ·exact .inl (V_ h.grow.size h5)
    ·rw[<- e];exact(h.bm j cs (inb j cs hj)).1
   ·rw[g2o i h2]
    obtain⟨h5,h6⟩:=h.bm i ci h4;exact⟨h5,h6.agree (hbx.block _ h6.lt (notin i ci h4 h3)) hA hS hF⟩
  ·have cross:∀i j ci cj,(sB b').bx i=some ci->ap (ay b) j=none->s.bx j=some cj->ap (ay b') j=none->g' i=g j->False:=by
    intro i j ci cj hi hn hj hn' e;rcases(hbm i ci hi).1 with h1|h1
    ·have:=(h.bm j cj hj).2.lt;omega
    ·rw[e]at h1;exact notin j cj hj hn h1
   rcases al i ci hi with h1| ⟨h1,h2,h3,h4⟩<;>rcases al j cj hj with h1'| ⟨h1',h2',h3',h4'⟩
   ·rw[g2n i ci h1,g2n j cj h1']at e;exact hinj i j ci cj h1 h1' e
   ·rw[g2n i ci h1,g2o j h2']at e;exact(cross i j ci cj h1 h3' h4' h2' e).elim
   ·rw[g2o i h2,g2n j cj h1']at e;exact(cross j i cj ci h1' h3 h4 h2 e.symm).elim
   ·rw[g2o i h2,g2o j h2']at e;exact h.inj i j ci cj h4 h4' e
  ·rcases al i ci hi with h3| ⟨h3,h4,h5,h6⟩
   ·rw[g2n i ci h3]
    rcases fL b i with h4| ⟨cs,h4⟩
    ·rw[(hnew i ci h3 h4).2]at h1;cases h1
    ·rw[(hkeep i cs ci (bU.2 h4) h3).1]
     exact h.gp i q cs h1 h2 (inb i cs (bU.2 h4))
   ·rw[g2o i h4];exact h.gp i q ci h1 h2 h6
end
section
variable {P:Program} {T:TypeId->Option Ty} {n:Nat} {S0:Nat->Prop} {w0:eR}
theorem oq.length {S:Nat->Prop} {g:Nat->Nat} {s:AS} {w:World}:∀{ts:List TV} {vs:List Value},oq S g s w ts vs->ts.length=vs.length
 | [],[],_=>rfl
 |_::ts,_::vs,h=>by simp[oq.length h.2]
 | [],_::_,h=>h.elim
 |_::_,[],h=>h.elim
theorem oq.at {S:Nat->Prop} {g:Nat->Nat} {s:AS} {w:World}:∀{ts:List TV} {vs:List Value},oq S g s w ts vs-> ∀(k i:Nat),TV.M S g s w (match ap (uu k ts) i with|some v=>v|none=> .junk) (if i<k then undef else vs.getD (i-k) undef)
 | [],[],_,k,i=>trivial
 |d::ds,v::vs,h,k,i=>by
  simp only[uu]
  by_cases e:k=i
  ·subst e
   rw[am]
   simp only[Nat.lt_irrefl,if_false,Nat.sub_self]
   exact h.1
  ·rw[au _ _ e]
   have:=oq.at h.2 (k+1) i
   by_cases h1:i<k
   ·rw[if_pos O_]at this;rw[if_pos h1];exact this
   ·rw[if_neg O_]at this
    rw[if_neg h1];have e2:i-k=(i-(k+1))+1:=O_
    rw[e2]
    simpa using this
 | [],_::_,h,_,_=>h.elim
 |_::_,[],h,_,_=>h.elim
def Lt (T:TypeId->Option Ty) (s:AS) (rs:List ResultVar) (r:RT) (b':BL):Prop:=
 (match r with
  | .v r=>∃l,ki T s rs=some l/\yt l=r
  | .own j n k e=>∃t,rs=[.tmp t]/\s.tv t= .own j n k e/\pf (s.tv DK)=true)/\qQ s (ay b')
def dJ (b b':BL):Prop:=∀j cs cs',(sB b).bx j=some cs->(sB b').bx j=some cs'->cs.length<=cs'.length
theorem dJ.refl (b:BL):dJ b b:=fun j cs cs' h h'=>by rw[h]at h';cases h';exact l_ _
theorem dJ.one {j:Nat} {cs cs':List AV} (h:cs.length<=cs'.length):dJ [(j,cs)] [(j,cs')]:=fun i c c' h1 h2=>by
 have h1:=bU.1 h1;have h2:=bU.1 h2
 simp only[ay]at h1 h2
 by_cases e:j=i
 ·subst e;rw[am]at h1 h2;cases h1;cases h2;exact h
 ·rw[au _ _ e]at h1;cases h1
def tp (b':BL):BL->Bool
 | []=>true
 |(j,_)::r=>(iF j || !(ap (ay b') j).isSome) && tp b' r
theorem yI {b':BL}:∀{b:BL} {j:Nat} {cs cs':List AV},tp b' b=true->ap (ay b) j=some (some cs)->ap (ay b') j=some (some cs')->iF j=true
 | [],_,_,_,_,h,_=>by cases h
 |(i,c)::r,j,cs,cs',hr,h,h'=>by
  simp only[tp,B_]at hr
  by_cases e:i=j
  ·subst e
   have:=hr.1;rw[h']at this
   simpa using this
  ·simp only[ay,au _ _ e]at h;exact yI hr.2 h h'
def An (r:RT) (b':BL):Bool:=ui (ay b') (ay b') && match r with
 | .own j _ _ _=>match ap (ay b') j with
  |some _=>true
  |none=>false
 | .v _=>true
theorem EY {ts:List TV}:∀{k i:Nat},k+ts.length<=i->ap (uu k ts) i=none:=by
 induction ts with
 |nil=>intro k i _;rfl
 |cons d ds ih=>
  intro k i h
  simp only[List.length_cons]at h
  rw[uu,au _ _ O_];exact ih O_
def qh (g:Nat->Nat) (w:World) (b:BL):eR:=⟨w,BX g b,[],fun j=>if iF j then some (g j)else none⟩
theorem CQ {S:Nat->Prop} {g g1:Nat->Nat} {w w1:World} {b b':BL} {s:AS} {a:Act} {r:RT} {v:Value} (hrv:tp b' b=true) (hwfc:ui (ay b') (ay b')=true) (hlen:dJ b b') (hwk:qQ s (ay b')) (hm:MG n S (qh g w b) g1 s a w1)
 (hv:TV.M (Own S g1 (sB b')) g1 (sB b') w1 r.tv v):xo S g b r b' w (.returned v) w1:=by
 have hbx:∀j cs,(sB b').bx j=some cs->s.bx j=some cs:=fun j cs hj=>hwk.at (bU.1 hj)
 have hOs:∀q,q<w1.heap.size->Own S g1 (sB b') q->Own S g1 s q:=by
  rintro q _ (h0| ⟨j,cs,hj,e⟩)
  ·exact .inl h0
  ·exact .inr ⟨j,cs,hbx j cs hj,e⟩
 refine⟨v,g1,rfl,fun j cs cs' hj hj'=>⟨?_,hlen j cs cs' hj hj'⟩,fun j cs' hj=>?_,fun i j ci cj hi hj e=>hm.inj i j ci cj (hbx i ci hi) (hbx j cj hj) e,hv,hm.grow⟩
 ·have hr:=yI hrv (bU.1 hj) (bU.1 hj')
  exact hm.gp j (g j) cs' hr (by simp only[qh,hr,if_true]) (hbx j cs' hj')
 ·obtain⟨h1,arr,e1,p1,p2,p3,p4,p5⟩:=hm.bm j cs' (hbx j cs' hj)
  exact⟨h1,arr,e1,p1,p2.agree (bY.refl _ _) hOs,p3,fun hl i c v hc hv=>(p4 hl i c v hc hv).sub (fun q hq=>ui.at hwfc (bU.1 hj) hl q (mI hc q hq)) hbx,p5⟩
theorem yP {S:Nat->Prop} {g:Nat->Nat} {w:World} {vs:List Value} {ts:List TV} {b:BL} {N:Nat} (hS:Gi S g w b) (hv:oq (Own S g (sB b)) g (sB b) w ts vs) (hsz:ts.length<=N) (hnk:N<=DK):
 M N S (qh g w b) ⟨uu 0 ts,ay b⟩ ⟨vs.toArray++Array.replicate (N-vs.toArray.size) undef,[]⟩ w:=by
 have hl:=oq.length hv;refine⟨g,fun k=>?_,fun j cs hj=>⟨.inr ⟨j,cs,hj,rfl⟩,(hS.bm j cs hj).sameB rfl⟩,hS.inj,cR.refl _ _,?_,by simp;omega,fun q hq=>?_,fun w' hw'=>hS.tab w' hw',hS.gl,fun j q cs h1 h2 _=>?_,hnk⟩
 ·have:=oq.at hv 0 k
  simp only[Nat.not_lt_zero,if_false,Nat.sub_zero]at this
  have e2:(vs.toArray++Array.replicate (N-vs.toArray.size) undef).getD k undef=vs.getD k undef:=by
   simp only[Array.getD_eq_getD_getElem?,Array.getElem?_append,H_]
   by_cases h1:k<vs.length
   ·simp[h1]
   ·simp[h1]
    cases h2:(Array.replicate (N-vs.length) undef)[k-vs.length]? with
    |none=>rfl
    |some v=>rw[Array.getElem?_replicate]at h2;split at h2<;>simp_all
  dsimp only;rw[e2];exact this.sameB rfl
 ·have e0:(AS.mk (uu 0 ts) (ay b)).tv DK= .junk:=by simp only[AS.tv,EY (k:=0) (ts:=ts) (i:=DK) O_]
  rw[e0];rfl
 ·obtain⟨h1,h2,h3⟩:=hS.blk q hq
  exact⟨h1,h2,h3⟩
 ·simp only[qh,h1,if_true,X_]at h2
  exact h2
structure gR (P:Program) (f:FuncId) (ts:List TV) (b:BL) (r:RT) (b':BL):Prop where
 enter:∀args w,(callFunc f args).run P w= .ok (.enter f args) w
 body:∃fn c,P.funcs[f]? =some fn/\fn.body=some c/\ ∀(S:Nat->Prop) (g:Nat->Nat) (w:World) (vs:List Value),Gi S g w b->oq (Own S g (sB b)) g (sB b) w ts vs->c.wp P (bodyPost P fn (xo S g b r b' w)) { tmps:=vs.toArray++Array.replicate (fn.ntmps-vs.toArray.size) undef,defers:=[] } w
theorem gR.toT {f:FuncId} {ts:List TV} {b:BL} {r:RT} {b':BL} (h:gR P f ts b r b'):az P f ts b r b':=by
 obtain⟨fn,c,hf,hb,hw⟩:=h.body;exact⟨h.enter,fun S g w vs hS hv=>calls_of_wp hf hb (hw S g w vs hS hv)⟩
theorem tK (hT:∀t d,T t=some d->a8 P t d) (hmix:P.follows .mixedOrders=true) {f:FuncId} {fn:Func} {c:Code} {ts:List TV} {b:BL} {r:RT} {b':BL} (hf:P.funcs[f]? =some fn) (hb:fn.body=some c) (hn:(fn.name == "runtime.NumGoroutine")=false) (hsz:(Nat.ble ts.length fn.ntmps && Nat.ble fn.ntmps DK)=true)
 (hrv:tp b' b=true) (hkn:An r b'=true) (hlen:dJ b b')
 (h:fP P T fn.ntmps c (fun e s=>match e with| .exit _=>False|_=>Lt T s fn.results.toList r b') ⟨uu 0 ts,ay b⟩):gR P f ts b r b':=by
 unfold An at hkn;rw[B_]at hkn hsz;obtain⟨hwfc,hkn⟩:=hkn;obtain⟨hsz,hnk⟩:=hsz;have hsz:=N_ hsz;have hnk:=N_ hnk;refine⟨fun args w=>?_,fn,c,hf,hb,fun S g w vs hS hv=>?_⟩
 ·exact NT
 ·refine wp_mono (oz (S0:=S) (w0:=qh g w b) hT hmix c _ _ _ w h (yP hS hv hsz hnk)) fun e a w1 hq=>?_
  have fin:∀s,Lt T s fn.results.toList r b'->M fn.ntmps S (qh g w b) s a w1->a.defers=[]/\ ∃v,(results fn a.tmps).run P w1= .ok v w1/\xo S g b r b' w (.returned v) w1:=by
   rintro s ⟨hres,hwk⟩ ⟨g1,hm⟩;have hbx:∀j cs,(sB b').bx j=some cs->s.bx j=some cs:=fun j cs hj=>hwk.at (bU.1 hj)
   have hOs:∀q,q<w1.heap.size->Own S g1 (sB b') q->Own S g1 s q:=by
    rintro q _ (h0| ⟨j,cs,hj,e⟩)
    ·exact .inl h0
    ·exact .inr ⟨j,cs,hbx j cs hj,e⟩
   have rest:∀v,TV.M (Own S g1 (sB b')) g1 (sB b') w1 r.tv v->xo S g b r b' w (.returned v) w1:=fun v hv=>CQ hrv hwfc hlen hwk hm hv
   cases r with
   |v r=>
    obtain⟨l,h1,rfl⟩:=hres;refine⟨(AI.no (iO h1)).1 hm.df,?_⟩;obtain⟨vs',hr,hl',hv'⟩:=ig hT hm fn.results.toList l h1;refine⟨if h:vs'.toArray.size=1 then vs'.toArray[0]else .tuple vs'.toArray,?_,rest _ ?_⟩
    ·unfold results
     rw[Y_,Array.mapM_eq_mapM_toList,Sem.run_map]
     erw[hr]
     simp only[R_]
     rfl
    ·have hv2:∀(i:Nat) (x:DV) (u:Value),l[i]? =some x->vs'[i]? =some u->DV.M (Own S g1 (sB b')) w1 x u:=fun i x u h1 h2=>(hv' i x u h1 h2).agree (bY.refl _ _) hOs
     cases l with
     |nil=>
      rw[dif_neg (by simp at hl' ⊢;omega)];exact⟨vs',rfl,hl',hv2⟩
     |cons d l=>
      cases l with
      |nil=>
       have:vs'.toArray.size=1:=by simpa using hl'.symm
       rw[dif_pos this];exact hv2 0 d _ rfl S_
      |cons d' l=>
       rw[dif_neg (by simp at hl' ⊢;omega)];exact⟨vs',rfl,hl',hv2⟩
   |own j m k e=>
    obtain⟨t,h1,h2,h3⟩:=hres;refine⟨(AI.no h3).1 hm.df,a.tmps.getD t undef,?_,rest _ ?_⟩
    ·unfold results
     rw[Y_,Array.mapM_eq_mapM_toList,Sem.run_map,h1];rfl
    ·have hm2:=hm.tm t
     rw[h2]at hm2;refine⟨?_,fun cs hc=>hm2.2 cs (hbx j cs hc)⟩;dsimp only at hkn
     split at hkn
     ·rename_i x hx;exact⟨x,hx⟩
     ·cases hkn
  exact O0
theorem aP (hT:∀t d,T t=some d->a8 P t d) (hmix:P.follows .mixedOrders=true) {f:FuncId} {fn:Func} {c:Code} {ts:List TV} {b:BL} {r:RT} {b':BL} (hf:P.funcs[f]? =some fn) (hb:fn.body=some c) (hn:(fn.name == "runtime.NumGoroutine")=false) (hsz:(Nat.ble ts.length fn.ntmps && Nat.ble fn.ntmps DK)=true)
 (hrv:tp b' b=true) (hkn:An r b'=true) (hlen:dJ b b')
 (h:fP P T fn.ntmps c (fun e s=>match e with| .exit _=>False|_=>Lt T s fn.results.toList r b') ⟨uu 0 ts,ay b⟩):az P f ts b r b':=(tK hT hmix hf hb hn hsz hrv hkn hlen h).toT
def Vd:CV->TV
 | .val v=> .d (.leaf (.val v))
 | .box j o=> .box j o
def SJ:TV->TV
 | .nil=> .d (.leaf (.sl 0 []))
 |x=>x
def xT (s:AS) (f:Operand) (args:List Operand):Option (FuncId × List TV):=
 match s.ev f with
 | .d (.leaf (.val (.func (.func fid) ⟨[]⟩ ⟨[]⟩)))=>some (fid,args.map fun x=>SJ (s.ev x))
 | .clo (.func fid) fs cs=>some (fid,fs.map Vd++(args.map fun x=>SJ (s.ev x))++cs.map Vd)
 |_=>none
def sL:List CV->Bool
 | []=>true
 | .val v::r=>v.oneCell' && sL r
 | .box _ _::r=>sL r
def uv (s:AS) (f:Operand):Bool:=match s.ev f with
 | .clo _ fs cs=>sL fs && sL cs
 |_=>true
theorem TA {S:Nat->Prop} {g:Nat->Nat} {s:AS} {w:World} {x:TV} {v:Value} (h:TV.M S g s w x v):TV.M S g s w (SJ x) v:=by
 cases x<;>first|exact h|skip
 have:v= .slice none 0 0:=h;rw[this];exact AV.M.emp (l_ _) O_ (fun _=>rfl)
theorem mr {S:Nat->Prop} {g:Nat->Nat} {s:AS} {w:World}:∀{xs ys:List TV} {us vs:List Value},oq S g s w xs us->oq S g s w ys vs->oq S g s w (xs++ys) (us++vs)
 | [],_,[],_,_,k=>k
 |_::_,_,_::_,_,h,k=>⟨h.1,mr h.2 k⟩
 | [],_,_::_,_,h,_=>h.elim
 |_::_,_,[],_,h,_=>h.elim
theorem El {g:Nat->Nat} {s:AS} {a:Act} {w:World} (hM:MG n S0 w0 g s a w):∀(l:List Operand),oq (Own S0 g s) g s w (l.map fun x=>SJ (s.ev x)) (l.map a.eval)
 | []=>trivial
 |x::l=>⟨TA (hM.ev x),El hM l⟩
theorem rC {S:Nat->Prop} {g:Nat->Nat} {s:AS} {w:World}:∀{xs:List CV} {vs:List Value},sL xs=true->qm g s xs vs->oq S g s w (xs.map Vd) vs
 | [],[],_,_=>trivial
 | .val u::xs,v::vs,h1,h=>by
  simp only[sL,B_]at h1
  have e:v=u:=h.1;subst e;exact⟨AV.M.val h1.1,rC h1.2 h.2⟩
 | .box j o::xs,v::vs,h1,h=>⟨h.1,rC h1 h.2⟩
 | [],_::_,_,h=>h.elim
 |_::_,[],_,h=>h.elim
theorem qS {S:Nat->Prop} {g:Nat->Nat} {s s':AS} {w:World} (hb:∀j cs,s'.bx j=some cs->s.bx j=some cs):∀{xs:List TV} {vs:List Value},(∀j∈xs.flatMap d8,s'.kn j)->oq S g s w xs vs->oq S g s' w xs vs
 | [],[],_,_=>trivial
 |x::xs,v::vs,hk,h=>⟨h.1.sub (fun j hj=>hk j (List.mem_flatMap.2 ⟨x,by simp,hj⟩)) hb,qS hb (fun j hj=>hk j (by rw[List.flatMap_cons];exact List.mem_append_right _ hj)) h.2⟩
 | [],_::_,_,h=>h.elim
 |_::_,[],_,h=>h.elim
def md (s:AS) (b:BL):BL->Bool
 | []=>true
 |(j,_)::r=>(match ap (ay b) j with|some _=>true|none=>fJ s j) && md s b r
theorem qY {s:AS} {b:BL}:∀{b':BL} {j:Nat} {cs:List AV},md s b b'=true->ap (ay b') j=some (some cs)->ap (ay b) j=none->ap s.b j=none/\iF j=false
 | [],_,_,_,h,_=>by cases h
 |(i,c)::r,j,cs,hr,h,hn=>by
  simp only[md,B_]at hr
  by_cases e:i=j
  ·subst e
   have:=hr.1;rw[hn]at this;exact bA this
  ·simp only[ay,au _ _ e]at h;exact qY hr.2 h hn
theorem CD {b:BL} {l:List Nat} (h:EF (ay b) l=true):∀j∈l,(sB b).kn j:=fun j hj=>xO h j hj
theorem BQ {s:AS} {l:List Nat} (h:dY l s.b=true):∀j cs,s.bx j=some cs->j ∉ l->bL j=false:=fun j cs hj hjn=>by
 unfold AS.bx at hj
 split at hj
 ·rename_i x hx;cases hj;exact kl h j _ hjn hx
 ·cases hj
theorem qj {o:Oper} {f:Operand} {fid:FuncId} {args:Array Operand} {tys:Array TypeId} {ts:List TV} {b:BL} {r:RT} {b':BL} {s:AS} (hc:az P fid ts b r b') (ho:o.op= .call ⟨.value f,args,tys⟩) (hcl:xT s f args.toList=some (fid,ts)) (h1:uv s f=true)
 (hk:(EF (ay b) (ts.flatMap d8) && ui (ay b) (ay b))=true) (hb:qQ s (ay b)) (hcn:∀j cs,s.bx j=some cs->j ∉ b.map (·.1)->bL j=false) (hnew:md s b b'=true):
 bE P o s ⟨r.tv,some (ay b'++dw b' b)⟩:=by
 intro n S0 w0 g a w K Q hM hdn hK;rw[B_]at hk;obtain⟨hk,hwfc⟩:=hk;obtain⟨S,hpre,hO,hpost⟩:=hM.callT (b:=b) (b':=b') hb hwfc hcn (fun j cs hj hn=>qY hnew (bU.1 hj) hn);have inb:∀j cs,(sB b).bx j=some cs->s.bx j=some cs:=fun j cs hj=>hb.at (bU.1 hj)
 obtain⟨vs,hvs,hrun⟩:∃vs,oq (Own S0 g s) g s w ts vs/\(execOp a.eval o).run P w= .ok (.enter fid vs.toArray) w:=by
  have hargs:=El hM args.toList;have hf:=hM.ev f;unfold xT at hcl
  split at hcl
  ·rename_i fid' hfe
   simp only[X_,Prod.mk.injEq]at hcl
   obtain⟨rfl,rfl⟩:=hcl;refine⟨_,hargs,?_⟩;unfold execOp;rw[ho];rw[hfe]at hf
   simp only[resolve,bc (show AV.M _ _ _ _ from hf),Deferred.ofValue,Y_,a_,R_,invoke]
   exact Pz
  ·rename_i fid' fs cs hfe
   simp only[X_,Prod.mk.injEq]at hcl
   obtain⟨rfl,rfl⟩:=hcl;rw[hfe]at hf;obtain⟨us,vs,e,h2,h3⟩:=hf;unfold uv at h1;rw[hfe]at h1
   simp only[B_]at h1
   refine⟨us++List.map a.eval args.toList++vs,mr (mr (rC h1.1 h2) hargs) (rC h1.2 h3),?_⟩;unfold execOp;rw[ho]
   simp only[resolve,e,Deferred.ofValue,Y_,a_,R_,invoke]
   have e2:(us++List.map a.eval args.toList++vs).toArray=us.toArray++args.map a.eval++vs.toArray:=Array.ext' S_;have:=hc.enter (us.toArray++args.map a.eval++vs.toArray) w;rw[e2]
   simpa using this
  ·cases hcl
 have hcall:=hc.calls S g w vs hpre (by rw[hO];exact qS inb (CD hk) hvs);unfold Oper.wp;rw[hrun];show Calls P fid _ w _;refine hcall.mono ?_;rintro en w1 ⟨v,g',rfl,h2,h3,h4,h5,h6⟩;show K (a.put o.dst v) w1;obtain⟨g2,hm⟩:=hpost r v g' w1 h2 h3 h4 h5 h6 o.dst hdn;refine hK g2 _ _ ?_;cases ho2:o.dst<;>(rw[ho2]at hm;exact hm)
variable {ops:Array Oper} {id:Nat} {draw:Bool} {K:AS->Prop} {s:AS} {k:Nat} {o:Oper} {os:List Oper} {fps:List FP}
theorem rP {s s':AS} {f:Operand} {args:List Operand} (hf:s'.ev f=s.ev f) (ha:∀x∈args,s'.ev x=s.ev x):xT s' f args=xT s f args:=by
 have e:(args.map fun x=>SJ (s'.ev x))=args.map fun x=>SJ (s.ev x):=List.map_congr_left fun x hx=>by rw[ha x hx]
 unfold xT;rw[hf,e]
theorem li {s s':AS}:∀{b:BL},(∀j∈b.map (·.1),ap s'.b j=ap s.b j)->qQ s (ay b)->qQ s' (ay b)
 | [],_,_=>trivial
 |(j,cs)::r,hl,h=>⟨by rw[bg (hl j S_)];exact h.1,li (b:=r) (fun i hi=>hl i (by simp at hi ⊢;exact .inr hi)) h.2⟩
theorem jz {s s':AS} {b:BL}:∀{b':BL},(∀j∈b'.map (·.1),ap s'.b j=ap s.b j)->md s' b b'=md s b b'
 | [],_=>rfl
 |(j,cs)::r,hl=>by
  rw[md,md,jz (b':=r) (fun i hi=>hl i (by simp at hi ⊢;exact .inr hi)),ew (hl j S_)]
theorem dl {f:Operand} {fid:FuncId} {args:Array Operand} {tys:Array TypeId} {ts:List TV} {b:BL} {r:RT} {b':BL} (hc:az P fid ts b r b') (h1:gd ops s o=some true) (ho:o.op= .call ⟨.value f,args,tys⟩) (hcl:xT s f args.toList=some (fid,ts)) (hone:uv s f=true)
 (hk:(EF (ay b) (ts.flatMap d8) && ui (ay b) (ay b))=true) (hb:qQ s (ay b)) (hcn:dY [] s.b=true) (hnew:md s b b'=true) (h3:aL n o.dst=true) (h4:fg draw ops (aA ops o ⟨r.tv,some (ay b'++dw b' b)⟩ (b.map (·.1)++b'.map (·.1))) k fps=true)
 (h:ar P T n ops id draw K (k+1) os (s.eff o.dst ⟨r.tv,some (ay b'++dw b' b)⟩) (aA ops o ⟨r.tv,some (ay b'++dw b' b)⟩ (b.map (·.1)++b'.map (·.1))::fps)):ar P T n ops id draw K k (o::os) s fps:=by
 refine .run h1 (.genC (iZ hcn) fun s2 hc2 ht hrb=>?_) h3 h4 h;have hf:s2.ev f=s.ev f:=aw ht (by rw[ho];simp[Op.operands,Call.operands]);have hcl2:=rP (s':=s2) (s:=s) (f:=f) (args:=args.toList) hf (fun x hx=>aw ht (by rw[ho];simp[Op.operands,Call.operands];exact .inr (by simpa using hx)));have hone2:uv s2 f=true:=by unfold uv at hone ⊢;rw[hf];exact hone
 exact qj hc ho (hcl2.trans hcl) hone2 hk (li (fun j hj=>hrb j (List.mem_append_left _ hj)) hb) (fun j cs hj _=>hc2 j cs hj) ((jz fun j hj=>hrb j (List.mem_append_right _ hj)).trans hnew)
end
section
variable {P:Program} {T:TypeId->Option Ty} {n:Nat} {ops:Array Oper} {id:Nat} {draw:Bool} {K:AS->Prop} {s:AS} {k:Nat} {o:Oper} {os:List Oper} {fps:List FP}
theorem kD {f:Operand} {fid:FuncId} {args:Array Operand} {tys:Array TypeId} {ts:List TV} {b:BL} {r:RT} {b':BL} (hc:az P fid ts b r b') (h:ar P T n ops id draw K (k+1) os (s.eff o.dst ⟨r.tv,some (ay b'++dw b' b)⟩) (aA ops o ⟨r.tv,some (ay b'++dw b' b)⟩ (b.map (·.1)++b'.map (·.1))::fps)) (h1:gd ops s o=some true:=by rfl) (ho:o.op= .call ⟨.value f,args,tys⟩:=by rfl) (hcl:xT s f args.toList=some (fid,ts):=by rfl) (hone:uv s f=true:=by rfl)
    (hk:(EF (ay b) (ts.flatMap d8) && ui (ay b) (ay b))=true:=by rfl) (hb:qQ s (ay b):=by first|exact⟨rfl,trivial⟩|exact⟨rfl,rfl,trivial⟩|exact trivial) (hcn:dY [] s.b=true:=by rfl) (hnew:md s b b'=true:=by rfl) (h3:aL n o.dst=true:=by rfl) (h4:fg draw ops (aA ops o ⟨r.tv,some (ay b'++dw b' b)⟩ (b.map (·.1)++b'.map (·.1))) k fps=true:=by rfl):ar P T n ops id draw K k (o::os) s fps:=dl hc h1 ho hcl hone hk hb hcn hnew h3 h4 h
theorem kZ {q:Prop} {f:Operand} {fid:FuncId} {args:Array Operand} {tys:Array TypeId} {ts:List TV} {b:BL} {r:RT} {b':BL} (hc:az P fid ts b r b') (h:q) (h1:gd ops s o=some true:=by rfl) (ho:o.op= .call ⟨.value f,args,tys⟩:=by rfl) (hcl:xT s f args.toList=some (fid,ts):=by rfl) (hone:uv s f=true:=by rfl)
    (hk:(EF (ay b) (ts.flatMap d8) && ui (ay b) (ay b))=true:=by rfl) (hb:qQ s (ay b):=by first|exact⟨rfl,trivial⟩|exact⟨rfl,rfl,trivial⟩|exact trivial) (hcn:dY [] s.b=true:=by rfl) (hnew:md s b b'=true:=by rfl) (h3:aL n o.dst=true:=by rfl) (h4:fg draw ops (aA ops o ⟨r.tv,some (ay b'++dw b' b)⟩ (b.map (·.1)++b'.map (·.1))) k fps=true:=by rfl) (e:q->ar P T n ops id draw K (k+1) os (s.eff o.dst ⟨r.tv,some (ay b'++dw b' b)⟩) (aA ops o ⟨r.tv,some (ay b'++dw b' b)⟩ (b.map (·.1)++b'.map (·.1))::fps):=by intro h;(repeat(first|refine gT rfl rfl rfl rfl ?_|refine bn rfl rfl rfl ?_|refine .done ?_|refine bu (T:=TT) ?_|refine bG (T:=TT) rfl ?_|refine cX (T:=TT) ?_|refine fj (T:=TT) rfl ?_|refine dX (T:=TT) rfl ?_));exact h):ar P T n ops id draw K k (o::os) s fps:=dl hc h1 ho hcl hone hk hb hcn hnew h3 h4 (e h)
end
section
variable {P:Program} {T:TypeId->Option Ty} {n:Nat}
theorem ar.mono {ops:Array Oper} {id:Nat} {draw:Bool} {K K':AS->Prop} (hK:∀s,K s->K' s) {k:Nat} {os:List Oper} {s:AS} {fps:List FP} (h:ar P T n ops id draw K k os s fps):ar P T n ops id draw K' k os s fps:=by
 induction h with
 |done h=>exact .done (hK _ h)
 |run h1 h2 h3 h4 _ ih=>exact .run h1 h2 h3 h4 ih
 |skip h1 h2 h3 _ ih=>exact .skip h1 h2 h3 ih
 |app h0 h1 h2 h3 h4 h5 h6 h7 h8 h9 h10 h11 h12 h13 h14 h15 _ ih=>exact .app h0 h1 h2 h3 h4 h5 h6 h7 h8 h9 h10 h11 h12 h13 h14 h15 ih
 |snd h0 h1 h2 _ ih=>exact .snd h0 h1 h2 ih
 |snd3 h0 h1 h2 _ ih=>exact .snd3 h0 h1 h2 ih
 |alt Φ h0 h1 h2 _ ih=>exact .alt Φ h0 h1 h2 ih
theorem Hp:∀(c:Code) {Q Q':AX->AS->Prop} {s:AS},(∀e s,Q e s->Q' e s)->fP P T n c Q s->fP P T n c Q' s:=by
 intro c
 induction c with
 |skip=>intro Q Q' s hQ h;exact hQ _ _ h
 |label l=>intro Q Q' s hQ h;exact hQ _ _ h
 |region id ops draw=>intro Q Q' s hQ ⟨Φ,hw,h⟩;exact⟨Φ,hw,fun s1 h1=>⟨(h s1 h1).1,(h s1 h1).2.mono (fun s h=>hQ _ s h)⟩⟩
 |seq x y ihx ihy=>
  intro Q Q' s hQ h;refine ihx (fun e s h=>?_) h;cases e with
  |normal=>exact ihy hQ h
  |exit i=>exact hQ _ _ h
  |ret=>exact hQ _ _ h
 |cond c x y ihx ihy=>intro Q Q' s hQ ⟨t,hc,h1,h2⟩;exact⟨t,hc,fun ht=>ihx hQ (h1 ht),fun ht=>ihy hQ (h2 ht)⟩
 |block id x ih=>
  intro Q Q' s hQ h;refine ih (fun e s h=>?_) h;cases e with
  |normal=>exact hQ _ _ h
  |exit i=>
   unfold wK at h ⊢;cases hb:Nat.beq i id
   ·simp only[hb]at h ⊢;exact hQ _ _ h
   ·simp only[hb]at h ⊢;exact hQ _ _ h
  |ret=>exact hQ _ _ h
 |loop x ih=>
  intro Q Q' s hQ ⟨α,I,σ,μ,h0,hr⟩;refine⟨α,I,σ,μ,h0,fun y hy=>ih (fun e s h=>?_) (hr y hy)⟩;cases e with
  |normal=>exact h
  |exit i=>exact hQ _ _ h
  |ret=>exact hQ _ _ h
 |scope x ih=>intro Q Q' s hQ h;exact ih hQ h
 |exit id=>intro Q Q' s hQ h;exact hQ _ _ h
 |ret=>intro Q Q' s hQ h;exact hQ _ _ h
 |goto l=>intro Q Q' s _ h;exact h
 |rangeFunc=>intro Q Q' s _ h;exact h
 |refuse=>intro Q Q' s _ h;exact h
def UL (P:Program) (T:TypeId->Option Ty) (n:Nat) (x:Code) (Q:AX->AS->Prop):Nat->AS->Prop
 |0,_=>False
 |k+1,s=>∃s1,aM s s1/\fP P T n x (CK (UL P T n x Q k) Q) s1
theorem s9 {x:Code} {Q:AX->AS->Prop} {s:AS} (k:Nat) (h:UL P T n x Q k s):fP P T n (.loop x) Q s:=by
 cases k with
 |zero=>exact h.elim
 |succ k=>
  obtain⟨s1,hw,h⟩:=h;refine⟨Nat × AS,fun y=>fP P T n x (CK (UL P T n x Q y.1) Q) y.2,fun y=>y.2,fun y=>y.1,⟨(k,s1),h,hw⟩,fun y hy=>?_⟩;refine Hp x (fun e s h=>?_) hy;cases e with
  |normal=>
   have h:UL P T n x Q y.1 s:=h;cases hk:y.1 with
   |zero=>rw[hk]at h;exact h.elim
   |succ j=>
    rw[hk]at h;obtain⟨s2,hw2,h2⟩:=h;exact⟨(j,s2),h2,by dsimp only;omega,hw2⟩
  |exit i=>exact h
  |ret=>exact h
theorem ct {x:Code} {Q:AX->AS->Prop} {s:AS} {k:Nat} (s1:AS) (hw:aM s s1) (h:fP P T n x (CK (UL P T n x Q k) Q) s1):UL P T n x Q (k+1) s:=⟨s1,hw,h⟩
variable {ops:Array Oper} {id:Nat} {draw:Bool} {K:AS->Prop} {s:AS} {k:Nat} {o:Oper} {os:List Oper} {fps:List FP}
theorem ek (j':Nat) {d:Nat} {x y:Operand} {t et q m1 m2:Nat} {ty te:Ty} {dead:Option Nat} {cs xs:List AV} (hT:∀t d,T t=some d->a8 P t d) (hm:0<m2) (hb:(m1+m2)*te.bytes<=140737488355328) (hxs:xs.length=m2*q) (h0:draw=false) (h1:gd ops s o=some true) (ho:o.op= .call ⟨.builtin .append,#[x,y],#[t,t]⟩) (hd:o.dst=some d) (h3:aL n o.dst=true) (ht:T t=some ty) (hel:ty.elem=some (et,q)) (hte:T et=some te) (hq:te.size=q) (hq0:(Nat.ble 1 q && Nat.ble 1 te.bytes)=true)
 (hbase:eK s x m1 q et dead cs) (hy:s.ev y= .d (.leaf (.sl m2 xs))) (hnew:fJ s j'=true) (hcl:(bB te.zero && bB xs && jm dead)=true)
 (h:ar P T n ops id draw K (k+1) os ⟨(d, .own j' (m1+m2) q et)::s.t,(j',some (cs.take (m1*q)++xs))::fB dead s.b⟩ (aA ops o ⟨.junk,none⟩ []::fps)):ar P T n ops id draw K k (o::os) s fps:=by
 refine .snd h0 h1 (fun S0 w0 g a w K' Q hM hK=>?_) h;rw[B_]at hq0
 have h63:m1+m2<=9223372036854775807:=by
  exact x8
 exact fC (hT _ _ ht) (hT _ _ hte) ho hd hel hq (N_ hq0.1) hbase hy hxs hm hb h63 (bA hnew) (ji hnew) (.inr hcl) hM (ee h3 d hd) hK
def sF:Option Nat->List Nat
 |some j=>[j]
 |none=>[]
theorem gh (j':Nat) {d:Nat} {x y:Operand} {t et q m1 m2:Nat} {ty te:Ty} {dead:Option Nat} {cs xs:List AV} (hT:∀t d,T t=some d->a8 P t d) (hm:0<m2) (hb:(m1+m2)*te.bytes<=140737488355328) (hxs:xs.length=m2*q) (h1:gd ops s o=some true) (ho:o.op= .call ⟨.builtin .append,#[x,y],#[t,t]⟩) (hd:o.dst=some d) (h3:aL n o.dst=true) (ht:T t=some ty) (hel:ty.elem=some (et,q)) (hte:T et=some te) (hq:te.size=q) (hq0:(Nat.ble 1 q && Nat.ble 1 te.bytes)=true)
 (hbase:eK s x m1 q et dead cs) (hy:s.ev y= .d (.leaf (.sl m2 xs))) (hnew:fJ s j'=true) (hcl:(bB te.zero && bB xs && jm dead)=true)
 (h4:fg draw ops (aA ops o ⟨.own j' (m1+m2) q et,some ((j',some (cs.take (m1*q)++xs))::fB dead [])⟩ (j'::sF dead)) k fps=true)
 (h:ar P T n ops id draw K (k+1) os (s.eff o.dst ⟨.own j' (m1+m2) q et,some ((j',some (cs.take (m1*q)++xs))::fB dead [])⟩) (aA ops o ⟨.own j' (m1+m2) q et,some ((j',some (cs.take (m1*q)++xs))::fB dead [])⟩ (j'::sF dead)::fps)):ar P T n ops id draw K k (o::os) s fps:=by
 rw[B_]at hq0
 have h63:m1+m2<=9223372036854775807:=by
  exact x8
 refine .run h1 (.gen fun s2 ht2 hrb=>?_) h3 h4 h;have hx2:s2.ev x=s.ev x:=aw ht2 (by rw[ho];simp[Op.operands,Call.operands]);have hy2:s2.ev y=s.ev y:=aw ht2 (by rw[ho];simp[Op.operands,Call.operands])
 have hbase2:eK s2 x m1 q et dead cs:=by
  exact Ke
 have hnew2:fJ s2 j'=true:=(ew (hrb j' S_)).trans hnew;intro n S0 w0 g a w K Q hM hdn hK;refine fC (hT _ _ ht) (hT _ _ hte) ho hd hel hq (N_ hq0.1) hbase2 (hy2.trans hy) hxs hm hb h63 (bA hnew2) (ji hnew2) (.inr hcl) hM (hdn d hd) fun g' a' w' hM'=>hK g' a' w' ?_
 rw[hd];cases dead<;>exact hM'
theorem M6 (j':Nat) {t:TypeId} {ty:Ty} {d:Nat} (hT:∀t d,T t=some d->a8 P t d) (h1:gd ops s o=some true) (ho:o.op= .alloc t) (hd:o.dst=some d) (ht:T t=some ty) (hj:ap s.b j'=none) (hrv:iF j'=false) (htb:ib j'=false) (hB:bB ty.zero=true) (h3:aL n o.dst=true)
 (h4:fg draw ops (aA ops o ⟨.box j' 0,some [(j',some ty.zero)]⟩ [j']) k fps=true) (h:ar P T n ops id draw K (k+1) os (s.eff o.dst ⟨.box j' 0,some [(j',some ty.zero)]⟩) (aA ops o ⟨.box j' 0,some [(j',some ty.zero)]⟩ [j']::fps)):ar P T n ops id draw K k (o::os) s fps:=
 .run h1 (.gen fun _ _ hrb=>pZ (hT _ _ ht) ho hd ⟨(hrb j' S_).trans hj,hrv⟩ hB (fun h=>by rw[htb]at h;cases h)) h3 h4 h
end
end Go.Proofs.YtnchbpoopnjghaaGreatDoor
