/- Parts of a proof: contracts of the functions that the laws reach. -/
import Derived.Test.YtikbnnljjeefgaaGreatDoorWZ3
import Derived.Test.YtikbnnljjeefgaaGreatDoorWZ8
import Derived.Test.YtikbnnljjeefgaaGreatDoorWZ1
set_option maxHeartbeats 100000000
set_option linter.all false
open Go.Proofs.Tryz
namespace Go.Proofs.YtikbnnljjeefgaaGreatDoor
open Go.RowKit
def IS (o:List UInt8):List AV:=o.map fun c=>AV.val (.int .u8 c.toNat)
def qS (s:List UInt8) (p:Nat) (x:Nat × List UInt8):AS:=⟨[(0, .d (dL s)),(1, .d (dN .i64 p)),(4, .d (dN .i64 0)),(5, .d (dL [])),(6, .own 700 x.2.length 1 5),(7, .d (dN .i64 x.1))],[(700,some (IS x.2))]⟩
def qT (s:List UInt8) (p i:Nat) (o:List UInt8) (x:UInt8):AS:=⟨[(0, .d (dL s)),(1, .d (dN .i64 p)),(4, .d (dN .i64 0)),(5, .d (dL [])),(6, .own 19003 (o.length+1) 1 5),(7, .d (dN .i64 i))],[(19003,some ((IS o).take (o.length*1)++[.val (.int .u8 x.toNat)]))]⟩
theorem FM (s:List UInt8) (p i:Nat) (o:List UInt8) (x:UInt8):aV (qT s p i o x) (qS s p (i,o++[x])):=by
 have e:IS (o++[x])=(IS o).take (o.length*1)++[.val (.int .u8 x.toNat)]:=by
  rw[List.take_of_length_le (by simp[IS])]
  simp[IS]
 unfold qS;rw[show(i,o++[x]).2=o++[x] from rfl,e,List.length_append];exact(ax (q:=6) (j:=19003) (j':=700) (m:=o.length+1) (k:=1) (e:=5) rfl rfl rfl rfl).trans (weak ⟨rfl,rfl,rfl,rfl,rfl,rfl,trivial⟩ ⟨rfl,trivial⟩ rfl)
theorem ve (d:UInt8):Lib.indexByte [34,92,110] d<0↔ ¬(d=34∨d=92∨d=110):=by
 have:=of [34,92,110] d
 constructor
 ·intro h hd
  have:=this.2 (by simpa using hd);omega
 ·intro h
  by_cases h1:0≤Lib.indexByte [34,92,110] d
  ·exact absurd (by simpa using this.1 h1) h
  ·omega
theorem r6 (s:List UInt8) (p:Nat) (c0:UInt8) (hp:s[p]? =some c0) (hl:s.length≤65536):
 ∃t,aa Tryz.prog 74 [dL s,dN .i64 p] (.tup [dN .i64 ((if c0=34 then p+mE (s.drop p)else p:Nat)),dL t]):=by
 have hB:=aB s;have hpl:=(List.getElem?_eq_some_iff.1 hp).1
 by_cases h34:c0=34
 ·have e34:c0.toNat=34:=by rw[h34];rfl
  refine⟨jU (s.drop (p+1)) [],?_⟩;rw[if_pos h34,mE,List.drop_drop];generalize hE:eT (s.drop (p+1)) 1=E;generalize hX:jU (s.drop (p+1)) []=X;refine kU func74 ?_;refine kR ?_;refine kI ?_;refine GP 700 ab rfl rfl rfl rfl rfl rfl rfl rfl ?_;refine kG ?_
  refine kO3 ?_
  refine kE ?_
  refine kO3 ?_
  refine ap ab (i:=p) (c:=c0) hp rfl rfl rfl rfl rfl rfl rfl rfl ?_;refine kB false ?_ ?_
  ·exact(by simp;omega)
  refine kG ?_;refine kO ?_;refine kJ ((p+1:Nat)) ?_;refine kW ?_
  refine aS (Nat × List UInt8) (fun x=>p+1≤x.1∧x.1≤s.length∧x.2.length≤x.1∧eT (s.drop x.1) (x.1-p)=E∧jU (s.drop x.1) x.2=X) (qS s p) (fun x=>s.length-x.1) (p+1,[]) ⟨Nat.le_refl _,hpl,Nat.zero_le _,by rw[show p+1-p=1 by omega];exact hE,hX⟩
   (weak ⟨rfl,rfl,rfl,rfl,rfl,rfl,trivial⟩ ⟨rfl,trivial⟩ rfl) ?_
  rintro⟨i,o⟩ ⟨h1,h2,h3,h4,h5⟩;dsimp only at h1 h2 h3 h4 h5;unfold qS;dsimp only;refine kI ?_
  refine kO3 ?_
  by_cases hlt:i<s.length
  ·have hx:s[i]? =some s[i]:=by simp[hlt]
   have hdrop:=List.drop_eq_getElem_cons hlt;generalize hc:s[i]=c at *;rw[hdrop]at h4 h5;refine kT ?_;refine kG ?_
   refine kO2 ?_
   refine ap ab (i:=i) (c:=c) hx rfl rfl rfl rfl rfl rfl rfl rfl ?_;refine kG ?_;refine kO ?_
   by_cases hctl:c.toNat<32
   ·have hne:c≠34:=fun e=>by rw[e]at hctl;exact absurd hctl (by decide)
    rw[pR hne hctl]at h4;rw[DL hne hctl]at h5;refine kT ?_;rw[← h4,← h5];exact kF
   ·refine kE ?_
    refine kG ?_;refine kO ?_
    by_cases hq:c=34
    ·have eq:c.toNat=34:=by rw[hq];rfl
     subst hq;rw[om]at h4;rw[IC]at h5;refine kT ?_
     repeat(first|refine .done ?_|refine av (T:=TT) ?_|refine b8 (T:=TT) ?_|refine ff (T:=TT) rfl ?_)
     refine ee (cG (q:=6) (j:=700) rfl rfl) rfl ?_;refine kO ?_;refine kJ ((p+E:Nat)) ?_;refine kO ?_;cases o with
     |nil=>
      refine IE ab rfl rfl rfl rfl rfl rfl rfl rfl rfl rfl rfl ?_;rw[← h5];exact kF
     |cons a r=>
      refine G3 ab (l:=a::r) rfl (by simp) rfl rfl rfl rfl rfl rfl rfl rfl rfl rfl rfl ?_;rw[← h5];exact kF
    ·have eq:¬c.toNat=34:=dU hq
     refine kE ?_;refine kG ?_;refine kO ?_
     by_cases hb:c=92
     ·have eb:c.toNat=92:=by rw[hb];rfl
      subst hb;refine kT ?_;refine kG ?_;refine kO ?_;refine kJ ((i+1:Nat)) ?_;refine kG ?_
      refine kO3 ?_
      by_cases hend:i+1=s.length
      ·rw[List.drop_eq_nil_of_le (Nat.le_of_eq hend.symm)]at h4 h5
       rw[qW (by decide)]at h4;rw[EB (by decide)]at h5;refine kT ?_;rw[← h4,← h5];exact kF
      ·have hlt2:i+1<s.length:=by omega
       have hx2:s[i+1]? =some s[i+1]:=by simp[hlt2]
       have hdrop2:=List.drop_eq_getElem_cons hlt2;generalize hd:s[i+1]=d at *;rw[hdrop2,nv]at h4;rw[hdrop2,Dq]at h5;refine kE ?_
       refine kO3 ?_
       refine ap ab (i:=i+1) (c:=d) hx2 rfl rfl rfl rfl rfl rfl rfl rfl ?_
       by_cases d34:d=34
       ·have e1:d.toNat=34:=by rw[d34];rfl
        rw[if_neg (fun h=>(ve d).1 h (.inl d34))]at h4 h5;refine kB false ?_ ?_
        ·exact(by simp;omega)
        refine kW ?_;refine ap ab (i:=i+1) (c:=d) hx2 rfl rfl rfl rfl rfl rfl rfl rfl ?_;refine kG ?_;refine kO ?_;refine kE ?_;rw[if_neg (by rw[d34];decide)]at h5;refine kG ?_
        refine kO3 ?_
        refine bI 19003 (m1:=o.length) (m2:=1) ab (by decide) (by show(o.length+1)*1≤_;omega) rfl rfl rfl rfl rfl rfl rfl rfl rfl rfl rfl (.own rfl rfl) rfl rfl rfl ?_;refine kW ?_;exact⟨(i+2,o++[d]),⟨by dsimp only;omega,by dsimp only;omega,by simp;omega,by rw[show i+2-p=i-p+2 by omega];exact h4,h5⟩,by dsimp only;omega,aV.trans (b:=qT s p (i+2) o d) (weak ⟨rfl,rfl,rfl,rfl,rfl,aG (by omega) (by omega),trivial⟩ ⟨rfl,trivial⟩ rfl) (FM s p (i+2) o d)⟩
       ·have e1:¬d.toNat=34:=dU d34
        refine kB true ?_ ?_
        ·exact(by simp;omega)
        refine kO3 ?_
        refine ap ab (i:=i+1) (c:=d) hx2 rfl rfl rfl rfl rfl rfl rfl rfl ?_
        by_cases d92:d=92
        ·have e2:d.toNat=92:=by rw[d92];rfl
         rw[if_neg (fun h=>(ve d).1 h (.inr (.inl d92)))]at h4 h5;refine kB false ?_ ?_
         ·exact(by simp;omega)
         refine kW ?_;refine ap ab (i:=i+1) (c:=d) hx2 rfl rfl rfl rfl rfl rfl rfl rfl ?_;refine kG ?_;refine kO ?_;refine kE ?_;rw[if_neg (by rw[d92];decide)]at h5;refine kG ?_
         refine kO3 ?_
         refine bI 19003 (m1:=o.length) (m2:=1) ab (by decide) (by show(o.length+1)*1≤_;omega) rfl rfl rfl rfl rfl rfl rfl rfl rfl rfl rfl (.own rfl rfl) rfl rfl rfl ?_;refine kW ?_;exact⟨(i+2,o++[d]),⟨by dsimp only;omega,by dsimp only;omega,by simp;omega,by rw[show i+2-p=i-p+2 by omega];exact h4,h5⟩,by dsimp only;omega,aV.trans (b:=qT s p (i+2) o d) (weak ⟨rfl,rfl,rfl,rfl,rfl,aG (by omega) (by omega),trivial⟩ ⟨rfl,trivial⟩ rfl) (FM s p (i+2) o d)⟩
        ·have e2:¬d.toNat=92:=dU d92
         refine kB true ?_ ?_
         ·exact(by simp;omega)
         refine kO4 ?_
         refine ap ab (i:=i+1) (c:=d) hx2 rfl rfl rfl rfl rfl rfl rfl rfl ?_
         by_cases d110:d=110
         ·have e3:d.toNat=110:=by rw[d110];rfl
          rw[if_neg (fun h=>(ve d).1 h (.inr (.inr d110)))]at h4 h5;refine kB false ?_ ?_
          ·exact(by simp;omega)
          refine kW ?_;refine ap ab (i:=i+1) (c:=d) hx2 rfl rfl rfl rfl rfl rfl rfl rfl ?_;refine kG ?_;refine kO ?_;refine kT ?_;rw[if_pos d110]at h5;refine kG ?_;refine kO ?_;refine kG ?_
          refine kO3 ?_
          refine bI 19003 (m1:=o.length) (m2:=1) ab (by decide) (by show(o.length+1)*1≤_;omega) rfl rfl rfl rfl rfl rfl rfl rfl rfl rfl rfl (.own rfl rfl) rfl rfl rfl ?_;refine kW ?_;exact⟨(i+2,o++[10]),⟨by dsimp only;omega,by dsimp only;omega,by simp;omega,by rw[show i+2-p=i-p+2 by omega];exact h4,h5⟩,by dsimp only;omega,aV.trans (b:=qT s p (i+2) o 10) (weak ⟨rfl,rfl,rfl,rfl,rfl,aG (by omega) (by omega),trivial⟩ ⟨rfl,trivial⟩ rfl) (FM s p (i+2) o 10)⟩
         ·have e3:¬d.toNat=110:=dU d110
          rw[if_pos ((ve d).2 (fun h=>by rcases h with h|h|h;exact d34 h;exact d92 h;exact d110 h))]at h4 h5;refine kB true ?_ ?_
          ·exact(by simp;omega)
          rw[← h4,← h5];exact kF
     ·have eb:¬c.toNat=92:=dU hb
      rw[pm hq hctl hb]at h4;rw[Fz hq hctl hb]at h5;refine kE ?_;refine kG ?_
      refine kO3 ?_
      refine bI 19003 (m1:=o.length) (m2:=1) ab (by decide) (by show(o.length+1)*1≤_;omega) rfl rfl rfl rfl rfl rfl rfl rfl rfl rfl rfl (.own rfl rfl) rfl rfl rfl ?_;refine kW ?_;exact⟨(i+1,o++[c]),⟨by dsimp only;omega,by dsimp only;omega,by simp;omega,by rw[show i+1-p=i-p+1 by omega];exact h4,h5⟩,by dsimp only;omega,aV.trans (b:=qT s p (i+1) o c) (weak ⟨rfl,rfl,rfl,rfl,rfl,aG (by omega) (by omega),trivial⟩ ⟨rfl,trivial⟩ rfl) (FM s p (i+1) o c)⟩
  ·have hi:i=s.length:=by omega
   rw[List.drop_eq_nil_of_le (Nat.le_of_eq hi.symm)]at h4 h5;have h4:0=E:=h4;have h5:[]=X:=h5;refine kE ?_;rw[← h4,← h5];exact kF
 ·have e34:¬c0.toNat=34:=dU h34
  refine⟨[],?_⟩;rw[if_neg h34];refine kU func74 ?_;refine kR ?_;refine kI ?_;refine GP 700 ab rfl rfl rfl rfl rfl rfl rfl rfl ?_;refine kG ?_
  refine kO3 ?_
  refine kE ?_
  refine kO3 ?_
  refine ap ab (i:=p) (c:=c0) hp rfl rfl rfl rfl rfl rfl rfl rfl ?_;refine kB true ?_ ?_
  ·exact(by simp;omega)
  exact kF
def JW (J:Nat):List Tk→TV
 | []=> .nil
 |a::r=> .own J (a::r).length 3 77
theorem Dv (J:Nat) (l:List Tk) (t:Tk):JW J (l++[t])= .own J (l.length+1) 3 77:=by
 cases l with
 |nil=>rfl
 |cons a r=>simp[JW]
theorem fi (s:List UInt8) (acc:List Tk) (t:Tk) (m:Nat):(⟨[(0, .d (dL s)),(2, .nil),(3, .d (dN .i64 0)),(4, .d (dN .i64 0)),(5,JW 13001 (acc++[t])),(6, .d (dN .i64 m))],[(13001,IM (acc++[t]))]⟩:AS)=⟨[(0, .d (dL s)),(2, .nil),(3, .d (dN .i64 0)),(4, .d (dN .i64 0)),(5, .own 13001 (acc.length+1) 3 77),(6, .d (dN .i64 m))],[(13001,some ((co acc).take (acc.length*3)++iB t))]⟩:=by rw[Dv,wq,ls]
theorem Gn {c:UInt8} (h:ez c=true):gJ c=true:=by simp[gJ,h]
theorem nX {p:UInt8→Bool} {c:UInt8} {r:List UInt8} (h:p c=true):0<bf p (c::r):=by simp[bf,List.takeWhile_cons,h]
theorem y3 {p:UInt8→Bool} {c:UInt8} {r:List UInt8} (h:p c=false):bf p (c::r)=0:=by simp[bf,List.takeWhile_cons,h]
theorem DT {c:UInt8} {r:List UInt8} (h:cH c=true):0<jD (c::r):=by
 have:=nX (r:=r) h;unfold jD
 split <;>omega
inductive Nx (s:List UInt8) (i:Nat) (c:UInt8) (w m q:Nat):Nat→Nat→Prop
 |wd {n:Nat} (h0:0<n) (hw:w=n) (h:n≤24):Nx s i c w m q 1 n
 |lg {n:Nat} (hw:w=n) (h:24<n):Nx s i c w m q 1 n
 |nm {n:Nat} (h0:0<n) (hw:w=0) (hm:m=n):Nx s i c w m q 2 n
 |qt {n:Nat} (h0:0<n) (hw:w=0) (hm:m=0) (hq:q=n):Nx s i c w m q 3 n
 |sy (hw:w=0) (hm:m=0) (hq:q=0) (hs:r7 c=true):Nx s i c w m q 4 1
 |nl (hw:w=0) (hm:m=0) (hq:q=0) (hs:r7 c=false) (hc:c=10):Nx s i c w m q 5 1
 |no {k:Nat} (hw:w=0) (hm:m=0) (hq:q=0) (hs:r7 c=false) (hc:c≠10):Nx s i c w m q k 0
theorem GQ (s:List UInt8) (i:Nat) (c:UInt8) (r:List UInt8):Nx s i c (xR (c::r)) (if 0<bf cH (c::r)then jD (c::r)else 0) (if c=34 then mE (c::r)else 0) (gO (c::r)).1 (gO (c::r)).2:=by
 rw[gO,xR];cases h1:ez c
 ·simp only[Bool.false_eq_true,if_false]
  cases h2:cH c
  ·rw[y3 h2,if_neg (Nat.lt_irrefl 0)]
   simp only[Bool.false_eq_true,if_false]
   by_cases h3:c=34
   ·rw[if_pos h3,if_pos h3]
    dsimp only
    by_cases h4:mE (c::r)=0
    ·rw[h4]
     exact .no rfl rfl rfl (by rw[h3];decide) (by rw[h3];decide)
    ·exact .qt (by omega) rfl rfl rfl
   ·rw[if_neg h3,if_neg h3]
    by_cases h4:c=10
    ·rw[if_pos h4]
     exact .nl rfl rfl rfl (by rw[h4];decide) h4
    ·rw[if_neg h4]
     cases h5:r7 c
     ·rw[if_neg (by decide)]
      exact .no rfl rfl rfl h5 h4
     ·rw[if_pos rfl]
      exact .sy rfl rfl rfl h5
  ·rw[if_pos (nX h2)]
   simp only[if_true]
   exact .nm (DT h2) rfl rfl
 ·simp only[if_true]
  have:=nX (r:=r) (Gn h1)
  by_cases h:bf gJ (c::r)≤24
  ·exact .wd this rfl h
  ·exact .lg rfl (by omega)
theorem lI (s:List UInt8) (hl:s.length≤65536):aa Tryz.prog 42 [dL s] (jO (dl (s.length+1) s 0 [])):=by
 have hB:=aB s;generalize hR:dl (s.length+1) s 0 []=R;refine kU func42 ?_;refine kR ?_;refine kI ?_
 refine kO2 ?_
 refine kY ?_
 refine aS (Nat × List Tk) (fun x=>x.1≤s.length∧x.2.length≤x.1∧ ∃f,s.length-x.1<f∧dl f (s.drop x.1) x.1 x.2=R) (fun x=>⟨[(0, .d (dL s)),(2, .nil),(3, .d (dN .i64 0)),(4, .d (dN .i64 0)),(5,JW 13001 x.2),(6, .d (dN .i64 x.1))],[(13001,IM x.2)]⟩) (fun x=>s.length-x.1) (0,[]) ⟨Nat.zero_le _,Nat.le_refl _,s.length+1,by dsimp only;omega,hR⟩
  (weak ⟨rfl,rfl,rfl,rfl,rfl,rfl,trivial⟩ trivial rfl) ?_
 rintro⟨i,acc⟩ ⟨h1,h2,f,hf,h3⟩;dsimp only at h1 h2 hf h3 ⊢;cases f with
 |zero=>exact absurd hf (Nat.not_lt_zero _)
 |succ f=>
 refine kI ?_
 refine kO3 ?_
 by_cases hlt:i<s.length
 ·have hx:s[i]? =some s[i]:=by simp[hlt]
  have hdrop:=List.drop_eq_getElem_cons hlt;have cw:=xP s i (by omega) (by omega);have cm:=r8 s i (by omega) (by omega) rfl;obtain⟨qt,cq⟩:=r6 s i s[i] hx hl;have cs:=sh s[i];generalize hc:s[i]=c at *;rw[show((if c=34 then i+mE (s.drop i)else i:Nat))=i+(if c=34 then mE (s.drop i)else 0) by split <;>omega]at cq;refine kT ?_;refine kG ?_
  refine kO2 ?_
  refine ap ab (i:=i) (c:=c) hx rfl rfl rfl rfl rfl rfl rfl rfl ?_
  by_cases hsp:c=32∨c=9
  ·rw[hdrop,dl,if_pos hsp]at h3
   by_cases c32:c=32
   ·have e32:c.toNat=32:=by rw[c32];rfl
    refine kX ?_
    exact⟨(i+1,acc),⟨hlt,by dsimp only;omega,f,by dsimp only;omega,h3⟩,by dsimp only;omega,by
     cases acc
     ·exact weak ⟨rfl,rfl,rfl,rfl,rfl,aG (by omega) (by omega),trivial⟩ trivial rfl
     ·exact weak ⟨rfl,rfl,rfl,rfl,rfl,aG (by omega) (by omega),trivial⟩ ⟨rfl,trivial⟩ rfl⟩
   ·have e32:¬c.toNat=32:=dU c32
    have e9:c.toNat=9:=by rw[hsp.resolve_left c32];rfl
    refine kE ?_
    refine kO3 ?_
    refine ap ab (i:=i) (c:=c) hx rfl rfl rfl rfl rfl rfl rfl rfl ?_;refine kX ?_
    exact⟨(i+1,acc),⟨hlt,by dsimp only;omega,f,by dsimp only;omega,h3⟩,by dsimp only;omega,by
     cases acc
     ·exact weak ⟨rfl,rfl,rfl,rfl,rfl,aG (by omega) (by omega),trivial⟩ trivial rfl
     ·exact weak ⟨rfl,rfl,rfl,rfl,rfl,aG (by omega) (by omega),trivial⟩ ⟨rfl,trivial⟩ rfl⟩
  ·have e32:¬c.toNat=32:=dU (fun e=>hsp (.inl e))
   have e9:¬c.toNat=9:=dU (fun e=>hsp (.inr e));have hdl:(s.drop i).length=s.length-i:=List.length_drop;have hnl:=vh (s.drop i);have hnx:=GQ s i c (s.drop (i+1));rw[← hdrop]at hnx;rw[hdrop,dl,if_neg hsp]at h3;rw[← hdrop]at h3;generalize(gO (s.drop i)).1=k at *;generalize(gO (s.drop i)).2=n at *;generalize xR (s.drop i)=w at *;generalize(if 0<bf cH (s.drop i)then jD (s.drop i)else 0)=m at *;generalize(if c=34 then mE (s.drop i)else 0)=q at *;rw[List.drop_drop]at h3;have htx:(s.take (i+n)).drop i=(s.drop i).take n:=by rw[List.drop_take];congr 1;omega
   rw[← htx]at h3;cases acc with
   |nil=>
    refine kE ?_
    refine kO3 ?_
    refine ap ab (i:=i) (c:=c) hx rfl rfl rfl rfl rfl rfl rfl rfl ?_;refine kE ?_;refine kG ?_
    refine kO2 ?_
    refine kC (cw) ?_;refine kG ?_
    refine kO2 ?_
    cases hnx with
    |lg hw h=>
     subst hw;refine kJ ((w:Nat)) ?_;rw[if_neg (by omega),if_pos ⟨rfl,h⟩]at h3;refine kT ?_;rw[← h3];exact kF
    |wd h0 hw h=>
     subst hw;refine kJ ((w:Nat)) ?_;refine kE ?_;rw[if_neg (by omega),if_neg (by omega)]at h3;refine kG ?_
     refine kO2 ?_
     refine kE ?_;refine kG ?_
     refine kO2 ?_
     refine kE ?_;refine kG ?_
     refine kO2 ?_
     refine kE ?_;refine kG ?_
     refine kO2 ?_
     refine kE ?_;refine kG ?_
     refine kO2 ?_
     refine kE ?_;refine kG ?_
     refine kO5 ?_
     refine iP ab (l:=s) (i:=i) (j:=i+w) (by omega) (by omega) rfl rfl rfl rfl rfl rfl rfl rfl rfl ?_
     refine kO3 ?_
     refine bI 13002 (m1:=0) (m2:=1) ab (by decide) (by decide) rfl rfl rfl rfl rfl rfl rfl rfl rfl rfl rfl (.nil rfl rfl) rfl rfl rfl ?_;refine kW ?_
     exact⟨(i+w,([]:List Tk)++[(1,(s.take (i+w)).drop i,i)]),⟨by dsimp only;omega,by rw[List.length_append];dsimp only[List.length_cons,List.length_nil]at h2 ⊢;omega,f,by dsimp only;omega,h3⟩,by dsimp only;omega,by
      exact Eq.mpr (congrArg (aV _) (fi s ([]:List Tk) (1,(s.take (i+w)).drop i,i) (i+w))) (aV.trans (b:=⟨[(0, .d (dL s)),(2, .nil),(3, .d (dN .i64 0)),(4, .d (dN .i64 0)),(5, .own 13002 (([]:List Tk).length+1) 3 77),(6, .d (dN .i64 ((i+w:Nat))))],[(13002,some ((co ([]:List Tk)).take (([]:List Tk).length*3)++iB (1,(s.take (i+w)).drop i,i)))]⟩) (weak ⟨rfl,rfl,rfl,rfl,rfl,rfl,trivial⟩ ⟨rfl,trivial⟩ rfl) ((ax (q:=5) (j:=13002) (j':=13001) (m:=([]:List Tk).length+1) (k:=3) (e:=77) (cs:=(co ([]:List Tk)).take (([]:List Tk).length*3)++iB (1,(s.take (i+w)).drop i,i)) rfl rfl rfl rfl).trans (weak ⟨rfl,rfl,rfl,rfl,rfl,rfl,trivial⟩ ⟨rfl,trivial⟩ rfl)))⟩
    |nm h0 hw hm=>
     subst hw hm;refine kJ ((0:Nat)) ?_;refine kE ?_;refine kG ?_
     refine kO2 ?_
     refine kX ?_;refine kC (cm) ?_;refine kG ?_;rw[if_neg (by omega),if_neg (by omega)]at h3
     refine kO2 ?_
     refine kE ?_;refine kG ?_
     refine kO2 ?_
     refine kE ?_;refine kG ?_
     refine kO2 ?_
     refine kE ?_;refine kG ?_
     refine kO2 ?_
     refine kE ?_;refine kG ?_
     refine kO5 ?_
     refine iP ab (l:=s) (i:=i) (j:=i+m) (by omega) (by omega) rfl rfl rfl rfl rfl rfl rfl rfl rfl ?_
     refine kO3 ?_
     refine bI 13002 (m1:=0) (m2:=1) ab (by decide) (by decide) rfl rfl rfl rfl rfl rfl rfl rfl rfl rfl rfl (.nil rfl rfl) rfl rfl rfl ?_;refine kW ?_
     exact⟨(i+m,([]:List Tk)++[(2,(s.take (i+m)).drop i,i)]),⟨by dsimp only;omega,by rw[List.length_append];dsimp only[List.length_cons,List.length_nil]at h2 ⊢;omega,f,by dsimp only;omega,h3⟩,by dsimp only;omega,by
      exact Eq.mpr (congrArg (aV _) (fi s ([]:List Tk) (2,(s.take (i+m)).drop i,i) (i+m))) (aV.trans (b:=⟨[(0, .d (dL s)),(2, .nil),(3, .d (dN .i64 0)),(4, .d (dN .i64 0)),(5, .own 13002 (([]:List Tk).length+1) 3 77),(6, .d (dN .i64 ((i+m:Nat))))],[(13002,some ((co ([]:List Tk)).take (([]:List Tk).length*3)++iB (2,(s.take (i+m)).drop i,i)))]⟩) (weak ⟨rfl,rfl,rfl,rfl,rfl,rfl,trivial⟩ ⟨rfl,trivial⟩ rfl) ((ax (q:=5) (j:=13002) (j':=13001) (m:=([]:List Tk).length+1) (k:=3) (e:=77) (cs:=(co ([]:List Tk)).take (([]:List Tk).length*3)++iB (2,(s.take (i+m)).drop i,i)) rfl rfl rfl rfl).trans (weak ⟨rfl,rfl,rfl,rfl,rfl,rfl,trivial⟩ ⟨rfl,trivial⟩ rfl)))⟩
    |qt h0 hw hm hq=>
     subst hw hm hq;refine kJ ((0:Nat)) ?_;refine kE ?_;refine kG ?_
     refine kO2 ?_
     refine kX ?_;refine kC (cm) ?_;refine kG ?_
     refine kO2 ?_
     refine kX ?_;refine kC (cq) ?_;refine kG ?_;rw[if_neg (by omega),if_neg (by omega)]at h3
     refine kO2 ?_
     refine kE ?_;refine kG ?_
     refine kO2 ?_
     refine kE ?_;refine kG ?_
     refine kO2 ?_
     refine kE ?_;refine kG ?_
     refine kO5 ?_
     refine iP ab (l:=s) (i:=i) (j:=i+q) (by omega) (by omega) rfl rfl rfl rfl rfl rfl rfl rfl rfl ?_
     refine kO3 ?_
     refine bI 13002 (m1:=0) (m2:=1) ab (by decide) (by decide) rfl rfl rfl rfl rfl rfl rfl rfl rfl rfl rfl (.nil rfl rfl) rfl rfl rfl ?_;refine kW ?_
     exact⟨(i+q,([]:List Tk)++[(3,(s.take (i+q)).drop i,i)]),⟨by dsimp only;omega,by rw[List.length_append];dsimp only[List.length_cons,List.length_nil]at h2 ⊢;omega,f,by dsimp only;omega,h3⟩,by dsimp only;omega,by
      exact Eq.mpr (congrArg (aV _) (fi s ([]:List Tk) (3,(s.take (i+q)).drop i,i) (i+q))) (aV.trans (b:=⟨[(0, .d (dL s)),(2, .nil),(3, .d (dN .i64 0)),(4, .d (dN .i64 0)),(5, .own 13002 (([]:List Tk).length+1) 3 77),(6, .d (dN .i64 ((i+q:Nat))))],[(13002,some ((co ([]:List Tk)).take (([]:List Tk).length*3)++iB (3,(s.take (i+q)).drop i,i)))]⟩) (weak ⟨rfl,rfl,rfl,rfl,rfl,rfl,trivial⟩ ⟨rfl,trivial⟩ rfl) ((ax (q:=5) (j:=13002) (j':=13001) (m:=([]:List Tk).length+1) (k:=3) (e:=77) (cs:=(co ([]:List Tk)).take (([]:List Tk).length*3)++iB (3,(s.take (i+q)).drop i,i)) rfl rfl rfl rfl).trans (weak ⟨rfl,rfl,rfl,rfl,rfl,rfl,trivial⟩ ⟨rfl,trivial⟩ rfl)))⟩
    |sy hw hm hq hs=>
     subst hw hm hq;refine kJ ((0:Nat)) ?_;refine kE ?_;refine kG ?_
     refine kO2 ?_
     refine kX ?_;refine kC (cm) ?_;refine kG ?_
     refine kO2 ?_
     refine kX ?_;refine kC (cq) ?_;refine kG ?_
     refine kO2 ?_
     refine kT ?_
     refine kO3 ?_
     refine ap ab (i:=i) (c:=c) hx rfl rfl rfl rfl rfl rfl rfl rfl ?_;rw[hs]at cs;refine kC (cs) ?_;rw[if_neg (by omega),if_neg (by omega)]at h3;refine kG ?_;refine kO ?_;refine kJ ((i+1:Nat)) ?_;refine kG ?_
     refine kO2 ?_
     refine kE ?_;refine kG ?_
     refine kO2 ?_
     refine kE ?_;refine kG ?_
     refine kO5 ?_
     refine iP ab (l:=s) (i:=i) (j:=i+1) (by omega) (by omega) rfl rfl rfl rfl rfl rfl rfl rfl rfl ?_
     refine kO3 ?_
     refine bI 13002 (m1:=0) (m2:=1) ab (by decide) (by decide) rfl rfl rfl rfl rfl rfl rfl rfl rfl rfl rfl (.nil rfl rfl) rfl rfl rfl ?_;refine kW ?_
     exact⟨(i+1,([]:List Tk)++[(4,(s.take (i+1)).drop i,i)]),⟨by dsimp only;omega,by rw[List.length_append];dsimp only[List.length_cons,List.length_nil]at h2 ⊢;omega,f,by dsimp only;omega,h3⟩,by dsimp only;omega,by
      exact Eq.mpr (congrArg (aV _) (fi s ([]:List Tk) (4,(s.take (i+1)).drop i,i) (i+1))) (aV.trans (b:=⟨[(0, .d (dL s)),(2, .nil),(3, .d (dN .i64 0)),(4, .d (dN .i64 0)),(5, .own 13002 (([]:List Tk).length+1) 3 77),(6, .d (dN .i64 ((i+1:Nat))))],[(13002,some ((co ([]:List Tk)).take (([]:List Tk).length*3)++iB (4,(s.take (i+1)).drop i,i)))]⟩) (weak ⟨rfl,rfl,rfl,rfl,rfl,rfl,trivial⟩ ⟨rfl,trivial⟩ rfl) ((ax (q:=5) (j:=13002) (j':=13001) (m:=([]:List Tk).length+1) (k:=3) (e:=77) (cs:=(co ([]:List Tk)).take (([]:List Tk).length*3)++iB (4,(s.take (i+1)).drop i,i)) rfl rfl rfl rfl).trans (weak ⟨rfl,rfl,rfl,rfl,rfl,rfl,trivial⟩ ⟨rfl,trivial⟩ rfl)))⟩
    |nl hw hm hq hs hc=>
     subst hw hm hq;refine kJ ((0:Nat)) ?_;refine kE ?_;refine kG ?_
     refine kO2 ?_
     refine kX ?_;refine kC (cm) ?_;refine kG ?_
     refine kO2 ?_
     refine kX ?_;refine kC (cq) ?_;refine kG ?_
     refine kO2 ?_
     refine kT ?_
     refine kO3 ?_
     refine ap ab (i:=i) (c:=c) hx rfl rfl rfl rfl rfl rfl rfl rfl ?_;rw[hs]at cs;refine kC (cs) ?_;refine kG ?_
     refine kO2 ?_
     refine kT ?_
     refine kO3 ?_
     refine ap ab (i:=i) (c:=c) hx rfl rfl rfl rfl rfl rfl rfl rfl ?_;have e10:c.toNat=10:=by rw[hc];rfl
     refine kT ?_;rw[if_neg (by omega),if_neg (by omega)]at h3;refine kG ?_;refine kO ?_;refine kJ ((i+1:Nat)) ?_;refine kG ?_
     refine kO2 ?_
     refine kE ?_;refine kG ?_
     refine kO5 ?_
     refine iP ab (l:=s) (i:=i) (j:=i+1) (by omega) (by omega) rfl rfl rfl rfl rfl rfl rfl rfl rfl ?_
     refine kO3 ?_
     refine bI 13002 (m1:=0) (m2:=1) ab (by decide) (by decide) rfl rfl rfl rfl rfl rfl rfl rfl rfl rfl rfl (.nil rfl rfl) rfl rfl rfl ?_;refine kW ?_
     exact⟨(i+1,([]:List Tk)++[(5,(s.take (i+1)).drop i,i)]),⟨by dsimp only;omega,by rw[List.length_append];dsimp only[List.length_cons,List.length_nil]at h2 ⊢;omega,f,by dsimp only;omega,h3⟩,by dsimp only;omega,by
      exact Eq.mpr (congrArg (aV _) (fi s ([]:List Tk) (5,(s.take (i+1)).drop i,i) (i+1))) (aV.trans (b:=⟨[(0, .d (dL s)),(2, .nil),(3, .d (dN .i64 0)),(4, .d (dN .i64 0)),(5, .own 13002 (([]:List Tk).length+1) 3 77),(6, .d (dN .i64 ((i+1:Nat))))],[(13002,some ((co ([]:List Tk)).take (([]:List Tk).length*3)++iB (5,(s.take (i+1)).drop i,i)))]⟩) (weak ⟨rfl,rfl,rfl,rfl,rfl,rfl,trivial⟩ ⟨rfl,trivial⟩ rfl) ((ax (q:=5) (j:=13002) (j':=13001) (m:=([]:List Tk).length+1) (k:=3) (e:=77) (cs:=(co ([]:List Tk)).take (([]:List Tk).length*3)++iB (5,(s.take (i+1)).drop i,i)) rfl rfl rfl rfl).trans (weak ⟨rfl,rfl,rfl,rfl,rfl,rfl,trivial⟩ ⟨rfl,trivial⟩ rfl)))⟩
    |no hw hm hq hs hc=>
     subst hw hm hq;refine kJ ((0:Nat)) ?_;refine kE ?_;refine kG ?_
     refine kO2 ?_
     refine kX ?_;refine kC (cm) ?_;refine kG ?_
     refine kO2 ?_
     refine kX ?_;refine kC (cq) ?_;refine kG ?_
     refine kO2 ?_
     refine kT ?_
     refine kO3 ?_
     refine ap ab (i:=i) (c:=c) hx rfl rfl rfl rfl rfl rfl rfl rfl ?_;rw[hs]at cs;refine kC (cs) ?_;refine kG ?_
     refine kO2 ?_
     refine kT ?_
     refine kO3 ?_
     refine ap ab (i:=i) (c:=c) hx rfl rfl rfl rfl rfl rfl rfl rfl ?_;have e10:¬c.toNat=10:=dU hc;refine kE ?_;rw[if_pos rfl]at h3;refine kG ?_
     refine kO2 ?_
     refine kT ?_;rw[← h3];exact kF
   |cons a r=>
    refine kE ?_
    refine kO3 ?_
    refine ap ab (i:=i) (c:=c) hx rfl rfl rfl rfl rfl rfl rfl rfl ?_;refine kE ?_;refine kG ?_
    refine kO2 ?_
    refine kC (cw) ?_;refine kG ?_
    refine kO2 ?_
    cases hnx with
    |lg hw h=>
     subst hw;refine kJ ((w:Nat)) ?_;rw[if_neg (by omega),if_pos ⟨rfl,h⟩]at h3;refine kT ?_;rw[← h3];exact kF
    |wd h0 hw h=>
     subst hw;refine kJ ((w:Nat)) ?_;refine kE ?_;rw[if_neg (by omega),if_neg (by omega)]at h3;refine kG ?_
     refine kO2 ?_
     refine kE ?_;refine kG ?_
     refine kO2 ?_
     refine kE ?_;refine kG ?_
     refine kO2 ?_
     refine kE ?_;refine kG ?_
     refine kO2 ?_
     refine kE ?_;refine kG ?_
     refine kO2 ?_
     refine kE ?_;refine kG ?_
     refine kO5 ?_
     refine iP ab (l:=s) (i:=i) (j:=i+w) (by omega) (by omega) rfl rfl rfl rfl rfl rfl rfl rfl rfl ?_
     refine kO3 ?_
     refine bI 13002 (m1:=(a::r).length) (m2:=1) ab (by decide) (by show((a::r).length+1)*32≤_;omega) rfl rfl rfl rfl rfl rfl rfl rfl rfl rfl rfl (.own rfl rfl) rfl rfl rfl ?_;refine kW ?_
     exact⟨(i+w,(a::r)++[(1,(s.take (i+w)).drop i,i)]),⟨by dsimp only;omega,by rw[List.length_append];dsimp only[List.length_cons,List.length_nil]at h2 ⊢;omega,f,by dsimp only;omega,h3⟩,by dsimp only;omega,by
      exact Eq.mpr (congrArg (aV _) (fi s (a::r) (1,(s.take (i+w)).drop i,i) (i+w))) (aV.trans (b:=⟨[(0, .d (dL s)),(2, .nil),(3, .d (dN .i64 0)),(4, .d (dN .i64 0)),(5, .own 13002 ((a::r).length+1) 3 77),(6, .d (dN .i64 ((i+w:Nat))))],[(13002,some ((co (a::r)).take ((a::r).length*3)++iB (1,(s.take (i+w)).drop i,i)))]⟩) (weak ⟨rfl,rfl,rfl,rfl,rfl,rfl,trivial⟩ ⟨rfl,trivial⟩ rfl) ((ax (q:=5) (j:=13002) (j':=13001) (m:=(a::r).length+1) (k:=3) (e:=77) (cs:=(co (a::r)).take ((a::r).length*3)++iB (1,(s.take (i+w)).drop i,i)) rfl rfl rfl rfl).trans (weak ⟨rfl,rfl,rfl,rfl,rfl,rfl,trivial⟩ ⟨rfl,trivial⟩ rfl)))⟩
    |nm h0 hw hm=>
     subst hw hm;refine kJ ((0:Nat)) ?_;refine kE ?_;refine kG ?_
     refine kO2 ?_
     refine kX ?_;refine kC (cm) ?_;refine kG ?_;rw[if_neg (by omega),if_neg (by omega)]at h3
     refine kO2 ?_
     refine kE ?_;refine kG ?_
     refine kO2 ?_
     refine kE ?_;refine kG ?_
     refine kO2 ?_
     refine kE ?_;refine kG ?_
     refine kO2 ?_
     refine kE ?_;refine kG ?_
     refine kO5 ?_
     refine iP ab (l:=s) (i:=i) (j:=i+m) (by omega) (by omega) rfl rfl rfl rfl rfl rfl rfl rfl rfl ?_
     refine kO3 ?_
     refine bI 13002 (m1:=(a::r).length) (m2:=1) ab (by decide) (by show((a::r).length+1)*32≤_;omega) rfl rfl rfl rfl rfl rfl rfl rfl rfl rfl rfl (.own rfl rfl) rfl rfl rfl ?_;refine kW ?_
     exact⟨(i+m,(a::r)++[(2,(s.take (i+m)).drop i,i)]),⟨by dsimp only;omega,by rw[List.length_append];dsimp only[List.length_cons,List.length_nil]at h2 ⊢;omega,f,by dsimp only;omega,h3⟩,by dsimp only;omega,by
      exact Eq.mpr (congrArg (aV _) (fi s (a::r) (2,(s.take (i+m)).drop i,i) (i+m))) (aV.trans (b:=⟨[(0, .d (dL s)),(2, .nil),(3, .d (dN .i64 0)),(4, .d (dN .i64 0)),(5, .own 13002 ((a::r).length+1) 3 77),(6, .d (dN .i64 ((i+m:Nat))))],[(13002,some ((co (a::r)).take ((a::r).length*3)++iB (2,(s.take (i+m)).drop i,i)))]⟩) (weak ⟨rfl,rfl,rfl,rfl,rfl,rfl,trivial⟩ ⟨rfl,trivial⟩ rfl) ((ax (q:=5) (j:=13002) (j':=13001) (m:=(a::r).length+1) (k:=3) (e:=77) (cs:=(co (a::r)).take ((a::r).length*3)++iB (2,(s.take (i+m)).drop i,i)) rfl rfl rfl rfl).trans (weak ⟨rfl,rfl,rfl,rfl,rfl,rfl,trivial⟩ ⟨rfl,trivial⟩ rfl)))⟩
    |qt h0 hw hm hq=>
     subst hw hm hq;refine kJ ((0:Nat)) ?_;refine kE ?_;refine kG ?_
     refine kO2 ?_
     refine kX ?_;refine kC (cm) ?_;refine kG ?_
     refine kO2 ?_
     refine kX ?_;refine kC (cq) ?_;refine kG ?_;rw[if_neg (by omega),if_neg (by omega)]at h3
     refine kO2 ?_
     refine kE ?_;refine kG ?_
     refine kO2 ?_
     refine kE ?_;refine kG ?_
     refine kO2 ?_
     refine kE ?_;refine kG ?_
     refine kO5 ?_
     refine iP ab (l:=s) (i:=i) (j:=i+q) (by omega) (by omega) rfl rfl rfl rfl rfl rfl rfl rfl rfl ?_
     refine kO3 ?_
     refine bI 13002 (m1:=(a::r).length) (m2:=1) ab (by decide) (by show((a::r).length+1)*32≤_;omega) rfl rfl rfl rfl rfl rfl rfl rfl rfl rfl rfl (.own rfl rfl) rfl rfl rfl ?_;refine kW ?_
     exact⟨(i+q,(a::r)++[(3,(s.take (i+q)).drop i,i)]),⟨by dsimp only;omega,by rw[List.length_append];dsimp only[List.length_cons,List.length_nil]at h2 ⊢;omega,f,by dsimp only;omega,h3⟩,by dsimp only;omega,by
      exact Eq.mpr (congrArg (aV _) (fi s (a::r) (3,(s.take (i+q)).drop i,i) (i+q))) (aV.trans (b:=⟨[(0, .d (dL s)),(2, .nil),(3, .d (dN .i64 0)),(4, .d (dN .i64 0)),(5, .own 13002 ((a::r).length+1) 3 77),(6, .d (dN .i64 ((i+q:Nat))))],[(13002,some ((co (a::r)).take ((a::r).length*3)++iB (3,(s.take (i+q)).drop i,i)))]⟩) (weak ⟨rfl,rfl,rfl,rfl,rfl,rfl,trivial⟩ ⟨rfl,trivial⟩ rfl) ((ax (q:=5) (j:=13002) (j':=13001) (m:=(a::r).length+1) (k:=3) (e:=77) (cs:=(co (a::r)).take ((a::r).length*3)++iB (3,(s.take (i+q)).drop i,i)) rfl rfl rfl rfl).trans (weak ⟨rfl,rfl,rfl,rfl,rfl,rfl,trivial⟩ ⟨rfl,trivial⟩ rfl)))⟩
    |sy hw hm hq hs=>
     subst hw hm hq;refine kJ ((0:Nat)) ?_;refine kE ?_;refine kG ?_
     refine kO2 ?_
     refine kX ?_;refine kC (cm) ?_;refine kG ?_
     refine kO2 ?_
     refine kX ?_;refine kC (cq) ?_;refine kG ?_
     refine kO2 ?_
     refine kT ?_
     refine kO3 ?_
     refine ap ab (i:=i) (c:=c) hx rfl rfl rfl rfl rfl rfl rfl rfl ?_;rw[hs]at cs;refine kC (cs) ?_;rw[if_neg (by omega),if_neg (by omega)]at h3;refine kG ?_;refine kO ?_;refine kJ ((i+1:Nat)) ?_;refine kG ?_
     refine kO2 ?_
     refine kE ?_;refine kG ?_
     refine kO2 ?_
     refine kE ?_;refine kG ?_
     refine kO5 ?_
     refine iP ab (l:=s) (i:=i) (j:=i+1) (by omega) (by omega) rfl rfl rfl rfl rfl rfl rfl rfl rfl ?_
     refine kO3 ?_
     refine bI 13002 (m1:=(a::r).length) (m2:=1) ab (by decide) (by show((a::r).length+1)*32≤_;omega) rfl rfl rfl rfl rfl rfl rfl rfl rfl rfl rfl (.own rfl rfl) rfl rfl rfl ?_;refine kW ?_
     exact⟨(i+1,(a::r)++[(4,(s.take (i+1)).drop i,i)]),⟨by dsimp only;omega,by rw[List.length_append];dsimp only[List.length_cons,List.length_nil]at h2 ⊢;omega,f,by dsimp only;omega,h3⟩,by dsimp only;omega,by
      exact Eq.mpr (congrArg (aV _) (fi s (a::r) (4,(s.take (i+1)).drop i,i) (i+1))) (aV.trans (b:=⟨[(0, .d (dL s)),(2, .nil),(3, .d (dN .i64 0)),(4, .d (dN .i64 0)),(5, .own 13002 ((a::r).length+1) 3 77),(6, .d (dN .i64 ((i+1:Nat))))],[(13002,some ((co (a::r)).take ((a::r).length*3)++iB (4,(s.take (i+1)).drop i,i)))]⟩) (weak ⟨rfl,rfl,rfl,rfl,rfl,rfl,trivial⟩ ⟨rfl,trivial⟩ rfl) ((ax (q:=5) (j:=13002) (j':=13001) (m:=(a::r).length+1) (k:=3) (e:=77) (cs:=(co (a::r)).take ((a::r).length*3)++iB (4,(s.take (i+1)).drop i,i)) rfl rfl rfl rfl).trans (weak ⟨rfl,rfl,rfl,rfl,rfl,rfl,trivial⟩ ⟨rfl,trivial⟩ rfl)))⟩
    |nl hw hm hq hs hc=>
     subst hw hm hq;refine kJ ((0:Nat)) ?_;refine kE ?_;refine kG ?_
     refine kO2 ?_
     refine kX ?_;refine kC (cm) ?_;refine kG ?_
     refine kO2 ?_
     refine kX ?_;refine kC (cq) ?_;refine kG ?_
     refine kO2 ?_
     refine kT ?_
     refine kO3 ?_
     refine ap ab (i:=i) (c:=c) hx rfl rfl rfl rfl rfl rfl rfl rfl ?_;rw[hs]at cs;refine kC (cs) ?_;refine kG ?_
     refine kO2 ?_
     refine kT ?_
     refine kO3 ?_
     refine ap ab (i:=i) (c:=c) hx rfl rfl rfl rfl rfl rfl rfl rfl ?_;have e10:c.toNat=10:=by rw[hc];rfl
     refine kT ?_;rw[if_neg (by omega),if_neg (by omega)]at h3;refine kG ?_;refine kO ?_;refine kJ ((i+1:Nat)) ?_;refine kG ?_
     refine kO2 ?_
     refine kE ?_;refine kG ?_
     refine kO5 ?_
     refine iP ab (l:=s) (i:=i) (j:=i+1) (by omega) (by omega) rfl rfl rfl rfl rfl rfl rfl rfl rfl ?_
     refine kO3 ?_
     refine bI 13002 (m1:=(a::r).length) (m2:=1) ab (by decide) (by show((a::r).length+1)*32≤_;omega) rfl rfl rfl rfl rfl rfl rfl rfl rfl rfl rfl (.own rfl rfl) rfl rfl rfl ?_;refine kW ?_
     exact⟨(i+1,(a::r)++[(5,(s.take (i+1)).drop i,i)]),⟨by dsimp only;omega,by rw[List.length_append];dsimp only[List.length_cons,List.length_nil]at h2 ⊢;omega,f,by dsimp only;omega,h3⟩,by dsimp only;omega,by
      exact Eq.mpr (congrArg (aV _) (fi s (a::r) (5,(s.take (i+1)).drop i,i) (i+1))) (aV.trans (b:=⟨[(0, .d (dL s)),(2, .nil),(3, .d (dN .i64 0)),(4, .d (dN .i64 0)),(5, .own 13002 ((a::r).length+1) 3 77),(6, .d (dN .i64 ((i+1:Nat))))],[(13002,some ((co (a::r)).take ((a::r).length*3)++iB (5,(s.take (i+1)).drop i,i)))]⟩) (weak ⟨rfl,rfl,rfl,rfl,rfl,rfl,trivial⟩ ⟨rfl,trivial⟩ rfl) ((ax (q:=5) (j:=13002) (j':=13001) (m:=(a::r).length+1) (k:=3) (e:=77) (cs:=(co (a::r)).take ((a::r).length*3)++iB (5,(s.take (i+1)).drop i,i)) rfl rfl rfl rfl).trans (weak ⟨rfl,rfl,rfl,rfl,rfl,rfl,trivial⟩ ⟨rfl,trivial⟩ rfl)))⟩
    |no hw hm hq hs hc=>
     subst hw hm hq;refine kJ ((0:Nat)) ?_;refine kE ?_;refine kG ?_
     refine kO2 ?_
     refine kX ?_;refine kC (cm) ?_;refine kG ?_
     refine kO2 ?_
     refine kX ?_;refine kC (cq) ?_;refine kG ?_
     refine kO2 ?_
     refine kT ?_
     refine kO3 ?_
     refine ap ab (i:=i) (c:=c) hx rfl rfl rfl rfl rfl rfl rfl rfl ?_;rw[hs]at cs;refine kC (cs) ?_;refine kG ?_
     refine kO2 ?_
     refine kT ?_
     refine kO3 ?_
     refine ap ab (i:=i) (c:=c) hx rfl rfl rfl rfl rfl rfl rfl rfl ?_;have e10:¬c.toNat=10:=dU hc;refine kE ?_;rw[if_pos rfl]at h3;refine kG ?_
     refine kO2 ?_
     refine kT ?_;rw[← h3];exact kF
 ·refine kE ?_
  obtain rfl:i=s.length:=by omega
  rw[List.drop_eq_nil_of_le (Nat.le_refl _),dl]at h3;refine kN ?_;refine av (T:=TT) ?_;refine bK (T:=TT) rfl ?_;refine cV ?_;refine kI ?_
  refine kO2 ?_
  refine fo (v':= .int .i64 ((s.length:Nat))) rfl rfl rfl rfl ?_ ?_
  ·exact congrArg (Value.int .i64) (by rw[hB])
  refine kO2 ?_
  cases acc with
  |nil=>
   refine bI 15002 (m1:=0) (m2:=1) ab (by decide) (by decide) rfl rfl rfl rfl rfl rfl rfl rfl rfl rfl rfl (.nil rfl rfl) rfl rfl rfl ?_;refine vn ab rfl rfl rfl rfl (cG (q:=2) rfl rfl) ?_;rw[← h3];exact kF
  |cons a r=>
   refine bI 15002 (m1:=(a::r).length) (m2:=1) ab (by decide) (by show((a::r).length+1)*32≤_;omega) rfl rfl rfl rfl rfl rfl rfl rfl rfl rfl rfl (.own rfl rfl) rfl rfl rfl ?_
   have hV:jO R= .tup [.leaf (.sl ((a::r).length+1) ((co (a::r)).take ((a::r).length*3)++iB (0,[],s.length))),dN .i64 0,dN .i64 0]:=by
    rw[← h3,jO,ls,qP,List.length_append];rfl
   refine vn ab rfl rfl rfl rfl (cG (q:=2) rfl rfl) ?_;rw[hV];exact kF
section
variable {P:Program} {T:TypeId→Option Ty} {n:Nat} {ops:Array Oper} {id:Nat} {draw:Bool} {K:AS→Prop} {s:AS} {k:Nat} {o:Oper} {os:List Oper} {fps:List FP}
theorem qJ:∀(b c:BL),(∀x∈c,x∈b)→eI b c=[]
 |_,[],_=>rfl
 |b,(j,cs)::r,h=>by
  rw[eI]
  have hj:(ak (aF b) j).isSome:=by
   have hm:=h (j,cs) (by simp);clear h
   induction b with
   |nil=>cases hm
   |cons y l ih=>
    obtain⟨i,ci⟩:=y
    by_cases e:i=j
    ·subst e;rw[aF,am];rfl
    ·rw[aF,aD _ _ e]
     rcases List.mem_cons.1 hm with h|h
     ·cases h;exact absurd rfl e
     ·exact ih h
  cases hl:ak (aF b) j with
  |none=>rw[hl]at hj;cases hj
  |some x=>exact qJ b r (fun x hx=>h x (List.mem_cons_of_mem _ hx))
theorem xk {s:AS}:∀{b:BL},rR s (aF b)→ ∀j,ak (aF b++s.b) j=ak s.b j
 | [],_,_=>rfl
 |(i,cs)::r,h,j=>by
  have h1:s.bx i=some cs:=h.1;have h2:rR s (aF r):=h.2
  by_cases e:i=j
  ·subst e
   rw[aF,List.cons_append,am];unfold AS.bx at h1
   split at h1
   ·rename_i x hx;cases h1;exact hx.symm
   ·cases h1
  ·rw[aF,List.cons_append,aD _ _ e];exact xk h2 j
theorem Ep {f:Operand} {fid:FuncId} {args:Array Operand} {tys:Array TypeId} {ts:List TV} {b:BL} {r:RT} (hc:az P fid ts b r b) (h1:gd ops s o=some true) (ho:o.op= .call ⟨.value f,args,tys⟩) (hcl:t8 s f args.toList=some (fid,ts)) (hone:rH s f=true)
 (hk:(Cv (aF b) (ts.flatMap fh) && tM (aF b) (aF b))=true) (hb:rR s (aF b)) (hcn:eB [] s.b=true) (hnew:nB s b b=true) (h3:bd n o.dst=true) (h4:gN draw ops (aM ops o ⟨r.tv,none⟩ (b.map (·.1))) k fps=true)
 (h:aw P T n ops id draw K (k+1) os (s.eff o.dst ⟨r.tv,none⟩) (aM ops o ⟨r.tv,none⟩ (b.map (·.1))::fps)):aw P T n ops id draw K k (o::os) s fps:=by
 refine .run h1 (.genC (lC hcn) fun s2 hc2 ht hrb=>?_) h3 h4 h;have hf:s2.ev f=s.ev f:=aL ht (by rw[ho];simp[Op.operands,Call.operands]);have hcl2:=rd (s':=s2) (s:=s) (f:=f) (args:=args.toList) hf (fun x hx=>aL ht (by rw[ho];simp[Op.operands,Call.operands];exact .inr (by simpa using hx)));have hone2:rH s2 f=true:=by unfold rH at hone ⊢;rw[hf];exact hone
 have hb2:=nL hrb hb;have:=oU hc ho (hcl2.trans hcl) hone2 hk hb2 (fun j cs hj _=>hc2 j cs hj) ((lX hrb).trans hnew);intro n S0 w0 g a w K Q hM hd hK;refine this n S0 w0 g a w K Q hM hd fun g' a' w' hM'=>hK g' a' w' (hM'.ext (fun k=>?_) (fun j=>?_))
 ·cases o.dst<;>rfl
 ·rw[qJ b b (fun _ h=>h),List.append_nil]
  exact(xk hb2 j).symm
end
def ge (ts:List Tk) (b a e:Int):List AV:=[.sl ts.length (co ts), .val (.int .i64 b), .val (.int .i64 a), .val (.int .i64 e)]
theorem b7 {ts ts':List Tk} {a e a' e' b b':Int}:fk [(900,ge ts b a e)] [(900,ge ts' b' a' e')]:=fk.one (Nat.le_refl 4)
theorem bE (t:Tk) (r:List Tk) (b a e:Int):az Tryz.prog 43 [.box 900 0] [(900,ge (t::r) b a e)] (.v (.one (.agg (iB t)))) [(900,ge (t::r) b a e)]:=by
 refine ai ab bn func43 rfl rfl rfl rfl rfl (b7) ?_;refine kR ?_;refine kI ?_
 refine kO4 ?_
 refine bl (i:=0) (cs':=iB t) (Nat.zero_lt_succ _) (fun j a h=>by
  rw[Nat.zero_mul,Nat.zero_add];show(iB t++co r)[j]? =some a;rw[List.getElem?_append_left (List.getElem?_eq_some_iff.1 h).1];exact h) (Nat.zero_lt_succ 2) rfl rfl rfl rfl rfl rfl rfl rfl ?_
 refine kW ?_;exact⟨⟨_,rfl,rfl⟩,⟨rfl,trivial⟩⟩
theorem nf (ts:List Tk) (b a p c:Int):az Tryz.prog 78 [.box 900 0, .d (dN .i64 p), .d (dN .i64 c)] [(900,ge ts b a 0)] (.v (.tup [])) [(900,ge ts b p c)]:=by
 refine ai ab bn func78 rfl rfl rfl rfl rfl (b7) ?_;refine kW ?_;exact⟨⟨_,rfl,rfl⟩,⟨rfl,trivial⟩⟩
theorem DO (ts:List Tk) (b a e p c:Int) (he:e≠0):az Tryz.prog 78 [.box 900 0, .d (dN .i64 p), .d (dN .i64 c)] [(900,ge ts b a e)] (.v (.tup [])) [(900,ge ts b a e)]:=by
 refine ai ab bn func78 rfl rfl rfl rfl rfl (b7) ?_;refine kI ?_
 refine kO4 ?_
 refine kB false ?_ ?_
 ·exact decide_eq_false he
 refine kW ?_;exact⟨⟨_,rfl,rfl⟩,⟨rfl,trivial⟩⟩
def oN (E:Nat) (b:Int) (p:Nat) (c:Int):Int:=if p=E∧b≠0 then b else c
def dz (E:Nat) (ts:List Tk):Prop:=∀t∈ts,(t.1=0→t.2.2=E)∧(t.1≠0→t.2.2<E)
theorem dz.tail {E:Nat} {t:Tk} {r:List Tk} (h:dz E (t::r)):dz E r:=fun u hu=>h u (List.mem_cons_of_mem _ hu)
theorem yu {E:Nat} {b:Int} {t:Tk} {r:List Tk} {c:Int} (h:dz E (t::r)) (ht:t.1≠0):oN E b t.2.2 c=c:=by
 have:=(h t (by simp)).2 ht;exact if_neg (fun e=>by omega)
theorem Aw {E:Nat} {b:Int} {t:Tk} {r:List Tk} {c:Int} (h:dz E (t::r)) (ht:t.1=0) (hb:b≠0):oN E b t.2.2 c=b:=by
 have:=(h t (by simp)).1 ht;exact if_pos ⟨by omega,hb⟩
theorem wK {E:Nat} {p:Nat} {c:Int}:oN E 0 p c=c:=if_neg (fun e=>e.2 rfl)
theorem oj {E:Nat} {b:Int} {p:Nat} {c:Int} (hc:c≠0):oN E b p c≠0:=by
 unfold oN
 split
 ·rename_i h;exact h.2
 ·exact hc
theorem mO {E:Nat} (t:Tk) (r:List Tk) (b a:Int) (hz:dz E (t::r)):az Tryz.prog 45 [.box 900 0] [(900,ge (t::r) b a 0)] (.v (.tup [])) [(900,ge (t::r) b t.2.2 (oN E b t.2.2 2))]:=by
 by_cases h0:t.1=0
 ·by_cases hb:b=0
  ·subst hb
   rw[wK];refine ai ab bn func45 rfl rfl rfl rfl rfl (b7) ?_;refine kW ?_;refine kD (bE t r 0 a 0) ?_;refine kO ?_;refine kT ?_
   refine kO5 ?_
   refine kB false ?_ ?_
   ·exact(by simp)
   refine kW ?_;refine bM (show fU _ _ _ _ _ _ from ?_);refine kW ?_;refine kZ (bE t r 0 a 0) ?_;refine kZ (nf (t::r) 0 a t.2.2 2) ?_;exact⟨⟨_,rfl,rfl⟩,⟨rfl,trivial⟩⟩
  ·rw[Aw hz h0 hb]
   refine ai ab bn func45 rfl rfl rfl rfl rfl (b7) ?_;refine kW ?_;refine kD (bE t r b a 0) ?_;refine kO ?_;refine kT ?_
   refine kO5 ?_
   refine kB true ?_ ?_
   ·exact(by simp[hb])
   refine kW ?_;refine Ep (bE t r b a 0) rfl rfl rfl rfl rfl ⟨rfl,trivial⟩ rfl rfl rfl rfl ?_;refine kW ?_;refine kZ (nf (t::r) b a t.2.2 b) ?_;show fU _ _ _ _ _ _;refine kW ?_;refine kZ (bE t r b t.2.2 b) ?_;refine kZ (DO (t::r) b t.2.2 b t.2.2 2 hb) ?_;exact⟨⟨_,rfl,rfl⟩,⟨rfl,trivial⟩⟩
 ·rw[yu hz h0]
  refine ai ab bn func45 rfl rfl rfl rfl rfl (b7) ?_;refine kW ?_;refine kD (bE t r b a 0) ?_;refine kO ?_;refine kY ?_;refine bM (show fU _ _ _ _ _ _ from ?_);refine kW ?_;refine kZ (bE t r b a 0) ?_;refine kZ (nf (t::r) b a t.2.2 2) ?_;exact⟨⟨_,rfl,rfl⟩,⟨rfl,trivial⟩⟩
theorem dj (c:UInt8) (p:Nat) (r:List Tk) (b a:Int):az Tryz.prog 77 [.box 900 0, .d (dL [c])] [(900,ge ((4,[c],p)::r) b a 0)] (.v (.one (dB true))) [(900,ge r b a 0)]:=by
 refine ai ab bn func77 rfl rfl rfl rfl rfl (b7) ?_;refine kW ?_;refine kZ (bE (4,[c],p) r b a 0) ?_;refine kD (bE (4,[c],p) r b a 0) ?_
 refine kO2 ?_
 refine aP rfl rfl rfl rfl rfl rfl rfl (fq (a:=[c]) rfl) ?_;refine kG ?_
 refine kO5 ?_
 refine tc (m:=((4,[c],p)::r).length) (i:=1) (q:=3) ab (by rw[ig];exact Nat.le_refl _) (by simp) rfl rfl rfl rfl rfl rfl rfl rfl ?_;refine kW ?_;exact⟨⟨_,rfl,rfl⟩,⟨rfl,trivial⟩⟩
theorem gw (c:UInt8) (t:Tk) (r:List Tk) (b a e:Int) (he:e≠0):az Tryz.prog 77 [.box 900 0, .d (dL [c])] [(900,ge (t::r) b a e)] (.v (.one (dB false))) [(900,ge (t::r) b a e)]:=by
 refine ai ab bn func77 rfl rfl rfl rfl rfl (b7) ?_;refine kR ?_;refine kI ?_
 refine kO4 ?_
 refine kB true ?_ ?_
 ·exact(by simp[he])
 refine kW ?_;exact⟨⟨_,rfl,rfl⟩,⟨rfl,trivial⟩⟩
theorem eQ (c:UInt8) (t:Tk) (r:List Tk) (b a:Int) (hs:bh c (t::r)=none):az Tryz.prog 77 [.box 900 0, .d (dL [c])] [(900,ge (t::r) b a 0)] (.v (.one (dB false))) [(900,ge (t::r) b a 0)]:=by
 obtain⟨k,x,p⟩:=t
 have hs:¬(k=4∧x=[c]):=by
  intro h
  simp[bh,h]at hs
 refine ai ab bn func77 rfl rfl rfl rfl rfl (b7) ?_;refine kW ?_;refine kD (bE (k,x,p) r b a 0) ?_;refine kO ?_
 by_cases h4:k=4
 ·refine kB false ?_ ?_
  ·exact(by simp[h4])
  refine kO2 ?_
  refine kO ?_;refine kD (bE (k,x,p) r b a 0) ?_
  refine kO2 ?_
  refine aP rfl rfl rfl rfl rfl rfl rfl (fj (a:=x) (b:=[c]) (fun e=>hs ⟨h4,e⟩)) ?_;refine kW ?_;exact⟨⟨_,rfl,rfl⟩,⟨rfl,trivial⟩⟩
 ·refine kB true ?_ ?_
  ·exact(by simp;omega)
  refine kW ?_;exact⟨⟨_,rfl,rfl⟩,⟨rfl,trivial⟩⟩
def Rf (fid:FuncId) (xs:List TV) (E:Nat) (ts:List Tk) (b a:Int):gR→Prop
 | .ok (e,r)=>az Tryz.prog fid (.box 900 0::xs) [(900,ge ts b a 0)] (.v (.one (dE e))) [(900,ge r b a 0)]∧cR r∧dz E r
 | .error (p,c)=>c≠0∧ ∃y ts',az Tryz.prog fid (.box 900 0::xs) [(900,ge ts b a 0)] (.v (.one (dR y))) [(900,ge ts' b p (oN E b p c))]∧cR ts'∧dz E ts'
def Kp (t:Tk) (ts:List Tk) (b a:Int):gR→Prop
 | .ok (e,r)=>az Tryz.prog 153 [.box 900 0, .d (.agg (iB t))] [(900,ge ts b a 0)] (.v (.one (dE e))) [(900,ge r b a 0)]∧cR r∧(r=ts∨r=ts.tail)
 | .error (p,c)=>c≠0∧p=t.2.2∧az Tryz.prog 153 [.box 900 0, .d (.agg (iB t))] [(900,ge ts b a 0)] (.v (.one (dR z7))) [(900,ge ts b p c)]
theorem Cm (t u:Tk) (r:List Tk) (b a:Int) (ht5:t.2.1.length≤500) (hw:cR (u::r)):Kp t (u::r) b a (el t (u::r)):=by
 have cp:=vM t.2.1;unfold IV at cp;cases hq:bJ t.2.1 with
 |none=>
  have hP:el t (u::r)= .error (t.2.2,2):=by unfold el;rw[hq]
  rw[hP];rw[hq]at cp;dsimp only at cp;refine⟨by decide,rfl,?_⟩;refine ai ab bn func153 rfl rfl rfl rfl rfl (b7) ?_;refine kR ?_;refine kI ?_
  refine kO2 ?_
  refine kQ (cp) ?_;refine kZ (nf (u::r) b a t.2.2 2) ?_;exact⟨⟨_,rfl,rfl⟩,⟨rfl,trivial⟩⟩
 |some q=>
  rw[hq]at cp;dsimp only at cp;obtain⟨tx,cd,_⟩:=wj (it ht5 hq) (by decide);cases hd:fx q with
  |none=>
   have hP:el t (u::r)= .error (t.2.2,3):=by unfold el;rw[hq];dsimp only;rw[hd]
   rw[hd]at cd;have cd:aa Tryz.prog 35 [dQ q] (.tup [dL tx,dB false]):=cd;rw[hP];refine⟨by decide,rfl,?_⟩;refine ai ab bn func153 rfl rfl rfl rfl rfl (b7) ?_;refine kR ?_;refine kI ?_
   refine kO2 ?_
   refine kQ (cp) ?_;refine kQ (cd) ?_;refine kZ (nf (u::r) b a t.2.2 3) ?_;exact⟨⟨_,rfl,rfl⟩,⟨rfl,trivial⟩⟩
  |some z=>
   rw[hd]at cd;have cd:aa Tryz.prog 35 [dQ q] (.tup [dL tx,dB true]):=cd
   by_cases h1:u.1=1
   ·have hP:el t (u::r)= .ok (.num q u.2.1,r):=by unfold el;rw[hq];dsimp only;rw[hd];dsimp only;rw[if_pos h1]
    rw[hP];refine⟨?_,hw.tail (by omega), .inr rfl⟩;refine ai ab bn func153 rfl rfl rfl rfl rfl (b7) ?_;refine kR ?_;refine kI ?_
    refine kO2 ?_
    refine kQ (cp) ?_;refine kQ (cd) ?_;refine kD (bE u r b a 0) ?_;refine kO ?_;refine kX ?_;refine kZ (bE u r b a 0) ?_;refine tc (m:=(u::r).length) (i:=1) (q:=3) ab (by rw[ig];exact Nat.le_refl _) (by simp) rfl rfl rfl rfl rfl rfl rfl rfl ?_;refine kW ?_;exact⟨⟨_,rfl,rfl⟩,⟨rfl,trivial⟩⟩
   ·have hP:el t (u::r)= .ok (.num q [],u::r):=by unfold el;rw[hq];dsimp only;rw[hd];dsimp only;rw[if_neg h1]
    rw[hP];refine⟨?_,hw, .inl rfl⟩;refine ai ab bn func153 rfl rfl rfl rfl rfl (b7) ?_;refine kR ?_;refine kI ?_
    refine kO2 ?_
    refine kQ (cp) ?_;refine kQ (cd) ?_;refine kD (bE u r b a 0) ?_;refine kO ?_;refine kY ?_;exact⟨⟨_,rfl,rfl⟩,⟨rfl,trivial⟩⟩
theorem IW {E f:Nat} {b a:Int} (ih:∀ts x,cR ts→dz E ts→pP f .un ts=some x→Rf 76 [] E ts b a x) (ih2:∀ts x,cR ts→dz E ts→pP f .prim ts=some x→Rf 115 [] E ts b a x) (ts:List Tk) (x:gR) (hT:cR ts) (hz:dz E ts) (hx:pP (f+1) .un ts=some x):Rf 76 [] E ts b a x:=by
 obtain⟨t,r,rfl⟩:=hT.ne;rw[gA]at hx;cases hs:bh 45 (t::r)with
 |some r2=>
  have hs':=hs;obtain⟨rfl,h4⟩:=jN hs;have hw2:cR r2:=hT.tail (by omega);obtain⟨k,tx,p0⟩:=t
  obtain⟨rfl,rfl⟩:k=4∧tx=[45]:=by
   simp only[bh]at hs'
   split at hs'
   ·assumption
   ·cases hs'
  rw[hs]at hx;dsimp only at hx;cases hy:pP f .un r2 with
  |none=>rw[hy]at hx;cases hx
  |some y=>
   have cy:=ih r2 y hw2 hz.tail hy;rw[hy]at hx;cases y with
   |ok z=>
    obtain⟨e,r3⟩:=z;cases hx;obtain⟨cy,hw3⟩:=cy;refine⟨?_,hw3⟩;obtain⟨o1,na1,xs1,nb1,ys1,nm1,n1,cs1,hA⟩:=aX e;rw[show dE (.neg e)= .agg ([.val (.int .i64 3)]++nz++[.val (vL []), .sl 1 (aE e)]) from congrArg DV.agg (nZ e),hA];rw[show dE e= .agg (ac o1 na1 xs1 nb1 ys1 nm1 n1 cs1) from congrArg DV.agg hA]at cy;refine ai ab bn func76 rfl rfl rfl rfl rfl (b7) ?_;refine kW ?_;refine kZ (dj 45 p0 r2 b a) ?_;refine kZ (cy) ?_;exact⟨⟨_,rfl,rfl⟩,⟨rfl,trivial⟩⟩
   |error z=>
    cases hx;obtain⟨p,c⟩:=z;obtain⟨hc,y,ts',cy,hw3⟩:=cy;refine⟨hc, .mk 3 false [] false [] [] [y],ts',?_,hw3⟩;obtain⟨o1,na1,xs1,nb1,ys1,nm1,n1,cs1,hA⟩:=au y;rw[show dR (.mk 3 false [] false [] [] [y])= .agg ([.val (.int .i64 3)]++nz++[.val (vL []), .sl 1 (aR y)]) from congrArg DV.agg (tG y),hA];rw[show dR y= .agg (ac o1 na1 xs1 nb1 ys1 nm1 n1 cs1) from congrArg DV.agg hA]at cy;refine ai ab bn func76 rfl rfl rfl rfl rfl (b7) ?_;refine kW ?_;refine kZ (dj 45 p0 r2 b a) ?_;refine kZ (cy) ?_;exact⟨⟨_,rfl,rfl⟩,⟨rfl,trivial⟩⟩
 |none=>
  rw[hs]at hx;have cy:=ih2 (t::r) x hT hz hx;have cis:=eQ 45 t r b a hs;cases x with
  |ok z=>
   obtain⟨e,r3⟩:=z;obtain⟨cy,hw3⟩:=cy;refine⟨?_,hw3⟩;obtain⟨o1,na1,xs1,nb1,ys1,nm1,n1,cs1,hA⟩:=aX e;rw[show dE e= .agg (ac o1 na1 xs1 nb1 ys1 nm1 n1 cs1) from congrArg DV.agg hA]at cy ⊢;refine ai ab bn func76 rfl rfl rfl rfl rfl (b7) ?_;refine kW ?_;refine kZ (cis) ?_;refine kZ (cy) ?_;exact⟨⟨_,rfl,rfl⟩,⟨rfl,trivial⟩⟩
  |error z=>
   obtain⟨p,c⟩:=z;obtain⟨hc,y,ts',cy,hw3⟩:=cy;refine⟨hc,y,ts',?_,hw3⟩;obtain⟨o1,na1,xs1,nb1,ys1,nm1,n1,cs1,hA⟩:=au y;rw[show dR y= .agg (ac o1 na1 xs1 nb1 ys1 nm1 n1 cs1) from congrArg DV.agg hA]at cy ⊢;refine ai ab bn func76 rfl rfl rfl rfl rfl (b7) ?_;refine kW ?_;refine kZ (cis) ?_;refine kZ (cy) ?_;exact⟨⟨_,rfl,rfl⟩,⟨rfl,trivial⟩⟩
theorem Fi {E f:Nat} {b a:Int} (ih:∀ts x,cR ts→dz E ts→pP f .sum ts=some x→Rf 44 [.d (dN .i64 1)] E ts b a x) (ts:List Tk) (x:gR) (hT:cR ts) (hz:dz E ts) (hx:pP (f+1) .prim ts=some x):Rf 115 [] E ts b a x:=by
 obtain⟨t,r,rfl⟩:=hT.ne;rw[dG]at hx;cases hs:bh 40 (t::r)with
 |some r2=>
  have hs':=hs;obtain⟨rfl,h4⟩:=jN hs;have hw2:cR r2:=hT.tail (by omega);obtain⟨k,tx,p0⟩:=t
  obtain⟨rfl,rfl⟩:k=4∧tx=[40]:=by
   simp only[bh]at hs'
   split at hs'
   ·assumption
   ·cases hs'
  rw[hs]at hx;dsimp only at hx;cases hy:pP f .sum r2 with
  |none=>rw[hy]at hx;cases hx
  |some y=>
   have cy:=ih r2 y hw2 hz.tail hy;rw[hy]at hx;cases y with
   |error z=>
    cases hx;obtain⟨p,c⟩:=z;obtain⟨hc,y,ts',cy,hw3⟩:=cy;refine⟨hc,y,ts',?_,hw3⟩;have hc2:oN E b p c≠0:=oj hc;generalize oN E b p c=c2 at *;obtain⟨o1,na1,xs1,nb1,ys1,nm1,n1,cs1,hA⟩:=au y;rw[show dR y= .agg (ac o1 na1 xs1 nb1 ys1 nm1 n1 cs1) from congrArg DV.agg hA]at cy ⊢;refine ai ab bn func115 rfl rfl rfl rfl rfl (b7) ?_;refine kW ?_;refine kZ (dj 40 p0 r2 b a) ?_;refine kD (cy) ?_;refine kG ?_
    refine kO4 ?_
    refine kB false ?_ ?_
    ·exact decide_eq_false hc2
    refine kW ?_;exact⟨⟨_,rfl,rfl⟩,⟨rfl,trivial⟩⟩
   |ok z=>
    obtain⟨e,r3⟩:=z;obtain⟨cy,hw3,hz3⟩:=cy;obtain⟨u,r4,rfl⟩:=hw3.ne;obtain⟨o1,na1,xs1,nb1,ys1,nm1,n1,cs1,hA⟩:=aX e;rw[show dE e= .agg (ac o1 na1 xs1 nb1 ys1 nm1 n1 cs1) from congrArg DV.agg hA]at cy;dsimp only at hx;cases hs2:bh 41 (u::r4)with
    |some r5=>
     have hs2':=hs2;obtain⟨rfl,h4'⟩:=jN hs2;obtain⟨k,tx,p1⟩:=u
     obtain⟨rfl,rfl⟩:k=4∧tx=[41]:=by
      simp only[bh]at hs2'
      split at hs2'
      ·assumption
      ·cases hs2'
     rw[hs2]at hx;cases hx;refine⟨?_,hw3.tail (by omega),hz3.tail⟩;rw[show dE e= .agg (ac o1 na1 xs1 nb1 ys1 nm1 n1 cs1) from congrArg DV.agg hA];refine ai ab bn func115 rfl rfl rfl rfl rfl (b7) ?_;refine kW ?_;refine kZ (dj 40 p0 r2 b a) ?_;refine kZ (cy) ?_;refine kZ (dj 41 p1 r5 b a) ?_;exact⟨⟨_,rfl,rfl⟩,⟨rfl,trivial⟩⟩
    |none=>
     rw[hs2]at hx;cases hx;refine⟨by decide,rx e,u::r4,?_,hw3,hz3⟩;have hrx:dR (rx e)= .agg (ac o1 na1 xs1 nb1 ys1 nm1 n1 cs1):=congrArg DV.agg hA;rw[hrx];refine ai ab bn func115 rfl rfl rfl rfl rfl (b7) ?_;refine kW ?_;refine kZ (dj 40 p0 r2 b a) ?_;refine kZ (cy) ?_;refine kZ (eQ 41 u r4 b a hs2) ?_;refine kZ (mO u r4 b a hz3) ?_;exact⟨⟨_,rfl,rfl⟩,⟨rfl,trivial⟩⟩
 |none=>
  rw[hs]at hx;dsimp only at hx;have cis:=eQ 40 t r b a hs
  by_cases h2:t.1=2
  ·rw[if_pos h2]at hx
   cases hx;have hT2:=hT.tail (by omega);obtain⟨u,r4,rfl⟩:=hT2.ne;have cn:=Cm t u r4 b a (hT.head.2 h2) hT2;cases hP:el t (u::r4)with
   |ok z=>
    obtain⟨e,r3⟩:=z;rw[hP]at cn;obtain⟨cy,hw3,ho⟩:=cn;refine⟨?_,hw3,?_⟩
    ·obtain⟨o1,na1,xs1,nb1,ys1,nm1,n1,cs1,hA⟩:=aX e
     rw[show dE e= .agg (ac o1 na1 xs1 nb1 ys1 nm1 n1 cs1) from congrArg DV.agg hA]at cy ⊢;refine ai ab bn func115 rfl rfl rfl rfl rfl (b7) ?_;refine kW ?_;refine kZ (cis) ?_;refine kD (bE t (u::r4) b a 0) ?_
     iterate 2 refine kG ?_
     refine kO2 ?_
     refine kE ?_;refine kG ?_
     refine kO2 ?_
     refine kX ?_;refine tc (m:=(t::u::r4).length) (i:=1) (q:=3) ab (by rw[ig];exact Nat.le_refl _) (by simp) rfl rfl rfl rfl rfl rfl rfl rfl ?_;refine kW ?_;refine kZ (cy) ?_;exact⟨⟨_,rfl,rfl⟩,⟨rfl,trivial⟩⟩
    ·rcases ho with rfl|rfl
     ·exact hz.tail
     ·exact hz.tail.tail
   |error z=>
    obtain⟨p,c⟩:=z;rw[hP]at cn;obtain⟨hc,rfl,cy⟩:=cn;refine⟨hc,z7,u::r4,?_,hT2,hz.tail⟩;rw[yu hz (by omega)];refine ai ab bn func115 rfl rfl rfl rfl rfl (b7) ?_;refine kW ?_;refine kZ (cis) ?_;refine kD (bE t (u::r4) b a 0) ?_
    iterate 2 refine kG ?_
    refine kO2 ?_
    refine kE ?_;refine kG ?_
    refine kO2 ?_
    refine kX ?_;refine tc (m:=(t::u::r4).length) (i:=1) (q:=3) ab (by rw[ig];exact Nat.le_refl _) (by simp) rfl rfl rfl rfl rfl rfl rfl rfl ?_;refine kW ?_;refine kZ (cy) ?_;exact⟨⟨_,rfl,rfl⟩,⟨rfl,trivial⟩⟩
  ·rw[if_neg h2]at hx
   by_cases h1:t.1=1
   ·rw[if_pos h1]at hx
    cases hx;refine⟨?_,hT.tail (by omega),hz.tail⟩;refine ai ab bn func115 rfl rfl rfl rfl rfl (b7) ?_;refine kW ?_;refine kZ (cis) ?_;refine kD (bE t r b a 0) ?_
    iterate 2 refine kG ?_
    refine kO2 ?_
    refine kX ?_;refine tc (m:=(t::r).length) (i:=1) (q:=3) ab (by rw[ig];exact Nat.le_refl _) (by simp) rfl rfl rfl rfl rfl rfl rfl rfl ?_;refine kW ?_;exact⟨⟨_,rfl,rfl⟩,⟨rfl,trivial⟩⟩
   ·rw[if_neg h1]at hx
    cases hx;refine⟨by decide,z7,t::r,?_,hT,hz⟩;refine ai ab bn func115 rfl rfl rfl rfl rfl (b7) ?_;refine kW ?_;refine kZ (cis) ?_;refine kD (bE t r b a 0) ?_
    iterate 2 refine kG ?_
    refine kO2 ?_
    refine kE ?_;refine kG ?_
    refine kO2 ?_
    refine kY ?_;refine kZ (mO t r b a hz) ?_;exact⟨⟨_,rfl,rfl⟩,⟨rfl,trivial⟩⟩
end Go.Proofs.YtikbnnljjeefgaaGreatDoor
