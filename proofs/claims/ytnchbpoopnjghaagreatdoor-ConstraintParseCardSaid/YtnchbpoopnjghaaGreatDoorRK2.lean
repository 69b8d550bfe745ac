/- Tactic texts that stand more than once. -/
import Derived.Test.YtnchbpoopnjghaaGreatDoorRK
import Derived.KernelRfl
import Derived.IntWalk
import Derived.Laws.BytesArg
import Derived.Laws.Strings2
import Derived.Shelf.Strconv.AppendUint10
import Derived.Maps.OwnIn
import Derived.RangeFuncCalls
import Derived.Lib.MakeNoZero
import Derived.Lib.Bytealg
import Derived.Laws.IdiomStrings
import Derived.LaidMore
import Derived.Lay
import Derived.Stop.Joined
import Derived.SevenTiedAt
import Derived.Lib.AtoiErrMem
import Derived.Shelf.Vars
import Derived.Lib.AppendStr
import Derived.MapKept
import Derived.Defers
import Derived.ChangeMaps5
import Derived.Lib.Split
import Derived.Lib.Join
import Derived.Lib.IndexLaws
import Derived.Lib.AtoiAll
import Derived.Sort.Walk0
import Derived.Lib.RowBridge
import Derived.HandedShaped
import Derived.LaidLaws
import Derived.Lib.SplitLaws
import Derived.Laws.Runes
set_option maxHeartbeats 100000000
set_option linter.all false
namespace Go.Proofs.YtnchbpoopnjghaaGreatDoor
open Go.RowKit
section
open Go.ChangeShapes Go.WideShapes Go.ChangeAt Go.RowKit Go.Joins
open Go.Shelf Go.RowKit Go.Sort Go.Lib
open Go.Shelf Go.RowKit
open Go.RowKit Go.Shelf
open Go.RowKit Go.Joins
open Go.RowKit Go.Sort Go.Lib
open Go.ChangeMaps (open_string)
def am{p:Prop}(e:p:=by exact kF):p:=e
def fE{p:Prop}(e:p:=by refine kW ?_;exact⟨⟨_,rfl,rfl⟩,⟨rfl,trivial⟩⟩):p:=e
def iY{p q:Prop}(h:q)(e:KH q->p:=by intro hK;refine kR ?_;refine kI ?_;refine kO ?_;exact hK.out):p:=e ⟨h⟩
def Gn{p q:Prop}(h:q)(e:KH q->p:=by intro hK;refine kO2 ?_;refine kE ?_;refine kG ?_;refine kO2 ?_;refine kE ?_;refine kG ?_;exact hK.out):p:=e ⟨h⟩
def Oy{p q:Prop}(h:q)(e:KH q->p:=by intro hK;refine kE ?_;refine kG ?_;refine kO2 ?_;exact hK.out):p:=e ⟨h⟩
def MI{p q:Prop}(h:q)(e:KH q->p:=by intro hK;refine kO2 ?_;refine kE ?_;refine kG ?_;exact hK.out):p:=e ⟨h⟩
def IM{p q:Prop}(h:q)(e:KH q->p:=by intro hK;refine kG ?_;refine kO2 ?_;refine kT ?_;exact hK.out):p:=e ⟨h⟩
def j9{p q:Prop}(h:q)(e:KH q->p:=by intro hK;refine kW ?_;refine co (T:=TT) rfl ?_;exact hK.out):p:=e ⟨h⟩
def Pf{p q:Prop}(h:q)(e:KH q->p:=by intro hK;refine bU ah (i:=i) (c:=c) hx rfl rfl rfl rfl rfl rfl rfl rfl ?_;exact hK.out):p:=e ⟨h⟩
def VL{p:Prop}(e:p:=by
 rintro j ⟨hj,hall⟩;refine kW ?_;refine fH rfl (fun h=>?_) (fun h=>?_)
 ·have hlt:j<xs.length:=by have:=h_ h;omega
  have hlt':j<ys.length:=O_;refine kW ?_;refine aS (cs':=[AV.val (bP xs[j])]) hlt (Qf (by simp[hlt])) (m_ 0) rfl rfl rfl rfl rfl rfl rfl rfl ?_;refine kW ?_;refine aS (cs':=[AV.val (bP ys[j])]) hlt' (Qf (by simp[hlt'])) (m_ 0) rfl rfl rfl rfl rfl rfl rfl rfl ?_;refine kW ?_;refine fH rfl (fun h2=>?_) (fun h2=>?_)
  ·refine kW ?_;have hne:xs[j]≠ys[j]:=fun e=>by rw[e]at h2;simp at h2
   rw[AG (fun e=>hne (by subst e;rfl))];exact co (T:=TT) rfl rfl
  ·have heq:xs[j]=ys[j]:=by simp at h2;omega
   refine kW ?_;refine⟨j+1,⟨hlt,fun i hi=>?_⟩,by omega,weak ⟨rfl,rfl,?_,trivial⟩ ⟨rfl,rfl,trivial⟩ rfl⟩
   ·rcases Nat.lt_succ_iff_lt_or_eq.1 hi with h3|rfl
    ·exact hall i h3
    ·rw[Q_ hlt,Q_ hlt',heq]
   ·exact aq O_ O_
 ·have hge:j=xs.length:=by have:=of_decide_eq_false h;omega
  refine iy ?_;refine kW ?_;have he:xs=ys:=by apply List.ext_getElem? fun i=>?_;exact Pw
  rw[kz he];exact co (T:=TT) rfl rfl):p:=e
def R7{p q:Prop}(h:q)(e:KH q->p:=by intro hK;refine kG ?_;refine kO2 ?_;refine kE ?_;exact hK.out):p:=e ⟨h⟩
def x7{p q:Prop}(h:q)(e:KH q->p:=by intro hK;refine aj rfl rfl rfl rfl rfl rfl rfl (eM (a:=x::t) (b:=[]) S_) ?_;refine kO2 ?_;refine bU ah (l:=x::t) (i:=0) (c:=x) rfl rfl rfl rfl rfl rfl rfl rfl rfl ?_;exact hK.out):p:=e ⟨h⟩
def BT{p q:Prop}(h:q)(e:KH q->p:=by intro hK;refine kO3 ?_;refine m4 13002 (m1:=(a::r).length) (m2:=1) ah D_ (by show((a::r).length+1)*32<=_;omega) rfl rfl rfl rfl rfl rfl rfl rfl rfl rfl rfl (.own rfl rfl) rfl rfl rfl ?_;refine kW ?_;exact hK.out):p:=e ⟨h⟩
def l6{p q:Prop}(h:q)(e:KH q->p:=by
 intro hK;refine kB false ?_ ?_
 ·exact(by simp;omega)
 exact hK.out):p:=e ⟨h⟩
def TA{p:Prop}(e:p:=by
 iterate 6 refine kO ?_
 refine Om ?_;rw[<- htx]at h3;refine NJ ?_;refine kW ?_;exact⟨(i+n,[]++[(k,(s.take (i+n)).drop i,i)]),⟨by dsimp only;omega,by simp;omega,f,by dsimp only;omega,h3⟩,by dsimp only;omega,by exact Eq.mpr (congrArg (au _) (Di s ([]:List Tk) (k,(s.take (i+n)).drop i,i) (i+n))) (au.trans (b:=⟨[(0, .d (dL s)),(2, .nil),(3, .d (dN .i64 0)),(4, .d (dN .i64 0)),(5, .own 13002 (([]:List Tk).length+1) 3 118),(6, .d (dN .i64 ((i+n:Nat))))],[(13002,some ((ce ([]:List Tk)).take (([]:List Tk).length*3)++jU (k,(s.take (i+n)).drop i,i)))]⟩) (weak ⟨rfl,rfl,rfl,rfl,rfl,aq O_ O_,trivial⟩ ⟨rfl,trivial⟩ rfl) ((a8 (q:=5) (j:=13002) (j':=13001) (m:=([]:List Tk).length+1) (k:=3) (e:=118) (cs:=(ce ([]:List Tk)).take (([]:List Tk).length*3)++jU (k,(s.take (i+n)).drop i,i)) rfl rfl rfl rfl).trans kw))⟩):p:=e
def pN{p q:Prop}(h:q)(e:KH q->p:=by intro hK;refine kW ?_;refine kQ c1 ?_;exact hK.out):p:=e ⟨h⟩
def pD{p q:Prop}(h:q)(e:KH q->p:=by intro hK;refine kW ?_;refine kZ cy ?_;exact hK.out):p:=e ⟨h⟩
def Uw{p q:Prop}(h:q)(e:KH q->p:=by intro hK;refine kO4 ?_;refine kJ ((w.length-k:Nat)) ?_;refine IK ah (l:=w) (i:=w.length-k) O_ rfl rfl rfl rfl rfl rfl rfl rfl ?_;refine aj rfl rfl rfl rfl rfl rfl rfl (aA (a:=w.take (w.length-k)) (b:=[46]) (by simp;omega)) ?_;refine kO4 ?_;refine kJ ((w.length-k:Nat)) ?_;refine qW ah (l:=w) (i:=w.length-k) O_ rfl rfl rfl rfl rfl rfl rfl rfl ?_;refine aj rfl rfl rfl rfl rfl rfl rfl (aA (a:=w.take (w.length-k)++[46]) (b:=w.drop (w.length-k)) (by simp;omega)) ?_;exact hK.out):p:=e ⟨h⟩
def Hg{p q:Prop}(h:q)(e:KH q->p:=by intro hK;refine NJ ?_;refine kW ?_;exact hK.out):p:=e ⟨h⟩
def SK{p:Prop}(e:p:=by
 refine kX ?_;exact⟨(i+1,acc),⟨hlt,by dsimp only;omega,f,by dsimp only;omega,h3⟩,by dsimp only;omega,by
  cases acc
  ·exact weak ⟨rfl,rfl,rfl,rfl,rfl,aq O_ O_,trivial⟩ trivial rfl
  ·exact weak ⟨rfl,rfl,rfl,rfl,rfl,aq O_ O_,trivial⟩ ⟨rfl,trivial⟩ rfl⟩):p:=e
def SB{p q:Prop}(h:q)(e:KH q->p:=by intro hK;refine kW ?_;refine ac (jz (h.1.fit O_) (h'.2.fit O_) hgz) rfl rfl rfl rfl rfl rfl rfl ?_;refine kW ?_;refine ac (jz (h'.1.fit O_) (h.2.fit O_) htz) rfl rfl rfl rfl rfl rfl rfl ?_;refine kW ?_;refine ac (eY (h.1.fit O_) (sg.fit O_) O_ (tI _ _)) rfl rfl rfl rfl rfl rfl rfl ?_;refine kW ?_;refine ac (eY (h'.1.fit O_) (st.fit O_) O_ (tI _ _)) rfl rfl rfl rfl rfl rfl rfl ?_;refine kW ?_;refine ac (eT (s1.fit O_) (s2.fit O_)) rfl rfl rfl rfl rfl rfl rfl ?_;refine kW ?_;refine ac (eY (h.2.fit O_) (st.fit O_) O_ (D6 _ _)) rfl rfl rfl rfl rfl rfl rfl ?_;refine kW ?_;refine ac (eY (h'.2.fit O_) (sg.fit O_) O_ (D6 _ _)) rfl rfl rfl rfl rfl rfl rfl ?_;refine kW ?_;refine ac (eT (s3.fit O_) (s4.fit O_)) rfl rfl rfl rfl rfl rfl rfl ?_;exact hK.out):p:=e ⟨h⟩
def x4{p q:Prop}(h:q)(e:KH q->p:=by intro hK;refine aS (i:=i) (cs':=af o1 na1 xs1 nb1 ys1 nm1 n1 cs1) hlt hat (Z_ 6) rfl rfl rfl rfl rfl rfl rfl rfl ?_;exact hK.out):p:=e ⟨h⟩
def TQ{p:Prop}(e:p:=by exact⟨(i+n,(a::r)++[(k,(s.take (i+n)).drop i,i)]),⟨by dsimp only;omega,by rw[L_];dsimp only[List.length_cons,List.length_nil]at h2 ⊢;omega,f,by dsimp only;omega,h3⟩,by dsimp only;omega,by exact Eq.mpr (congrArg (au _) (Di s (a::r) (k,(s.take (i+n)).drop i,i) (i+n))) (au.trans (b:=⟨[(0, .d (dL s)),(2, .nil),(3, .d (dN .i64 0)),(4, .d (dN .i64 0)),(5, .own 13002 ((a::r).length+1) 3 118),(6, .d (dN .i64 ((i+n:Nat))))],[(13002,some ((ce (a::r)).take ((a::r).length*3)++jU (k,(s.take (i+n)).drop i,i)))]⟩) (weak ⟨rfl,rfl,rfl,rfl,rfl,aq O_ O_,trivial⟩ ⟨rfl,trivial⟩ rfl) ((a8 (q:=5) (j:=13002) (j':=13001) (m:=(a::r).length+1) (k:=3) (e:=118) (cs:=(ce (a::r)).take ((a::r).length*3)++jU (k,(s.take (i+n)).drop i,i)) rfl rfl rfl rfl).trans kw))⟩):p:=e
def ox{p q:Prop}(h:q)(e:KH q->p:=by
 intro hK;refine kB true ?_ ?_
 ·exact(by simp;omega)
 exact hK.out):p:=e ⟨h⟩
def Us{p q:Prop}(h:q)(e:KH q->p:=by
 intro hK;refine kG ?_;refine kO ?_;refine aj rfl rfl rfl rfl rfl rfl rfl (vb (a:=a) (b:=10) D_) ?_;refine kO2 ?_;refine S7 ah (c:=dg (a%10)) ⟨?_,?_,?_⟩ rfl rfl rfl rfl rfl rfl rfl rfl ?_
 ·rw[IntWalk.i64_in _ O_,IntWalk.i32_in _ O_];omega
 ·rw[IntWalk.i64_in _ O_,IntWalk.i32_in _ O_];omega
 ·rw[IntWalk.i64_in _ O_,IntWalk.i32_in _ O_];unfold dg;congr 1
 refine kO ?_;refine aj rfl rfl rfl rfl rfl rfl rfl (aA (a:=[dg (a%10)]) (b:=t) (by simp;omega)) ?_;refine kG ?_;refine kO ?_;refine aj rfl rfl rfl rfl rfl rfl rfl (vo (a:=a) (b:=10) D_ O_) ?_;refine kW ?_;refine⟨(a/10,dg (a%10)::t),⟨V_ (Nat.div_le_self _ _) ha, .inr ⟨by simp,hst⟩⟩,?_,weak ⟨rfl,rfl,trivial⟩ trivial rfl⟩;dsimp only;exact hK.out):p:=e ⟨h⟩
def tn{p q:Prop}(h:q)(e:KH q->p:=by intro hK;refine kO ?_;refine kY ?_;exact hK.out):p:=e ⟨h⟩
def Bw{p q:Prop}(h:q)(e:KH q->p:=by intro hK;refine kW ?_;refine kZ cis ?_;exact hK.out):p:=e ⟨h⟩
def iA{p q:Prop}(h:q)(e:KH q->p:=by intro hK;refine kV func87 ?_;exact hK.out):p:=e ⟨h⟩
def pi{p q:Prop}(h:q)(e:KH q->p:=by intro hK;refine kR ?_;refine kI ?_;refine kO4 ?_;exact hK.out):p:=e ⟨h⟩
def A7{p q:Prop}(h:q)(e:KH q->p:=by intro hK;refine bH ?_;refine bz rfl ?_;exact hK.out):p:=e ⟨h⟩
def Kg{p q:Prop}(h:q)(e:KH q->p:=by
 intro hK;refine kV func313 ?_;refine kQ (CG s) ?_;refine eR (T:=TT) rfl ?_ ?_
 ·exact F_ O_
 refine kW ?_;refine kC c1 ?_;exact hK.out):p:=e ⟨h⟩
def LJ{p q:Prop}(h:q)(e:KH q->p:=by intro hK;refine kW ?_;refine kQ cl ?_;refine aS (i:=0) (cs':=af o1 na1 xs1 nb1 ys1 nm1 n1 cs1) D_ (nF _ _) (Z_ 6) rfl rfl rfl rfl rfl rfl rfl rfl ?_;refine kW ?_;refine kC ca ?_;refine kO ?_;exact hK.out):p:=e ⟨h⟩
def jK{p:Prop}(e:p:=by rename_i hn;exact absurd h (hn e r)):p:=e
def Nn{p q:Prop}(h:q)(e:KH q->p:=by intro hK;refine kG ?_;refine kO3 ?_;refine m4 19003 (m1:=o.length) (m2:=1) ah D_ (by show(o.length+1)*1<=_;omega) rfl rfl rfl rfl rfl rfl rfl rfl rfl rfl rfl (.own rfl rfl) rfl rfl rfl ?_;refine kW ?_;exact hK.out):p:=e ⟨h⟩
def Kw{p q:Prop}(h:q)(e:KH q->p:=by intro hK;refine kW ?_;refine kC tf ?_;refine kO3 ?_;refine JE ?_;refine kW ?_;refine kC c ?_;exact hK.out):p:=e ⟨h⟩
def M7{p q:Prop}(h:q)(e:KH q->p:=by
 intro hK;refine kW ?_;refine eR (T:=TT) rfl ?_ ?_
 ·exact F_ O_
 exact hK.out):p:=e ⟨h⟩
def Um{p q:Prop}(h:q)(e:KH q->p:=by intro hK;refine GC ?_;refine Kb ?_;refine kW ?_;refine ac (gH (F_ (show ¬(num b:Int)=0 by omega))) rfl rfl rfl rfl rfl rfl rfl ?_;refine kW ?_;exact hK.out):p:=e ⟨h⟩
def R9{p q:Prop}(h:q)(e:KH q->p:=by
 intro hK;refine kC cl ?_;refine kO ?_;refine kB false ?_ ?_
 ·exact F_ (by show ¬((4:Nat):Int)<_;omega)
 refine kW ?_;exact hK.out):p:=e ⟨h⟩
def E0{p q:Prop}(h:q)(e:KH q->p:=by intro hK;refine bz rfl ?_;refine kO2 ?_;exact hK.out):p:=e ⟨h⟩
def BJ{p q:Prop}(h:q)(e:KH q->p:=by intro hK;refine kO3 ?_;refine kY ?_;exact hK.out):p:=e ⟨h⟩
def sY{p q:Prop}(h:q)(e:KH q->p:=by intro hK;refine kW ?_;refine Eq.mpr (congrFun hret _) ?_;exact hK.out):p:=e ⟨h⟩
def Bg{p q:Prop}(h:q)(e:KH q->p:=by intro hK;refine aj rfl rfl rfl rfl rfl rfl rfl (eM (a:=s) (b:=[]) hne) ?_;refine kO3 ?_;exact hK.out):p:=e ⟨h⟩
def Lp{p q:Prop}(h:q)(e:KH q->p:=by intro hK;refine kW ?_;refine aS (i:=1) (cs':=af o2 na2 xs2 nb2 ys2 nm2 n2 cs2) D_ (oB _ rfl) (Z_ 6) rfl rfl rfl rfl rfl rfl rfl rfl ?_;refine kW ?_;refine kC cb ?_;exact hK.out):p:=e ⟨h⟩
def Aa{p q:Prop}(h:q)(e:KH q->p:=by intro hK;refine kO ?_;refine kX ?_;exact hK.out):p:=e ⟨h⟩
def U3{p q:Prop}(h:q)(e:KH q->p:=by intro hK;refine aj rfl rfl rfl rfl rfl rfl rfl (cx (a:=nm) (b:=[]) (h_ hz)) ?_;refine kW ?_;exact hK.out):p:=e ⟨h⟩
def UF{p q:Prop}(h:q)(e:KH q->p:=by intro hK;refine kI ?_;refine PI ?_;refine kW ?_;refine kC c1 ?_;exact hK.out):p:=e ⟨h⟩
def Lr{p q:Prop}(h:q)(e:KH q->p:=by intro hK;refine bU ah (i:=0) (c:=c) rfl rfl rfl rfl rfl rfl rfl rfl rfl ?_;exact hK.out):p:=e ⟨h⟩
def MX{p q:Prop}(h:q)(e:KH q->p:=by intro hK;refine kO3 ?_;refine kT ?_;refine kO3 ?_;exact hK.out):p:=e ⟨h⟩
def Nc{p q:Prop}(h:q)(e:KH q->p:=by intro hK;refine kW ?_;refine kZ cs ?_;refine kD cn ?_;refine kO ?_;exact hK.out):p:=e ⟨h⟩
def RX{p q:Prop}(h:q)(e:KH q->p:=by intro hK;refine aX ah dz func227 rfl rfl rfl rfl rfl iP ?_;refine kW ?_;exact hK.out):p:=e ⟨h⟩
def LO{p q:Prop}(h:q)(e:KH q->p:=by intro hK;refine aX ah dz func229 rfl rfl rfl rfl rfl ic ?_;refine kW ?_;exact hK.out):p:=e ⟨h⟩
def Q8{p q:Prop}(h:q)(e:KH q->p:=by intro hK;refine kV func17 ?_;refine kQ cS ?_;refine kQ cA ?_;exact hK.out):p:=e ⟨h⟩
def Uj{p q:Prop}(h:q)(e:KH q->p:=by intro hK;refine aj rfl rfl rfl rfl rfl rfl rfl (bA (a:=nm) (b:=[]) (of_decide_eq_false hz)) ?_;exact hK.out):p:=e ⟨h⟩
def Uk{p q:Prop}(h:q)(e:KH q->p:=by
 intro hK;refine kB true ?_ ?_
 ·exact T_ (by rw[hsb,List.length_cons];omega)
 refine kO3 ?_;refine xn ah (l:=c::b) (l':=b) (i:=1) rfl S_ rfl rfl rfl rfl rfl rfl rfl rfl ?_;refine ac (oi (t:=b) O_) rfl rfl rfl rfl rfl rfl rfl ?_;refine kO2 ?_;refine bW (v':= .int .i64 ((b.length:Nat))) rfl rfl rfl rfl ?_ ?_
 ·exact congrArg (Value.int .i64) (by rw[hsb,List.length_cons,IntWalk.i64_in _ O_];omega)
 exact hK.out):p:=e ⟨h⟩
def Tw{p q:Prop}(h:q)(e:KH q->p:=by
 intro hK;iterate 6 refine kO ?_
 refine Om ?_;exact hK.out):p:=e ⟨h⟩
def Mn{p q:Prop}(h:q)(e:KH q->p:=by
 intro hK;refine bW (v':= .int .i64 ((i+b.length:Nat))) rfl rfl rfl rfl ?_ ?_
 ·exact congrArg (Value.int .i64) (by rw[hsb,IntWalk.i64_in _ O_];omega)
 exact hK.out):p:=e ⟨h⟩
def B8{p q:Prop}(h:q)(e:KH q->p:=by intro hK;refine bU ah (i:=i+1) (c:=d) hx2 rfl rfl rfl rfl rfl rfl rfl rfl ?_;exact hK.out):p:=e ⟨h⟩
def Me{p q:Prop}(h:q)(e:KH q->p:=by intro hK;refine aX ah dz func280 rfl rfl rfl rfl rfl iP ?_;refine kR ?_;refine kI ?_;refine kO2 ?_;refine kQ cp ?_;exact hK.out):p:=e ⟨h⟩
def SH{p q:Prop}(h:q)(e:KH q->p:=by intro hK;refine kI ?_;refine PI ?_;exact hK.out):p:=e ⟨h⟩
def FU{p q:Prop}(h:q)(e:KH q->p:=by intro hK;refine kR ?_;refine kI ?_;refine kO2 ?_;exact hK.out):p:=e ⟨h⟩
def zH{p q:Prop}(h:q)(e:KH q->p:=by intro hK;refine kT ?_;refine kO2 ?_;refine kE ?_;exact hK.out):p:=e ⟨h⟩
def Ii{p q:Prop}(h:q)(e:KH q->p:=by
 intro hK;iterate 2 refine kG ?_
 refine kO ?_;refine kE ?_;refine kO2 ?_;exact hK.out):p:=e ⟨h⟩
def Rl{p q:Prop}(h:q)(e:KH q->p:=by intro hK;refine aX ah dz func227 rfl rfl rfl rfl rfl iP ?_;exact hK.out):p:=e ⟨h⟩
def yF{p:Prop}(e:p:=by refine kW ?_;exact .inl ⟨⟨_,rfl,rfl⟩,⟨rfl,rfl,trivial⟩⟩):p:=e
def LC{p q:Prop}(h:q)(e:KH q->p:=by intro hK;refine aj rfl rfl rfl rfl rfl rfl rfl (bA (a:=x::t) (b:=[111,117,116,115,105,100,101]) e2) ?_;refine kG ?_;refine kO ?_;exact hK.out):p:=e ⟨h⟩
def L5{p q:Prop}(h:q)(e:KH q->p:=by intro hK;rw[rl,if_neg D_,if_neg D_,if_neg D_,if_pos D_,F_ hl,Bool.and_false,Bool.false_and];exact hK.out):p:=e ⟨h⟩
def Q1{p q:Prop}(h:q)(e:KH q->p:=by intro hK;refine kW ?_;refine ac (bg (neg:=false) (xs:=digs u) (ab _) (show bv false (digs u)=((Nat.gcd (val xs) (val ys):Nat):Int) by rw[zp,<- hg];rfl)) rfl rfl rfl rfl rfl rfl rfl ?_;exact hK.out):p:=e ⟨h⟩
def K7{p q:Prop}(h:q)(e:KH q->p:=by intro hK;refine aj rfl rfl rfl rfl rfl rfl rfl (bA (a:=x::t) (b:=[105,110,115,105,100,101]) e4) ?_;refine kG ?_;refine kO ?_;exact hK.out):p:=e ⟨h⟩
def Ts{p q:Prop}(h:q)(e:KH q->p:=by intro hK;refine aj rfl rfl rfl rfl rfl rfl rfl (cx (a:=nm) (b:=[]) hnm) ?_;refine kO5 ?_;exact hK.out):p:=e ⟨h⟩
def SN{p q:Prop}(h:q)(e:KH q->p:=by intro hK;refine Qy underlying166 underlying9 rfl rfl rfl rfl rfl ⟨rfl,rfl,rfl⟩ rfl rfl rfl rfl ?_;refine kW ?_;refine kD h ?_;exact hK.out):p:=e ⟨h⟩
def Mc{p q:Prop}(h:q)(e:KH q->p:=by intro hK;refine kO5 ?_;refine ve ah (l:=s) (i:=i) (j:=i+1) O_ O_ rfl rfl rfl rfl rfl rfl rfl rfl rfl ?_;exact hK.out):p:=e ⟨h⟩
def Re{p q:Prop}(h:q)(e:KH q->p:=by intro hK;refine kN ?_;refine bH (T:=TT) ?_;refine dX (T:=TT) rfl ?_;refine iy ?_;refine kI ?_;exact hK.out):p:=e ⟨h⟩
def Lg{p q:Prop}(h:q)(e:KH q->p:=by intro hK;refine aS (i:=i) (cs':=af o1 na1 xs1 nb1 ys1 nm1 n1' cs1) hlt hat (Z_ 6) rfl rfl rfl rfl rfl rfl rfl rfl ?_;exact hK.out):p:=e ⟨h⟩
def QC{p q:Prop}(h:q)(e:KH q->p:=by intro hK;refine aj rfl rfl rfl rfl rfl rfl rfl (bA (a:=nm) (b:=[]) hnm) ?_;exact hK.out):p:=e ⟨h⟩
def Vm{p q:Prop}(h:q)(e:KH q->p:=by intro hK;refine kX ?_;refine kC cm ?_;exact hK.out):p:=e ⟨h⟩
def My{p q:Prop}(h:q)(e:KH q->p:=by intro hK;refine kW ?_;refine aS (i:=i) (cs':=[.val (.int .i64 z)]) hlt hat (Z_ 0) rfl rfl rfl rfl rfl rfl rfl rfl ?_;exact hK.out):p:=e ⟨h⟩
def Mp{p q:Prop}(h:q)(e:KH q->p:=by intro hK;refine aj rfl rfl rfl rfl rfl rfl rfl (bA (a:=x::t) (b:=[114,105,103,104,116]) e3) ?_;refine kO2 ?_;exact hK.out):p:=e ⟨h⟩
def Mg{p q:Prop}(h:q)(e:KH q->p:=by intro hK;refine aj rfl rfl rfl rfl rfl rfl rfl (cx (a:=x::t) (b:=[111,117,116,115,105,100,101]) e2) ?_;refine kW ?_;exact hK.out):p:=e ⟨h⟩
def yK{p q:Prop}(h:q)(e:KH q->p:=by intro hK;refine kG ?_;refine kO ?_;refine kJ ((i+1:Nat)) ?_;exact hK.out):p:=e ⟨h⟩
def NE{p q:Prop}(h:q)(e:KH q->p:=by intro hK;refine aS (i:=i) (cs':=[.val (.int .i64 z)]) hlt (bd hz) (Z_ 0) rfl rfl rfl rfl rfl rfl rfl rfl ?_;exact hK.out):p:=e ⟨h⟩
def Sd{p:Prop}(e:p:=by
 funext q;apply propext;constructor
 ·rintro(h1|h1)
  ·exact h1.1
  ·exact bxown q h1
 ·intro h1;by_cases h2:BX g b q
  ·exact .inr h2
  ·exact .inl ⟨h1,h2⟩):p:=e
def M9{p q:Prop}(h:q)(e:KH q->p:=by intro hK;refine aj rfl rfl rfl rfl rfl rfl rfl (bA (a:=x::t) (b:=[108,101,102,116]) e1) ?_;refine kO2 ?_;exact hK.out):p:=e ⟨h⟩
def Ma{p q:Prop}(h:q)(e:KH q->p:=by intro hK;refine aj rfl rfl rfl rfl rfl rfl rfl (cx (a:=x::t) (b:=[105,110,115,105,100,101]) e4) ?_;refine kW ?_;exact hK.out):p:=e ⟨h⟩
def LZ{p q:Prop}(h:q)(e:KH q->p:=by intro hK;rw[rl,if_neg D_,if_neg D_,if_neg D_,if_pos D_,T_ hl,Bool.and_true];exact hK.out):p:=e ⟨h⟩
def SE{p:Prop}(e:p:=by
 refine⟨jV K (fmt (pw q K).num),?_,fun u h=>?_⟩
 ·have:(fZ q).isSome=decide ((jV K (fmt (pw q K).num)).length<=40):=by
   rw[h2];split
   ·rename_i h;simp[h]
   ·rename_i h;simp[h]
  rw[this];exact main _ _ (fun h=>by omega) (fun _=>⟨rfl,rfl⟩)
 ·rw[h2]at h;split at h
  ·cases h;rfl
  ·cases h):p:=e
def Mx{p q:Prop}(h:q)(e:KH q->p:=by intro hK;refine aj rfl rfl rfl rfl rfl rfl rfl (cx (a:=x::t) (b:=[114,105,103,104,116]) e3) ?_;refine kW ?_;exact hK.out):p:=e ⟨h⟩
def Uu{p q:Prop}(h:q)(e:KH q->p:=by
 intro hK;refine kB false ?_ ?_
 ·exact(by simp[e1])
 refine kO5 ?_;refine aj rfl rfl rfl rfl rfl rfl rfl (ee (a:=nm) (b:=nm') e2) ?_;iterate 8 refine kO ?_
 exact hK.out):p:=e ⟨h⟩
def H6{p q:Prop}(h:q)(e:KH q->p:=by intro hK;unfold Instr.sliceAt;simp only[Y_,run_underlying hu w,R_];exact hK.out):p:=e ⟨h⟩
def Al{p q:Prop}(h:q)(e:KH q->p:=by intro hK;refine kT ?_;refine kO2 ?_;refine kT ?_;exact hK.out):p:=e ⟨h⟩
def yg{p q:Prop}(h:q)(e:KH q->p:=by intro hK;refine kT ?_;refine kG ?_;refine kO2 ?_;exact hK.out):p:=e ⟨h⟩
def MO{p q:Prop}(h:q)(e:KH q->p:=by intro hK;refine aj rfl rfl rfl rfl rfl rfl rfl (cx (a:=x::t) (b:=[108,101,102,116]) e1) ?_;refine kW ?_;exact hK.out):p:=e ⟨h⟩
def Iu{p q:Prop}(h:q)(e:KH q->p:=by intro hK;rw[show dE e= .agg (af o1 na1 xs1 nb1 ys1 nm1 n1 cs1) from congrArg DV.agg hA];exact hK.out):p:=e ⟨h⟩
def SV{p q:Prop}(h:q)(e:KH q->p:=by
 intro hK;refine kC d ?_;refine kG ?_;iterate 6 refine kO ?_
 refine kQ s1 ?_;refine kC mu ?_;refine kQ su ?_;refine kC sg1 ?_;refine kO ?_;refine kC sg2 ?_;refine bW (v':= .int .i64 w) rfl rfl rfl rfl ?_ ?_
 ·exact congrArg (Value.int .i64) (by rw[hwe];exact IntWalk.i64_in _ O_)
 exact hK.out):p:=e ⟨h⟩
def Nu{p q:Prop}(h:q)(e:KH q->p:=by
 intro hK;refine kB true ?_ ?_
 ·exact T_ (by rw[h1];rfl)
 refine kW ?_;refine kQ cN ?_;exact hK.out):p:=e ⟨h⟩
def Nl{p q:Prop}(h:q)(e:KH q->p:=by
 intro hK;refine kB true ?_ ?_
 ·exact T_ (by rw[h2];rfl)
 refine kW ?_;refine kQ cN ?_;exact hK.out):p:=e ⟨h⟩
def TF{p:Prop}(e:p:=by exact⟨(i+2,o++[d]),⟨by dsimp only;omega,by dsimp only;omega,by simp;omega,by rw[show i+2-p=i-p+2 by omega];exact h4,h5⟩,by dsimp only;omega,au.trans (b:=qT s p (i+2) o d) (weak ⟨rfl,rfl,rfl,rfl,rfl,aq O_ O_,trivial⟩ ⟨rfl,trivial⟩ rfl) (R6 s p (i+2) o d)⟩):p:=e
def SA{p q:Prop}(h:q)(e:KH q->p:=by intro hK;refine kW ?_;refine ac (gS (h.1.fit O_) (h'.1.fit O_)) rfl rfl rfl rfl rfl rfl rfl ?_;refine kW ?_;refine ac (gS (h.2.fit O_) (h'.2.fit O_)) rfl rfl rfl rfl rfl rfl rfl ?_;refine kW ?_;refine kC (qk (h.1.mul h'.1) (h.2.mul h'.2) hk d0 (tT a b)) ?_;exact hK.out):p:=e ⟨h⟩
def Qw{p q:Prop}(h:q)(e:KH q->p:=by intro hK;refine kW ?_;refine aS (i:=0) (cs':=af o1 na1 xs1 nb1 ys1 nm1 n1 cs1) D_ (Ll _) (Z_ 6) rfl rfl rfl rfl rfl rfl rfl rfl ?_;exact hK.out):p:=e ⟨h⟩
def S5{p q:Prop}(h:q)(e:KH q->p:=by
 intro hK;refine kO3 ?_;refine bW (v':= .bool (decide (z.length<=40))) rfl rfl rfl rfl ?_ ?_
 ·exact J7
 exact hK.out):p:=e ⟨h⟩
def JV{p q:Prop}(h:q)(e:KH q->p:=by intro hK;refine aj rfl rfl rfl rfl rfl rfl rfl (ee (a:=[]) (b:=[]) rfl) ?_;exact hK.out):p:=e ⟨h⟩
def Od{p q:Prop}(h:q)(e:KH q->p:=by intro hK;refine GS ?_;refine kW ?_;refine kQ (lf (na:=nb) hw' c2) ?_;exact hK.out):p:=e ⟨h⟩
def yu{p q:Prop}(h:q)(e:KH q->p:=by intro hK;refine kW ?_;refine kQ n1 ?_;refine kC n2 ?_;exact hK.out):p:=e ⟨h⟩
def OQ{p q:Prop}(h:q)(e:KH q->p:=by intro hK;refine HQ ?_;refine kW ?_;refine kQ (mK (na:=nb) hw' c2) ?_;exact hK.out):p:=e ⟨h⟩
def GE{p q:Prop}(h:q)(e:KH q->p:=by intro hK;refine kG ?_;refine kO2 ?_;refine aj rfl rfl rfl rfl rfl rfl rfl (eM (a:=u) (b:=[]) hu) ?_;refine kG ?_;refine kO3 ?_;exact hK.out):p:=e ⟨h⟩
def Og{p:Prop}(e:p:=by exact congrArg (fun b=>RV.one (dB b)) (by rw[<- hb];rfl)):p:=e
def PV{p q:Prop}(h:q)(e:KH q->p:=by intro hK;refine kI ?_;refine kO ?_;refine kT ?_;refine kG ?_;refine kO ?_;refine aj rfl rfl rfl rfl rfl rfl rfl hrem ?_;refine kW ?_;refine ac (mul i j O_ O_) rfl rfl rfl rfl rfl rfl rfl ?_;refine kG ?_;refine kO ?_;refine aj rfl rfl rfl rfl rfl rfl rfl hquo ?_;refine kG ?_;exact hK.out):p:=e ⟨h⟩
def PY{p q:Prop}(h:q)(e:KH q->p:=by intro hK;refine kO4 ?_;refine kT ?_;refine kO4 ?_;refine bU ah (i:=i+n) (c:=s[i+n]) hx rfl rfl rfl rfl rfl rfl rfl rfl ?_;exact hK.out):p:=e ⟨h⟩
def EC{p q:Prop}(h:q)(e:KH q->p:=by intro hK;refine gu (i:=1) underlying171 (by kernel_rfl) D_ rfl rfl rfl rfl rfl rfl ?_;exact hK.out):p:=e ⟨h⟩
def KO{p:Prop}(e:p:=by unfold QN at he;simp only[Prod.mk.injEq]at he;obtain⟨rfl,rfl,rfl⟩:=he;exact⟨g,fun _ _=>rfl,hr,VR.oo hm.plain,rfl,l_ _⟩):p:=e
def Dh{p q:Prop}(h:q)(e:KH q->p:=by
 intro hK;refine kB false ?_ ?_
 ·exact F_ (yQ (d:=112) h1)
 refine kG ?_;refine kO ?_;exact hK.out):p:=e ⟨h⟩
def CL{p q:Prop}(h:q)(e:KH q->p:=by intro hK;refine kW ?_;refine bU ah (l:=c::b) (i:=0) rfl rfl rfl rfl rfl rfl rfl rfl rfl ?_;exact hK.out):p:=e ⟨h⟩
def qL{p q:Prop}(h:q)(e:KH q->p:=by intro hK;simp only[Bool.false_eq_true,if_false];exact hK.out):p:=e ⟨h⟩
def EF{p q:Prop}(h:q)(e:KH q->p:=by intro hK;refine kW ?_;refine ac (Rj ha O_) rfl rfl rfl rfl rfl rfl rfl ?_;refine kW ?_;exact hK.out):p:=e ⟨h⟩
def qH{p q:Prop}(h:q)(e:KH q->p:=by intro hK;refine bH ?_;refine iU hw rfl ?_;exact hK.out):p:=e ⟨h⟩
def DY{p q:Prop}(h:q)(e:KH q->p:=by intro hK;refine gT ah dz func105 rfl rfl rfl rfl rfl rfl (rM rfl rfl rfl) ?_;exact hK.out):p:=e ⟨h⟩
def NL{p:Prop}(e:p:=by
 constructor
 ·rintro⟨h1,h2⟩;refine⟨vv.1 h1,fun cs hc=>?_⟩;have:=h2 _ (qA hc);rwa[nS]at this
 ·rintro⟨h1,h2⟩;refine⟨vv.2 h1,fun cs hc=>?_⟩;obtain⟨c0,h0,rfl⟩:=iR hc;rw[kg]at h0;rw[nS];exact h2 c0 h0):p:=e
def Pq{p:Prop}(e:p:=by have a:=jr f _ _ _ _ hs (fun _ _ h=>by cases h) h1;have b:=jr f _ _ _ _ (fun t ht=>hs t (a.2.1 t ht)) (fun _ _ h=>by cases h;exact a.1) h;exact⟨b.1,fun t ht=>a.2.1 t (b.2.1 t ht),by have:=a.2.2;have:=b.2.2;dsimp only at *;omega⟩):p:=e
def GX{p q:Prop}(h:q)(e:KH q->p:=by intro hK;refine kT ?_;refine kO3 ?_;refine bU ah (i:=0) (c:=c) h0 rfl rfl rfl rfl rfl rfl rfl rfl ?_;refine kC c1 ?_;exact hK.out):p:=e ⟨h⟩
def OD{p q:Prop}(h:q)(e:KH q->p:=by intro hK;refine kU func160 ?_;refine kR ?_;refine kI ?_;refine SO 700 ah rfl rfl rfl rfl rfl rfl rfl rfl ?_;refine kG ?_;refine kO3 ?_;refine kE ?_;refine kO3 ?_;refine bU ah (i:=p) (c:=c0) hp rfl rfl rfl rfl rfl rfl rfl rfl ?_;exact hK.out):p:=e ⟨h⟩
def OP{p:Prop}(e:p:=by
 cases e with
 |normal=>obtain⟨s,h1,h2⟩:=hq;exact fin s h1 h2
 |ret=>obtain⟨s,h1,h2⟩:=hq;exact fin s h1 h2
 |exit i=>obtain⟨s,h1,h2⟩:=hq;exact h1.elim
 |goto l=>exact hq.elim
 |panic c=>exact hq.elim
 |outgrown=>exact hq.elim):p:=e
def DH{p q:Prop}(h:q)(e:KH q->p:=by intro hK;refine aX ah dz func116 rfl rfl rfl rfl rfl iP ?_;refine kW ?_;exact hK.out):p:=e ⟨h⟩
def yp{p q:Prop}(h:q)(e:KH q->p:=by intro hK;refine kW ?_;refine TP Qr rfl rfl rfl rfl rfl rfl rfl ?_;exact hK.out):p:=e ⟨h⟩
def Dz{p q:Prop}(h:q)(e:KH q->p:=by
 intro hK;refine kW ?_;refine fX (T:=TT) rfl ?_ ?_
 ·exact T_ O_
 exact hK.out):p:=e ⟨h⟩
def I7{p q:Prop}(h:q)(e:KH q->p:=by intro hK;refine kV func190 ?_;refine kQ t1 ?_;refine kC t2 ?_;refine kG ?_;refine kO4 ?_;exact hK.out):p:=e ⟨h⟩
def JC{p q:Prop}(h:q)(e:KH q->p:=by intro hK;refine kV func334 ?_;refine ac (j1 O_ ha) rfl rfl rfl rfl rfl rfl rfl ?_;refine kW ?_;exact hK.out):p:=e ⟨h⟩
def C7{p q:Prop}(h:q)(e:KH q->p:=by intro hK;refine kW ?_;refine kQ s1 ?_;refine kC s2 ?_;exact hK.out):p:=e ⟨h⟩
def Ec{p q:Prop}(h:q)(e:KH q->p:=by
 intro hK;refine kB false ?_ ?_
 ·exact F_ (yQ (d:=99) h2)
 refine kW ?_;exact hK.out):p:=e ⟨h⟩
def Hi{p q:Prop}(h:q)(e:KH q->p:=by intro hK;refine kD (cH t (u::r) a 0) ?_;refine kO ?_;refine kQ cp ?_;exact hK.out):p:=e ⟨h⟩
def C2{p q:Prop}(h:q)(e:KH q->p:=by intro hK;show aa Tryz.prog _ [.agg (af op na xs nb ys nm args.length (gc args))] _;exact hK.out):p:=e ⟨h⟩
def Ok{p q:Prop}(h:q)(e:KH q->p:=by
 intro hK;refine kC cl ?_;refine kO ?_;refine kB false ?_ ?_
 ·exact F_ (by show ¬((3:Nat):Int)<_;omega)
 refine kW ?_;refine gu (i:=3) underlying184 (by kernel_rfl) D_ rfl rfl rfl rfl rfl rfl ?_;refine kW ?_;exact hK.out):p:=e ⟨h⟩
def D9{p q:Prop}(h:q)(e:KH q->p:=by intro hK;refine qW ah (i:=nn) hnr rfl rfl rfl rfl rfl rfl rfl rfl ?_;refine kN ?_;exact hK.out):p:=e ⟨h⟩
def Il{p q:Prop}(h:q)(e:KH q->p:=by
 intro hK;refine kB false ?_ ?_
 ·exact(by simp[hn])
 refine kW ?_;exact hK.out):p:=e ⟨h⟩
def Qn{p q:Prop}(h:q)(e:KH q->p:=by intro hK;refine kW ?_;refine ac (fx 10 D_ D_) rfl rfl rfl rfl rfl rfl rfl ?_;refine kW ?_;refine kQ t4 ?_;refine ac (gS (hs.fit O_) t3) rfl rfl rfl rfl rfl rfl rfl ?_;refine kW ?_;exact hK.out):p:=e ⟨h⟩
def DB{p q:Prop}(h:q)(e:KH q->p:=by intro hK;refine bU ah (i:=j) (c:=s[j]) hx rfl rfl rfl rfl rfl rfl rfl rfl ?_;exact hK.out):p:=e ⟨h⟩
def J4{p:Prop}(e:p:=by refine⟨[],?_,fun u h=>by rw[h0]at h;cases h⟩;rw[h0];exact main _ _ (fun _=>⟨rfl,rfl⟩) (fun h=>by omega)):p:=e
def Dw{p q:Prop}(h:q)(e:KH q->p:=by intro hK;refine gT ah dz func105 rfl rfl rfl rfl rfl rfl sf ?_;exact hK.out):p:=e ⟨h⟩
def Dy{p q:Prop}(h:q)(e:KH q->p:=by intro hK;refine kV func159 ?_;refine kC c1 ?_;exact hK.out):p:=e ⟨h⟩
def PA{p q:Prop}(h:q)(e:KH q->p:=by intro hK;refine kW ?_;refine ac (Ck (n:=b.length) O_ hp) rfl rfl rfl rfl rfl rfl rfl ?_;refine kW ?_;refine ac (gS (sa.fit O_) (sp.fit O_)) rfl rfl rfl rfl rfl rfl rfl ?_;refine kW ?_;exact hK.out):p:=e ⟨h⟩
def Da{p q:Prop}(h:q)(e:KH q->p:=by
 intro hK;refine kU func59 ?_;refine kR ?_;refine kI ?_;iterate 12 refine kO ?_
 exact hK.out):p:=e ⟨h⟩
def T9{p q:Prop}(h:q)(e:KH q->p:=by intro hK;refine m4 15002 (m1:=0) (m2:=1) ah D_ D_ rfl rfl rfl rfl rfl rfl rfl rfl rfl rfl rfl (.nil rfl rfl) rfl rfl rfl ?_;refine Of ah rfl rfl rfl rfl (ep (q:=2) rfl rfl) ?_;rw[<- h3];exact hK.out):p:=e ⟨h⟩
def OJ{p:Prop}(e:p:=by
 simp only at h';split at h
 ·split at h'
  ·rename_i r1 h1 _ r2 h2;have:=z6 (fun x _ y z=>ih x y z) h1 h2;subst this;rw[<- Option.some.inj h,<- Option.some.inj h']
  ·cases h'
 ·cases h):p:=e
def PW{p:Prop}(e:p:=by refine kX ?_;refine kQ (qP g1 hv) ?_;exact⟨(v,u%v),⟨sO.trans hg,g2,V_ (iS (Nat.le_of_lt hm)) g2⟩,hm,weak ⟨rfl,rfl,rfl,trivial⟩ ⟨rfl,trivial⟩ rfl⟩):p:=e
def D8{p q:Prop}(h:q)(e:KH q->p:=by intro hK;refine kW ?_;refine kC t1 ?_;refine kO ?_;exact hK.out):p:=e ⟨h⟩
def Kh{p q:Prop}(h:q)(e:KH q->p:=by intro hK;refine aX ah dz func162 rfl rfl rfl rfl rfl iP ?_;exact hK.out):p:=e ⟨h⟩
def JU{p q:Prop}(h:q)(e:KH q->p:=by intro hK;refine aX ah dz func171 rfl rfl rfl rfl rfl ic ?_;exact hK.out):p:=e ⟨h⟩
def Ko{p q:Prop}(h:q)(e:KH q->p:=by intro hK;refine aX ah dz func281 rfl rfl rfl rfl rfl ic ?_;exact hK.out):p:=e ⟨h⟩
def NS{p:Prop}(e:p:=by
 refine kX ?_;rw[show zA l=false by
  cases hd:zA l
  ·rfl
  ·have:=(iv.1 hd).1 c (M_ hcj);unfold cM at this;omega]
 exact co (T:=TT) rfl rfl):p:=e
def Ib{p q:Prop}(h:q)(e:KH q->p:=by
 intro hK;repeat(first|refine bH (T:=TT) ?_|refine bR (T:=TT) ?_)
 refine bz (T:=TT) rfl ?_;exact hK.out):p:=e ⟨h⟩
def OA{p q:Prop}(h:q)(e:KH q->p:=by intro hK;refine kU func91 ?_;refine kR ?_;refine kI ?_;refine kO3 ?_;refine kE ?_;refine kO3 ?_;refine bU ah (i:=i) (c:=s[i]) hx0 rfl rfl rfl rfl rfl rfl rfl rfl ?_;refine kC hc0 ?_;exact hK.out):p:=e ⟨h⟩
def II{p:Prop}(e:p:=by
 rw[h1]at h;rw[lG f _ _ _ h1];cases y with
 |error e=>exact h
 |ok y=>exact lG f _ _ _ h):p:=e
def S8{p q:Prop}(h:q)(e:KH q->p:=by intro hK;refine kX ?_;refine Aq (m:=(t::u::r4).length) (i:=1) (q:=3) ah (by rw[ky];exact l_ _) S_ rfl rfl rfl rfl rfl rfl rfl rfl ?_;refine kW ?_;refine kD cy ?_;exact hK.out):p:=e ⟨h⟩
def Eg{p q:Prop}(h:q)(e:KH q->p:=by intro hK;refine kV func166 ?_;refine kC c1 ?_;refine kG ?_;exact hK.out):p:=e ⟨h⟩
def Qj{p q:Prop}(h:q)(e:KH q->p:=by intro hK;refine fR 702 (m1:=(p0::pr).length) (m2:=1) ah D_ (by show((p0::pr).length+1)*8<=_;omega) rfl rfl rfl rfl rfl rfl rfl rfl rfl rfl (.own rfl rfl) rfl rfl rfl rfl ?_;refine kW ?_;exact hK.out):p:=e ⟨h⟩
def P1{p q:Prop}(h:q)(e:KH q->p:=by intro hK;refine fR 704 (m1:=(q0::qr).length) (m2:=1) ah D_ (by show((q0::qr).length+1)*8<=_;omega) rfl rfl rfl rfl rfl rfl rfl rfl rfl rfl (.own rfl rfl) rfl rfl rfl rfl ?_;refine kW ?_;exact hK.out):p:=e ⟨h⟩
def Px{p q:Prop}(h:q)(e:KH q->p:=by intro hK;refine kO ?_;refine m4 7003 (m1:=G.length) (m2:=1) ah D_ (by show(G.length+1)*16<=_;omega) rfl rfl rfl rfl rfl rfl rfl rfl rfl rfl rfl (.own rfl rfl) rfl rfl rfl ?_;refine kW ?_;exact hK.out):p:=e ⟨h⟩
def NW{p q:Prop}(h:q)(e:KH q->p:=by intro hK;refine kW ?_;refine m4 7005 (m1:=G.length) (m2:=1) ah D_ (by show(G.length+1)*16<=_;omega) rfl rfl rfl rfl rfl rfl rfl rfl rfl rfl rfl (.own rfl rfl) rfl rfl rfl ?_;refine kW ?_;exact hK.out):p:=e ⟨h⟩
def Pa{p:Prop}(e:p:=by exact⟨(rest',mo',⟨k1,p0::pr,q0::qr,vs1,(-1)⟩),⟨hfold,by dsimp only;omega,by dsimp only;omega⟩,hm.1,weak ⟨rfl,rfl,rfl,rfl,rfl,rfl,rfl,trivial⟩ ⟨rfl,rfl,rfl,rfl,trivial⟩ rfl⟩):p:=e
def Pc{p:Prop}(e:p:=by exact⟨(rest',mo',⟨k1,p0::pr,q0::qr,vs1,sd1'⟩),⟨hfold,by dsimp only;omega,by dsimp only;omega⟩,hm.1,weak ⟨rfl,rfl,rfl,rfl,rfl,rfl,rfl,trivial⟩ ⟨rfl,rfl,rfl,rfl,trivial⟩ rfl⟩):p:=e
def Eb{p q:Prop}(h:q)(e:KH q->p:=by intro hK;refine kV func329 ?_;refine kC (oU h47) ?_;exact hK.out):p:=e ⟨h⟩
def Dr{p q:Prop}(h:q)(e:KH q->p:=by intro hK;unfold UZ;refine kW ?_;refine kC cU ?_;refine kG ?_;refine kO ?_;exact hK.out):p:=e ⟨h⟩
def O9{p:Prop}(e:p:=by exact⟨(rest',mo',⟨k1,p0::pr,q0::qr,vs1,1⟩),⟨hfold,by dsimp only;omega,by dsimp only;omega⟩,hm.1,weak ⟨rfl,rfl,rfl,rfl,rfl,rfl,rfl,trivial⟩ ⟨rfl,rfl,rfl,rfl,trivial⟩ rfl⟩):p:=e
def KY{p q:Prop}(h:q)(e:KH q->p:=by intro hK;refine kW ?_;refine ac (c8 1 D_ D_) rfl rfl rfl rfl rfl rfl rfl ?_;exact hK.out):p:=e ⟨h⟩
def PB{p:Prop}(e:p:=by have h1:=congrArg List.length hu2;have:=zQ (vs.map tx) (i+1);rw[L_]at hlen;rw[L_,L_,L_,List.map_take]at h1;omega):p:=e
def OT{p:Prop}(e:p:=by
 split at h
 ·rename_i e1 r1 h1;have a:=eU f _ _ _ hw hE h1;have hsub:=gv f _ _ _ _ h1;exact eU f _ _ _ a (fun t ht=>hE t (hsub t ht)) h
 ·exact eU f _ _ _ hw hE h):p:=e
def Uc{p q:Prop}(h:q)(e:KH q->p:=by intro hK;refine m4 15002 (m1:=(a::r).length) (m2:=1) ah D_ (by show((a::r).length+1)*32<=_;omega) rfl rfl rfl rfl rfl rfl rfl rfl rfl rfl rfl (.own rfl rfl) rfl rfl rfl ?_;exact hK.out):p:=e ⟨h⟩
def Dc{p:Prop}(e:p:=by injection this with this;injection this with this;injection this):p:=e
def Iz{p q:Prop}(h:q)(e:KH q->p:=by intro hK;refine gu (i:=2) underlying171 (by kernel_rfl) D_ rfl rfl rfl rfl rfl rfl ?_;exact hK.out):p:=e ⟨h⟩
def Ka{p q:Prop}(h:q)(e:KH q->p:=by intro hK;refine gu (i:=3) underlying171 (by kernel_rfl) D_ rfl rfl rfl rfl rfl rfl ?_;exact hK.out):p:=e ⟨h⟩
def Ju{p q:Prop}(h:q)(e:KH q->p:=by intro hK;refine gu (i:=4) underlying171 (by kernel_rfl) D_ rfl rfl rfl rfl rfl rfl ?_;exact hK.out):p:=e ⟨h⟩
def GI{p q:Prop}(h:q)(e:KH q->p:=by intro hK;refine gu (i:=5) underlying171 (by kernel_rfl) D_ rfl rfl rfl rfl rfl rfl ?_;exact hK.out):p:=e ⟨h⟩
def Ir{p q:Prop}(h:q)(e:KH q->p:=by intro hK;refine gu (i:=6) underlying171 (by kernel_rfl) D_ rfl rfl rfl rfl rfl rfl ?_;exact hK.out):p:=e ⟨h⟩
def GD{p q:Prop}(h:q)(e:KH q->p:=by intro hK;refine gu (i:=7) underlying171 (by kernel_rfl) D_ rfl rfl rfl rfl rfl rfl ?_;exact hK.out):p:=e ⟨h⟩
def Qe{p:Prop}(e:p:=by exact⟨(rest',mo',⟨k1,[],q0::qr,vs1,(-1)⟩),⟨hfold,by dsimp only;omega,by dsimp only;omega⟩,hm.1,weak ⟨rfl,rfl,rfl,rfl,rfl,rfl,rfl,trivial⟩ ⟨rfl,rfl,rfl,trivial⟩ rfl⟩):p:=e
def Qi{p:Prop}(e:p:=by exact⟨(rest',mo',⟨k1,[],q0::qr,vs1,sd1'⟩),⟨hfold,by dsimp only;omega,by dsimp only;omega⟩,hm.1,weak ⟨rfl,rfl,rfl,rfl,rfl,rfl,rfl,trivial⟩ ⟨rfl,rfl,rfl,trivial⟩ rfl⟩):p:=e
def Pk{p:Prop}(e:p:=by exact⟨(rest',mo',⟨k1,p0::pr,[],vs1,(-1)⟩),⟨hfold,by dsimp only;omega,by dsimp only;omega⟩,hm.1,weak ⟨rfl,rfl,rfl,rfl,rfl,rfl,rfl,trivial⟩ ⟨rfl,rfl,rfl,trivial⟩ rfl⟩):p:=e
def NX{p:Prop}(e:p:=by exact⟨(rest',mo',⟨k1,p0::pr,[],vs1,sd1'⟩),⟨hfold,by dsimp only;omega,by dsimp only;omega⟩,hm.1,weak ⟨rfl,rfl,rfl,rfl,rfl,rfl,rfl,trivial⟩ ⟨rfl,rfl,rfl,trivial⟩ rfl⟩):p:=e
def CZ{p q:Prop}(h:q)(e:KH q->p:=by intro hK;refine kO3 ?_;refine kC c2 ?_;refine kO2 ?_;exact hK.out):p:=e ⟨h⟩
def O8{p:Prop}(e:p:=by exact⟨(rest',mo',⟨k1,[],q0::qr,vs1,1⟩),⟨hfold,by dsimp only;omega,by dsimp only;omega⟩,hm.1,weak ⟨rfl,rfl,rfl,rfl,rfl,rfl,rfl,trivial⟩ ⟨rfl,rfl,rfl,trivial⟩ rfl⟩):p:=e
def Oi{p:Prop}(e:p:=by exact⟨(rest',mo',⟨k1,p0::pr,[],vs1,1⟩),⟨hfold,by dsimp only;omega,by dsimp only;omega⟩,hm.1,weak ⟨rfl,rfl,rfl,rfl,rfl,rfl,rfl,trivial⟩ ⟨rfl,rfl,rfl,trivial⟩ rfl⟩):p:=e
def N7{p q:Prop}(h:q)(e:KH q->p:=by intro hK;refine kW ?_;refine bw (fo 42 (4,[47],p0) r2 b a (by simp[bh])) rfl rfl rfl rfl rfl ⟨rfl,trivial⟩ rfl rfl rfl rfl ?_;refine kW ?_;refine kD (ej 47 p0 r2 b a) ?_;exact hK.out):p:=e ⟨h⟩
def OV{p q:Prop}(h:q)(e:KH q->p:=by intro hK;refine kW ?_;refine bw (fo 43 (4,[45],p0) r2 b a (by simp[bh])) rfl rfl rfl rfl rfl ⟨rfl,trivial⟩ rfl rfl rfl rfl ?_;refine kW ?_;refine kD (ej 45 p0 r2 b a) ?_;exact hK.out):p:=e ⟨h⟩
def Qa{p:Prop}(e:p:=by
 simp only[mF]at hk;split at hk
 ·rename_i hc;cases hk;subst hc;exact⟨_,rfl,rfl⟩
 ·split at hk
  ·rename_i hc;cases hk;subst hc;exact⟨_,rfl,rfl⟩
  ·cases hk):p:=e
def KE{p q:Prop}(h:q)(e:KH q->p:=by intro hK;show aa Tryz.prog _ [.agg ([.val (.int .i64 1)]++aQ v++[.val (vL u), .sl 0 []])] _;exact hK.out):p:=e ⟨h⟩
def NK{p:Prop}(e:p:=by exact⟨(rest',mo',⟨k1,[],[],vs1,(-1)⟩),⟨hfold,by dsimp only;omega,by dsimp only;omega⟩,hm.1,weak ⟨rfl,rfl,rfl,rfl,rfl,rfl,rfl,trivial⟩ ⟨rfl,rfl,trivial⟩ rfl⟩):p:=e
def O7{p:Prop}(e:p:=by exact⟨(rest',mo',⟨k1,[],[],vs1,sd1'⟩),⟨hfold,by dsimp only;omega,by dsimp only;omega⟩,hm.1,weak ⟨rfl,rfl,rfl,rfl,rfl,rfl,rfl,trivial⟩ ⟨rfl,rfl,trivial⟩ rfl⟩):p:=e
def O5{p:Prop}(e:p:=by exact⟨(rest',mo',⟨k1,[],[],vs1,1⟩),⟨hfold,by dsimp only;omega,by dsimp only;omega⟩,hm.1,weak ⟨rfl,rfl,rfl,rfl,rfl,rfl,rfl,trivial⟩ ⟨rfl,rfl,trivial⟩ rfl⟩):p:=e
def OK{p:Prop}(e:p:=by exact hR _ (au.trans (eA (i:=801) (off:=1) (j:=701) rfl rfl rfl rfl rfl) (au.trans (eA (i:=801) (off:=2) (j:=703) rfl rfl rfl rfl rfl) kw))):p:=e
def NR{p q:Prop}(h:q)(e:KH q->p:=by intro hK;refine fR 702 (m1:=0) (m2:=1) ah D_ (by show(0+1)*8<=_;omega) rfl rfl rfl rfl rfl rfl rfl rfl rfl rfl (.nil rfl rfl) rfl rfl rfl rfl ?_;refine kW ?_;exact hK.out):p:=e ⟨h⟩
def PU{p q:Prop}(h:q)(e:KH q->p:=by intro hK;refine fR 704 (m1:=0) (m2:=1) ah D_ (by show(0+1)*8<=_;omega) rfl rfl rfl rfl rfl rfl rfl rfl rfl rfl (.nil rfl rfl) rfl rfl rfl rfl ?_;refine kW ?_;exact hK.out):p:=e ⟨h⟩
def PT{p q:Prop}(h:q)(e:KH q->p:=by intro hK;refine kV func7 ?_;refine kC ot ?_;refine kO4 ?_;exact hK.out):p:=e ⟨h⟩
def Jq{p q:Prop}(h:q)(e:KH q->p:=by intro hK;refine bU ah (l:=x::t) (i:=j+1) hc1 rfl rfl rfl rfl rfl rfl rfl rfl ?_;exact hK.out):p:=e ⟨h⟩
def KJ{p q:Prop}(h:q)(e:KH q->p:=by intro hK;refine aX ah dz func117 rfl rfl rfl rfl rfl iP ?_;refine kW ?_;exact hK.out):p:=e ⟨h⟩
def Kt{p q:Prop}(h:q)(e:KH q->p:=by intro hK;rw[show dR y= .agg (af o1 na1 xs1 nb1 ys1 nm1 n1 cs1) from congrArg DV.agg hA];exact hK.out):p:=e ⟨h⟩
def Tm{p q:Prop}(h:q)(e:KH q->p:=by
 intro hK;refine kO2 ?_;refine bW (v':= .int .i64 ((s.length:Nat))) rfl rfl rfl rfl ?_ ?_
 ·exact congrArg (Value.int .i64) (by rw[hB])
 refine kO2 ?_;exact hK.out):p:=e ⟨h⟩
def Gq{p q:Prop}(h:q)(e:KH q->p:=by
 intro hK;refine kG ?_;refine kO4 ?_;refine kB true ?_ ?_
 ·exact(by simp[hc])
 exact hK.out):p:=e ⟨h⟩
def PL{p:Prop}(e:p:=by
 simp only[mF]at h;split at h
 ·cases h;left;exact⟨by assumption,rfl⟩
 ·split at h
  ·cases h;right;exact⟨by assumption,rfl⟩
  ·cases h):p:=e
def Ov{p q:Prop}(h:q)(e:KH q->p:=by intro hK;unfold execOp;rw[ho];simp only[e1,bn hM hy2,Instr.indexAt,Instr.sureAddr,asIntOf,Y_,a_,run_underlying hu w,R_];exact hK.out):p:=e ⟨h⟩
def Ik{p q:Prop}(h:q)(e:KH q->p:=by intro hK;refine kV func219 ?_;refine kC t1 ?_;refine kO4 ?_;exact hK.out):p:=e ⟨h⟩
def Pg{p q:Prop}(h:q)(e:KH q->p:=by
 intro hK;refine bW (v':= .int .u64 ((k.natAbs:Nat))) rfl rfl rfl rfl ?_ ?_
 ·exact congrArg (Value.int .u64) (by rw[IntKind.wrap_u64,IntKind.wrap_u64];omega)
 exact hK.out):p:=e ⟨h⟩
def I5{p:Prop}(e:p:=by
 split at h
 ·cases h;exact fun t ht=>List.mem_cons_of_mem _ ht
 ·cases h):p:=e
def I2{p q:Prop}(h:q)(e:KH q->p:=by intro hK;refine bU ah (i:=n) (c:=s[n]) hx rfl rfl rfl rfl rfl rfl rfl rfl ?_;exact hK.out):p:=e ⟨h⟩
def DF{p q:Prop}(h:q)(e:KH q->p:=by intro hK;rw[n8,gC,if_neg (by show ¬4<least;omega)];exact hK.out):p:=e ⟨h⟩
def Qm{p q:Prop}(h:q)(e:KH q->p:=by
 intro hK;refine fX (T:=TT) rfl ?_ ?_
 ·exact(by rw[hl0];rfl)
 refine kW ?_;refine ac (sX (ab u) O_) rfl rfl rfl rfl rfl rfl rfl ?_;exact hK.out):p:=e ⟨h⟩
def PD{p q:Prop}(h:q)(e:KH q->p:=by intro hK;refine fR 702 (m1:=0) (m2:=1) ah D_ D_ rfl rfl rfl rfl rfl rfl rfl rfl rfl rfl (.nil rfl rfl) rfl rfl rfl rfl ?_;refine kW ?_;exact hK.out):p:=e ⟨h⟩
def Oz{p q:Prop}(h:q)(e:KH q->p:=by intro hK;refine fR 704 (m1:=0) (m2:=1) ah D_ D_ rfl rfl rfl rfl rfl rfl rfl rfl rfl rfl (.nil rfl rfl) rfl rfl rfl rfl ?_;refine kW ?_;exact hK.out):p:=e ⟨h⟩
def Pl{p q:Prop}(h:q)(e:KH q->p:=by intro hK;refine fR 706 (m1:=0) (m2:=1) ah D_ D_ rfl rfl rfl rfl rfl rfl rfl rfl rfl rfl (.nil rfl rfl) rfl rfl rfl rfl ?_;refine kW ?_;exact hK.out):p:=e ⟨h⟩
def Ox{p q:Prop}(h:q)(e:KH q->p:=by
 intro hK;refine kO ?_;refine bW (v':= .int .u64 ((k.natAbs:Nat))) rfl rfl rfl rfl ?_ ?_
 ·exact congrArg (Value.int .u64) (by rw[IntKind.wrap_u64];omega)
 exact hK.out):p:=e ⟨h⟩
def Qg{p q:Prop}(h:q)(e:KH q->p:=by intro hK;rw[show dR (.mk 3 false [] false [] [] [y])= .agg ([.val (.int .i64 3)]++pk++[.val (vL []), .sl 1 (aR y)]) from congrArg DV.agg (Gj y),hA];exact hK.out):p:=e ⟨h⟩
def N3{p q:Prop}(h:q)(e:KH q->p:=by intro hK;refine kW ?_;refine aS (i:=i) (cs':=[.val (.int .i64 q)]) hlt (bd hx) (Z_ 0) rfl rfl rfl rfl rfl rfl rfl rfl ?_;refine kO ?_;exact hK.out):p:=e ⟨h⟩
def OL{p q:Prop}(h:q)(e:KH q->p:=by intro hK;refine kJ ((n+1:Nat)) ?_;refine qW ah (i:=n+1) O_ rfl rfl rfl rfl rfl rfl rfl rfl ?_;refine kC c2 ?_;refine kG ?_;refine kO ?_;exact hK.out):p:=e ⟨h⟩
def Pj{p:Prop}(e:p:=by exact hR _ (au.trans (eA (i:=801) (off:=1) (j:=701) rfl rfl rfl rfl rfl) (au.trans (jw (i:=801) (off:=2) rfl rfl) kw))):p:=e
def Po{p:Prop}(e:p:=by exact hR _ (au.trans (jw (i:=801) (off:=1) rfl rfl) (au.trans (eA (i:=801) (off:=2) (j:=703) rfl rfl rfl rfl rfl) kw))):p:=e
def N0{p:Prop}(e:p:=by have a:=qu f _ _ _ _ hs (fun _ _ h=>by cases h) h1;exact qu f _ _ _ _ (hs.sub (gv f _ _ _ _ h1)) (fun _ _ h=>by cases h;exact a) h):p:=e
def OE{p q:Prop}(h:q)(e:KH q->p:=by intro hK;refine Aq (m:=(t::r).length) (i:=1) (q:=3) ah (by rw[ky];exact l_ _) S_ rfl rfl rfl rfl rfl rfl rfl rfl ?_;exact hK.out):p:=e ⟨h⟩
def PS{p q:Prop}(h:q)(e:KH q->p:=by intro hK;rw[show dE (.bin k a b)= .agg ([.val (.int .i64 k.code)]++pk++[.val (vL []), .sl 2 (aE a++aE b)]) from congrArg DV.agg (mS k a b)];exact hK.out):p:=e ⟨h⟩
def JQ{p q:Prop}(h:q)(e:KH q->p:=by intro hK;refine aX ah dz func163 rfl rfl rfl rfl rfl iP ?_;exact hK.out):p:=e ⟨h⟩
def Gw{p q:Prop}(h:q)(e:KH q->p:=by intro hK;refine aX ah dz func169 rfl rfl rfl rfl rfl ic ?_;exact hK.out):p:=e ⟨h⟩
def Pi{p q:Prop}(h:q)(e:KH q->p:=by intro hK;refine kD (jY (4,[c],p0) r2 a 0) ?_;refine kO ?_;refine G6 underlying166 underlying9 hl rfl rfl rfl rfl rfl rfl rfl ?_;exact hK.out):p:=e ⟨h⟩
def P7{p q:Prop}(h:q)(e:KH q->p:=by intro hK;refine kV func262 ?_;refine kQ (jz (h1.fit hk) (h2.fit hk) hg) ?_;refine kQ hs ?_;exact hK.out):p:=e ⟨h⟩
def PE{p:Prop}(e:p:=by
 congr 3;by_cases h0:i=0
 ·subst h0;rfl
 ·rw[if_neg h0,if_neg (by simp;exact⟨h0,fun e=>by rw[e]at hlt;simp at hlt⟩)]):p:=e
def NQ{p q:Prop}(h:q)(e:KH q->p:=by intro hK;refine kO5 ?_;refine ve ah (l:=s) (i:=i) (j:=i+m) O_ O_ rfl rfl rfl rfl rfl rfl rfl rfl rfl ?_;exact hK.out):p:=e ⟨h⟩
def Qb{p q:Prop}(h:q)(e:KH q->p:=by intro hK;refine kO5 ?_;refine ve ah (l:=s) (i:=i) (j:=i+q) O_ O_ rfl rfl rfl rfl rfl rfl rfl rfl rfl ?_;exact hK.out):p:=e ⟨h⟩
def OC{p q:Prop}(h:q)(e:KH q->p:=by intro hK;refine kO5 ?_;refine ve ah (l:=s) (i:=i) (j:=i+w) O_ O_ rfl rfl rfl rfl rfl rfl rfl rfl rfl ?_;exact hK.out):p:=e ⟨h⟩
def Qd{p q:Prop}(h:q)(e:KH q->p:=by intro hK;refine aS (i:=i) (cs':=af o2 na2 xs2 nb2 ys2 nm2 n2 cs2) hlt' hat' (Z_ 6) rfl rfl rfl rfl rfl rfl rfl rfl ?_;exact hK.out):p:=e ⟨h⟩
def Tp{p q:Prop}(h:q)(e:KH q->p:=by intro hK;rw[Nat.zero_mul,J_];show(jU t++ce r)[j]? =some a;rw[List.getElem?_append_left (G_.1 h).1];exact hK.out):p:=e ⟨h⟩
def Pv{p:Prop}(e:p:=by clear hs key d s1 mu su sg1 sg2 n1 n2;rw[hm1]at h3 ⊢;by_cases ha:a<0<;>simp only[ha,if_true,if_false]at h3 ⊢ <;>omega):p:=e
def Ou{p:Prop}(e:p:=by have a:=(iq f _ _ _ _ h1).2 (fun _ _ h=>by cases h);have b:=(iq f _ _ _ _ h).1;exact⟨by omega,fun _=>by omega⟩):p:=e
def OR{p:Prop}(e:p:=by exact((nP hb6).trans ((nP hb7).trans ((lF Hb7.out hs8 Ho8.out).trans (lF Hb8.out hs9 Ho9.out)))).from _):p:=e
def PQ{p q:Prop}(h:q)(e:KH q->p:=by intro hK;rw[show dE (.neg e)= .agg ([.val (.int .i64 3)]++pk++[.val (vL []), .sl 1 (aE e)]) from congrArg DV.agg (pK e),hA];exact hK.out):p:=e ⟨h⟩
def P6{p:Prop}(e:p:=by refine kY ?_;rw[ul hall hcj (fun h=>by unfold cM at h;omega)];exact co (T:=TT) rfl rfl):p:=e
def PX{p:Prop}(e:p:=by exact hR _ (au.trans (jw (i:=801) (off:=1) rfl rfl) (au.trans (jw (i:=801) (off:=2) rfl rfl) kw))):p:=e
def OO{p:Prop}(e:p:=by simp only[List.size_toArray,L_,U_,n_,Array.length_toList,hsl];omega):p:=e
def P0{p:Prop}(e:p:=by
 rcases List.eq_nil_or_concat l with h| ⟨l',c,h⟩
 ·subst h;simp at hl
 ·exact⟨l',c,by simpa using h⟩):p:=e
def Ke{p:Prop}(e:p:=by refine kW ?_;exact⟨⟨_,rfl,rfl⟩,⟨rfl,rfl,trivial⟩⟩):p:=e
def OU{p:Prop}(e:p:=by
 have hn':¬fn.name= "runtime.NumGoroutine" :=by simpa using hn
 simp[callFunc,Y_,hf,hn',hb]):p:=e
def Oe{p:Prop}(e:p:=by rw[K_ O_]at hn;exact congrArg (fun b=>RV.one (dB b)) (T_ hn).symm):p:=e
def PH{p:Prop}(e:p:=by rw[dl,e2];dsimp only[ey];rw[hZ (Nat.le_max_right f g) hg];exact hZ (Nat.le_max_left f g) hf):p:=e
def NT{p:Prop}(e:p:=by
 rcases Nat.eq_zero_or_pos (digs v).length with h|h
 ·have:=aU.1 h;omega
 ·exact h):p:=e
def OI{p:Prop}(e:p:=by
 rcases Nat.lt_or_ge b w1.heap.size with h'|h'
 ·exact h'
 ·simp[Array.getElem?_eq_none h']at hbk):p:=e
def Oc{p:Prop}(e:p:=by refine kY ?_;rw[<- hR,mV h1 h2 hq (.inl O_)];exact co (T:=TT) rfl rfl):p:=e
def Qk{p:Prop}(e:p:=by
 rcases h4 with⟨h5,h6⟩| ⟨h5,h6,h7⟩
 ·exact .inl ⟨by omega,h6⟩
 ·exact .inr ⟨by omega,h6,h7⟩):p:=e
def N9{p:Prop}(e:p:=by obtain⟨op,na,xs,nb,ys,nm,args⟩:=x;exact⟨op,na,xs,nb,ys,nm,args.length,gc args,rfl⟩):p:=e
def Oa{p:Prop}(e:p:=by refine kW ?_;refine bB ?_;exact hR _ (weak ⟨rfl,rfl,hfin,rfl,trivial⟩ ⟨rfl,trivial⟩ rfl)):p:=e
def Pm{p:Prop}(e:p:=by have h4:=Hb9.out;rw[e_,e_,<- Hpt.out,<- Hsn.out]at h4;exact h4):p:=e
def OF{p:Prop}(e:p:=by exact((HB.out.trans (hb6.mono hWs)).trans (hb7.mono O_)).trans (Hw8.out.trans Hw9.out)):p:=e
def DE{p:Prop}(e:p:=by
 refine kO4 ?_;by_cases hnm:nm=[]
 ·refine Ts ?_;by_cases hl:args.length=2
  ·exact KN
  ·refine kE ?_;obtain rfl:b=false:=by rw[hb,F_ hl,Bool.and_false]
   exact am
 ·refine QC ?_;exact Jt):p:=e
def AH{p:Prop}(e:p:=by
 refine kO ?_;refine l6 ?_;refine kW ?_;refine kC hno ?_;cases p
 ·exact am
 ·refine kO3 ?_;cases z
  ·refine Uj ?_;exact am
  ·refine U3 ?_;refine kC hcf ?_;cases A
   ·exact am
   ·exact am):p:=e
def Ap{p q:Prop}(h:q)(e:KH q->p:=by intro hK;refine Ah ?_;refine IM ?_;refine kW ?_;refine kC cq ?_;refine IM ?_;refine kO3 ?_;refine Pf ?_;exact hK.out):p:=e ⟨h⟩
def GL{p:Prop}(e:p:=by
 refine kE ?_;obtain rfl:b=false:=by rw[hb,F_ hl,Bool.and_false]
 exact am):p:=e
def PK{p:Prop}(e:p:=by
 refine kE ?_;obtain rfl:i=s.length:=O_;rw[List.drop_eq_nil_of_le (l_ _),dw]at h3;refine Re ?_;refine Tm ?_;cases acc with
 |nil=>refine T9 ?_;exact am
 |cons a r=>
  refine Uc ?_;have hV:ma R= .tup [.leaf (.sl ((a::r).length+1) ((ce (a::r)).take ((a::r).length*3)++jU (0,[],s.length))),dN .i64 0,dN .i64 0]:=by rw[<- h3,ma,pv,zE,L_];rfl
  refine Of ah rfl rfl rfl rfl (ep (q:=2) rfl rfl) ?_;rw[hV];exact am):p:=e
def s5{p q:Prop}(h:q)(e:KH q->p:=by intro hK;refine kO3 ?_;refine Pf ?_;exact hK.out):p:=e ⟨h⟩
def Hz{p:Prop}(e:p:=by
 refine l6 ?_;refine kG ?_;refine l6 ?_;refine kG ?_;refine l6 ?_;refine kG ?_;refine l6 ?_;refine kW ?_;refine kC cF ?_;cases F
 ·refine j9 ?_;exact Og
 ·refine kW ?_;refine kC cG ?_;refine j9 ?_;exact Og):p:=e
def JG{p q:Prop}(h:q)(e:KH q->p:=by intro hK;refine LO ?_;refine kD (cH t r2 a 0) ?_;refine tn ?_;refine kD (cH t r2 a 0) ?_;refine tn ?_;refine kZ cis ?_;refine kD (jY t r2 a 0) ?_;refine pD ?_;refine kZ cis2 ?_;exact hK.out):p:=e ⟨h⟩
def qG{p:Prop}(e:p:=by
 obtain rfl:b=false:=by rw[hb];rfl
 exact am):p:=e
def y6{p q:Prop}(h:q)(e:KH q->p:=by intro hK;refine kU func119 ?_;refine iY ?_;refine Lr ?_;refine pN ?_;refine kC c2 ?_;exact hK.out):p:=e ⟨h⟩
def nB{p q:Prop}(h:q)(e:KH q->p:=by intro hK;refine A7 ?_;refine kO2 ?_;exact hK.out):p:=e ⟨h⟩
def zY{p q:Prop}(h:q)(e:KH q->p:=by intro hK;refine kU func35 ?_;refine iY ?_;refine kC cT ?_;refine Nc ?_;exact hK.out):p:=e ⟨h⟩
def G2{p q:Prop}(h:q)(e:KH q->p:=by intro hK;refine kV func299 ?_;refine kC t2 ?_;refine R7 ?_;refine D8 ?_;refine kC d ?_;refine kG ?_;refine kO4 ?_;exact hK.out):p:=e ⟨h⟩
def Dn{p q:Prop}(h:q)(e:KH q->p:=by intro hK;refine kU func73 ?_;refine iY ?_;refine kQ c1 ?_;refine kD cf0 ?_;exact hK.out):p:=e ⟨h⟩
def tw{p q:Prop}(h:q)(e:KH q->p:=by intro hK;refine bH ?_;refine A7 ?_;refine kO ?_;exact hK.out):p:=e ⟨h⟩
def GC{p q:Prop}(h:q)(e:KH q->p:=by intro hK;refine kV func333 ?_;refine ac (j1 O_ h1) rfl rfl rfl rfl rfl rfl rfl ?_;refine kW ?_;exact hK.out):p:=e ⟨h⟩
def uX{p q:Prop}(h:q)(e:KH q->p:=by
 intro hK;refine iY ?_;refine kE ?_;iterate 6 refine kO ?_
 exact hK.out):p:=e ⟨h⟩
def rV{p:Prop}(e:p:=by refine kW ?_;refine kC c1 ?_;exact am):p:=e
def t8{p:Prop}(e:p:=by refine kO ?_;refine ox ?_;exact am):p:=e
def HH{p q:Prop}(h:q)(e:KH q->p:=by
 intro hK;refine kU func158 ?_;refine pi ?_;refine kB false ?_ ?_
 ·exact C4 ha0
 refine kO5 ?_;exact hK.out):p:=e ⟨h⟩
def OB{p:Prop}(e:p:=by
 iterate 2 refine kG ?_
 refine kO ?_;refine kE ?_;refine MI ?_;refine kO ?_;refine JF (i:=i) (Pt O_ hi) underlying73 gE O_ rfl rfl rfl rfl rfl rfl ?_;exact am):p:=e
def P5{p:Prop}(e:p:=by
 refine pi ?_;refine aS (i:=0) (cs':=jU t) (Z_ _) (fun j a h=>by refine Tp ?_;exact h) (Z_ 2) rfl rfl rfl rfl rfl rfl rfl rfl ?_
 exact fE):p:=e
def Ow{p:Prop}(e:p:=by refine kE ?_;rw[List.drop_eq_nil_of_le O_,lU]at h2;have hdd:d=lU args:=O_;rw[pZ,<- hdd];refine Re ?_;refine kO ?_;refine kJ ((d+1:Nat)) ?_;exact am):p:=e
def Pr{p q:Prop}(h:q)(e:KH q->p:=by intro hK;refine Dy ?_;refine IM ?_;refine PY ?_;refine kT ?_;refine kO4 ?_;refine kJ ((i+n+1:Nat)) ?_;refine kC c2 ?_;refine kO ?_;refine kJ ((i+n+1:Nat)) ?_;exact hK.out):p:=e ⟨h⟩
def Jv{p q:Prop}(h:q)(e:KH q->p:=by
 intro hK;refine Q8 ?_;refine kC cB ?_;iterate 8 refine kO ?_
 refine Il ?_;refine kC cE ?_;exact hK.out):p:=e ⟨h⟩
def CT{p q:Prop}(h:q)(e:KH q->p:=by intro hK;refine iY ?_;refine R9 ?_;refine kQ c ?_;exact hK.out):p:=e ⟨h⟩
def Ki{p q:Prop}(h:q)(e:KH q->p:=by intro hK;refine aX ah dz func85 rfl rfl rfl rfl rfl xq ?_;refine iY ?_;exact hK.out):p:=e ⟨h⟩
def NJ{p q:Prop}(h:q)(e:KH q->p:=by intro hK;refine kO3 ?_;refine m4 13002 (m1:=0) (m2:=1) ah D_ D_ rfl rfl rfl rfl rfl rfl rfl rfl rfl rfl rfl (.nil rfl rfl) rfl rfl rfl ?_;exact hK.out):p:=e ⟨h⟩
def IH{p:Prop}(e:p:=by
 refine kO4 ?_;refine kB false ?_ ?_
 ·exact F_ he
 exact fE):p:=e
def GS{p q:Prop}(h:q)(e:KH q->p:=by intro hK;refine kV func155 ?_;refine kC (lf (na:=na) hw c1) ?_;exact hK.out):p:=e ⟨h⟩
def Ps{p:Prop}(e:p:=by refine kG ?_;refine Uw ?_;generalize hz:w.take (w.length-k)++[46]++w.drop (w.length-k)=z;have hzB:=an z;refine kG ?_;refine S5 ?_;exact am):p:=e
def HQ{p q:Prop}(h:q)(e:KH q->p:=by intro hK;refine kV func173 ?_;refine kC (mK (na:=na) hw c1) ?_;exact hK.out):p:=e ⟨h⟩
def O1{p q:Prop}(h:q)(e:KH q->p:=by
 intro hK;refine kU func264 ?_;refine yu ?_;refine kG ?_;refine kO4 ?_;refine kB false ?_ ?_
 ·exact(by simpa using hn)
 refine kW ?_;refine kC c ?_;exact hK.out):p:=e ⟨h⟩
def PR{p q:Prop}(h:q)(e:KH q->p:=by intro hK;refine Ko ?_;refine iY ?_;refine Hi ?_;refine kQ cd ?_;refine kZ (jY t (u::r) a 0) ?_;refine kD (cH u r a 0) ?_;exact hK.out):p:=e ⟨h⟩
def O2{p:Prop}(e:p:=by
 refine Rl ?_;refine Bw ?_;refine kD (bu t (u::r4) b a 0) ?_;iterate 2 refine kG ?_
 refine kO2 ?_;refine Oy ?_;refine S8 ?_;exact fE):p:=e
def JE{p q:Prop}(h:q)(e:KH q->p:=by intro hK;refine aj rfl rfl rfl rfl rfl rfl rfl (cx (a:=[]) (b:=[]) rfl) ?_;exact hK.out):p:=e ⟨h⟩
def Pn{p q:Prop}(h:q)(e:KH q->p:=by
 intro hK;refine kU func70 ?_;refine pi ?_;refine Uu ?_;refine kB false ?_ ?_
 ·exact(by simp[e3])
 iterate 6 refine kO ?_
 refine kC cs ?_;exact hK.out):p:=e ⟨h⟩
def Kb{p q:Prop}(h:q)(e:KH q->p:=by intro hK;refine ac (j1 O_ h2) rfl rfl rfl rfl rfl rfl rfl ?_;exact hK.out):p:=e ⟨h⟩
def Pu{p q:Prop}(h:q)(e:KH q->p:=by intro hK;refine Um ?_;refine ac (bK (F_ (show ¬(num b:Int)=1 by omega))) rfl rfl rfl rfl rfl rfl rfl ?_;refine kW ?_;exact hK.out):p:=e ⟨h⟩
def Om{p q:Prop}(h:q)(e:KH q->p:=by intro hK;refine kJ ((i+n:Nat)) ?_;refine ve ah (l:=s) (i:=i) (j:=i+n) O_ O_ rfl rfl rfl rfl rfl rfl rfl rfl rfl ?_;exact hK.out):p:=e ⟨h⟩
def DX{p:Prop}(e:p:=by refine kW ?_;refine kC Am ?_;exact am):p:=e
def PI{p q:Prop}(h:q)(e:KH q->p:=by intro hK;refine kX ?_;refine aS (i:=i) (cs':=[.val (vL t)]) hlt hat (Z_ 0) rfl rfl rfl rfl rfl rfl rfl rfl ?_;exact hK.out):p:=e ⟨h⟩
def EE{p:Prop}(e:p:=by refine sY ?_;exact co (T:=TT) rfl rfl):p:=e
def Pw{p:Prop}(e:p:=by
 by_cases hi:i<xs.length
 ·exact hall i O_
 ·rw[List.getElem?_eq_none O_,List.getElem?_eq_none O_]):p:=e
def Dq{p:Prop}(e:p:=by refine Bw ?_;refine kD cy ?_;exact fE):p:=e
def Oo{p:Prop}(e:p:=by refine kW ?_;refine ac (qk sn (sp.mono O_) O_ hp0 hq) rfl rfl rfl rfl rfl rfl rfl ?_;exact am):p:=e
def Jw{p:Prop}(e:p:=by
 iterate 2 refine kG ?_
 refine kO ?_;refine kT ?_;exact am):p:=e
def NP{p:Prop}(e:p:=by refine kW ?_;refine ac (mh 0 D_ D_ e.symm) rfl rfl rfl rfl rfl rfl rfl ?_;exact am):p:=e
def OM{p:Prop}(e:p:=by
 split at h
 ·rename_i e1 r1 h1;exact fun t ht=>gv f _ _ _ _ h1 t (gv f _ _ _ _ h t ht)
 ·exact jK):p:=e
def J7{p:Prop}(e:p:=by exact congrArg Value.bool (decide_eq_decide.2 O_)):p:=e
def NM{p:Prop}(e:p:=by subst hw;refine kJ ((w:Nat)) ?_;rw[if_neg O_,if_pos ⟨rfl,h⟩]at h3;refine kT ?_;rw[<- h3];exact am):p:=e
def PJ{p:Prop}(e:p:=by refine aX ah dz func121 rfl rfl rfl rfl rfl ic ?_;refine iY ?_;refine SN ?_;exact fE):p:=e
def I6{p:Prop}(e:p:=by
 refine kB false ?_ ?_
 ·exact(by simp[h])
 exact am):p:=e
def Jy{p:Prop}(e:p:=by refine pN ?_;refine kC c2 ?_;refine kE ?_;exact am):p:=e
def Qh{p:Prop}(e:p:=by refine aX ah dz func78 rfl rfl rfl rfl rfl ic ?_;refine iY ?_;refine SN ?_;exact fE):p:=e
def Un{p:Prop}(e:p:=by have e10:¬c.toNat=10:=dU hc;refine kE ?_;rw[if_pos rfl]at h3;refine IM ?_;rw[<- h3];exact am):p:=e
def OS{p:Prop}(e:p:=by refine Kh ?_;refine kW ?_;refine kZ (ej 45 p0 r2 b a) ?_;refine kD cy ?_;exact fE):p:=e
def Ol{p:Prop}(e:p:=by refine JU ?_;refine Bw ?_;refine kZ (jY t r2 a 0) ?_;refine kD cy ?_;exact fE):p:=e
def NO{p:Prop}(e:p:=by refine PT ?_;refine kE ?_;refine pN ?_;refine kQ c2 ?_;refine kC c3 ?_;exact am):p:=e
def Ob{p:Prop}(e:p:=by refine LO ?_;refine kD (cH t (u::r4) a 0) ?_;refine Aa ?_;refine kD cy ?_;exact fE):p:=e
def OW{p:Prop}(e:p:=by
 rw[hdrop,dw,if_pos hsp]at h3;by_cases c32:c=32
 ·have e32:c.toNat=32:=by rw[c32];rfl
  exact SK
 ·have e32:¬c.toNat=32:=dU c32;have e9:c.toNat=9:=by rw[hsp.resolve_left c32];rfl
  refine kE ?_;refine s5 ?_;exact SK):p:=e
def Ah{p q:Prop}(h:q)(e:KH q->p:=by intro hK;refine kJ ((0:Nat)) ?_;refine Oy ?_;refine Vm ?_;exact hK.out):p:=e ⟨h⟩
def Ot{p q:Prop}(h:q)(e:KH q->p:=by intro hK;refine kE ?_;refine s5 ?_;refine Oy ?_;refine qW ah (i:=i) O_ rfl rfl rfl rfl rfl rfl rfl rfl ?_;refine kC cn ?_;refine kG ?_;refine kO ?_;exact hK.out):p:=e ⟨h⟩
def KN{p:Prop}(e:p:=by
 refine kT ?_;obtain rfl:b=true:=by rw[hb];simp[hnm,hl]
 exact am):p:=e
def OY{p:Prop}(e:p:=by
 by_cases hl:args.length=0
 ·refine kT ?_;obtain rfl:b=true:=by rw[hb];simp[hl]
  exact am
 ·exact GL):p:=e
def Jt{p:Prop}(e:p:=by
 obtain rfl:b=false:=by rw[hb];simp[hnm]
 exact am):p:=e
def NZ{p:Prop}(e:p:=by subst hw hm hq;refine Ap ?_;rw[hs]at cs;refine kC cs ?_;refine IM ?_;refine s5 ?_;exact Un):p:=e
end
end Go.Proofs.YtnchbpoopnjghaaGreatDoor
