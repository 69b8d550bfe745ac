/- Tactic texts that stand more than once. -/
import Derived.Test.YtnchbpoopnjghaaGreatDoorDK
import Derived.KernelRfl
import Derived.IntWalk
import Derived.Laws.BytesArg
import Derived.Laws.Strings2
import Derived.Laws.IdiomStrings
import Derived.Lib.Bytealg
import Derived.Shelf.Strconv.AppendUint10
import Derived.Maps.OwnIn
import Derived.RangeFuncCalls
import Derived.LaidMore
import Derived.Lay
import Derived.Stop.Joined
import Derived.SevenTiedAt
import Derived.Lib.AtoiErrMem
import Derived.Shelf.Vars
import Derived.Lib.AppendStr
import Derived.MapKept
import Derived.Defers
import Derived.ChangeMaps5
import Derived.Lib.Split
import Derived.Lib.Join
import Derived.Lib.IndexLaws
import Derived.Lib.AtoiAll
import Derived.Sort.Walk0
import Derived.Lib.RowBridge
import Derived.Laws.MakeOwn
import Derived.Lib.SplitLaws
import Derived.Lib.AppendZerosOnto
import Derived.Lib.Overlaps
import Derived.HandedShaped
import Derived.LaidLaws
set_option maxHeartbeats 100000000
set_option linter.all false
namespace Go.Proofs.YtnchbpoopnjghaaGreatDoor
open Go.RowKit
section
open Go.ChangeShapes Go.WideShapes Go.ChangeAt Go.RowKit Go.Joins
open Go.RowKit Go.Shelf
open Go.Shelf Go.RowKit Go.Sort Go.Lib
open Go.Shelf Go.RowKit
open Go.RowKit Go.Joins
open Go.RowKit Go.Sort Go.Lib
open Go.RowKit Go.Lib
theorem am {p:Prop} (e:p:=by
 exact kF):p:=e
theorem GK {p q:Prop} (h:q) (e:KH q->p:=by
 intro hK
 refine kW ?_;refine Oq ?_;refine kW ?_;refine M3 ?_;refine kW ?_
 exact hK.out):p:=e ⟨h⟩
theorem Tp {p q:Prop} (h:q) (e:KH q->p:=by
 intro hK
 refine kW ?_;refine Oq ?_
 exact hK.out):p:=e ⟨h⟩
theorem PB {p q:Prop} (h:q) (e:KH q->p:=by
 intro hK
 refine kW ?_;refine MK ?_;refine kW ?_;refine eT 5002 (m1:=1) (m2:=1) ah (by decide) (by decide) rfl rfl rfl rfl rfl rfl rfl rfl rfl rfl rfl (.own rfl rfl) rfl rfl rfl ?_;refine kW ?_
 exact hK.out):p:=e ⟨h⟩
theorem gI {p q:Prop} (h:q) (e:KH q->p:=by
 intro hK
 refine kR ?_;refine kI ?_;refine kO ?_
 exact hK.out):p:=e ⟨h⟩
theorem fO {p q:Prop} (h:q) (e:KH q->p:=by
 intro hK
 refine kW ?_;refine bP (T:=TT) rfl ?_
 exact hK.out):p:=e ⟨h⟩
theorem jt {p:Prop} (e:p:=by
 refine kW ?_;exact⟨⟨_,rfl,rfl⟩,⟨rfl,trivial⟩⟩):p:=e
theorem Tr {p q:Prop} (h:q) (e:KH q->p:=by
 intro hK
 refine kW ?_;refine MK ?_
 exact hK.out):p:=e ⟨h⟩
theorem Uj {p q:Prop} (h:q) (e:KH q->p:=by
 intro hK
 refine M3 ?_;refine kW ?_
 exact hK.out):p:=e ⟨h⟩
theorem Ud {p:Prop} (e:p:=by
 refine kT ?_;refine kN ?_;refine bu (T:=TT) ?_;refine dP (T:=TT) rfl ?_;refine dX ?_
 repeat(first|refine bu (T:=TT) ?_|refine bO (T:=TT) ?_)
 refine bc (T:=TT) rfl ?_
 refine kO2 ?_
 refine kJ ((i+j:Nat)) ?_;refine bM (v':= .int .u64 ((i+j:Nat))) rfl rfl rfl rfl ?_ ?_
 ·exact congrArg (Value.int .u64) (by show IntKind.u64.wrap ((i+j:Nat):Int)=_;rw[IntWalk.u64_in _ (by omega)])
 refine bM (v':= .int .u64 (((i+j)/2:Nat))) rfl rfl rfl rfl ?_ ?_
 ·exact congrArg (Value.int .u64) (by show Int.fdiv ((i+j:Nat):Int) 2=_;rw[Int.fdiv_eq_ediv_of_nonneg _ (by decide)];rfl)
 refine bM (v':= .int .i64 (((i+j)/2:Nat))) rfl rfl rfl rfl ?_ ?_
 ·exact congrArg (Value.int .i64) (by show IntKind.i64.wrap (((i+j)/2:Nat):Int)=_;rw[IntWalk.i64_in _ (by omega)])
 have hm:(i+j)/2<l.length:=by omega
 refine Exists.elim (Exists.intro _ rfl:∃m,(i+j)/2=m) fun m hme=>?_
 rw[hme]at hm ⊢;have hx:l[m]? =some l[m]:=by simp[hm]
 refine kN ?_;refine kI ?_
 refine kO2 ?_
 refine aH (i:=m) (cs':=[.val (vL l[m].1)]) hm (Np hx) (by simp) rfl rfl rfl rfl rfl rfl rfl rfl ?_
 refine kO2 ?_
 refine kC (Kc l[m].1 s) ?_;refine kN ?_;cases hb2:Op.bytesLess l[m].1 s
 ·refine kW ?_
  have hpm:p<=m:=by
   rcases Nat.lt_or_ge m p with h|h
   ·have:=hp2 m _ h hx;rw[hb2]at this;cases this
   ·exact h
  exact⟨(i,m),⟨h1,hpm,by dsimp only;omega⟩,by dsimp only;omega,weak ⟨rfl,rfl,rfl,rfl,rfl,rfl,rfl,trivial⟩ trivial rfl⟩
 ·refine kW ?_
  have hmp:m<p:=by
   rcases Nat.lt_or_ge m p with h|h
   ·exact h
   ·have:=hp3 m _ h hx;rw[hb2]at this;cases this
  exact⟨(m+1,j),⟨hmp,h2,h3⟩,by dsimp only;omega,weak ⟨rfl,rfl,rfl,rfl,rfl,aA (by omega) (by omega),rfl,trivial⟩ trivial rfl⟩):p:=e
theorem KP {p q:Prop} (h:q) (e:KH q->p:=by
 intro hK
 refine kI ?_;refine kT ?_;refine NF ?_;refine kW ?_;refine Of ?_
 refine kO4 ?_
 refine me ((c2.rd (ts:=[.d (.agg (eF p.1 o1 na1 xs1 nb1 ys1 nm1 n1 cs1)), .own 6001 (List.cons a r).length 1 9]) (b:=[(6001,aJ (List.cons a r))]) rfl rfl)) rfl rfl rfl rfl rfl ⟨rfl,trivial⟩ rfl rfl rfl rfl ?_
 exact hK.out):p:=e ⟨h⟩
theorem rS {p q:Prop} (h:q) (e:KH q->p:=by
 intro hK
 refine kW ?_;refine MD ?_
 exact hK.out):p:=e ⟨h⟩
theorem gG {p q:Prop} (h:q) (e:KH q->p:=by
 intro hK
 refine kW ?_;refine kQ (c1) ?_
 exact hK.out):p:=e ⟨h⟩
theorem Ev {p q:Prop} (h:q) (e:KH q->p:=by
 intro hK
 refine NF ?_;refine kW ?_
 exact hK.out):p:=e ⟨h⟩
theorem Rq {p q:Prop} (h:q) (e:KH q->p:=by
 intro hK
 refine kW ?_;refine Mu ?_
 exact hK.out):p:=e ⟨h⟩
theorem L9 {p q:Prop} (h:q) (e:KH q->p:=by
 intro hK
 refine C2 ?_;refine bQ ⟨[(1, .d (il l)),(2, .d (jA l)),(3, .box 0 0),(6, .box 1 0),(7, .d (dN .i64 0)),(12, .nil),(72, .d (.leaf (.sl 2 (ab o1 na1 xs1 nb1 ys1 nm1 n1 cs1++ab o2 na2 xs2 nb2 ys2 nm2 n2 cs2)))),(73, .d (dN .i64 2)),(74, .d (dN .i64 0))],[(0,some ([.val (.int .i64 (B4.add).code)]++jq++[.val (vL []), .sl 2 (ab o1 na1 xs1 nb1 ys1 nm1 n1 cs1++ab o2 na2 xs2 nb2 ys2 nm2 n2 cs2)])),(1,some gU)]⟩ kw ?_
 exact hK.out):p:=e ⟨h⟩
theorem Ka {p q:Prop} (h:q) (e:KH q->p:=by
 intro hK
 refine C2 ?_;refine bQ ⟨[(1, .d (il l)),(2, .d (jA l)),(3, .box 0 0),(6, .box 1 0),(7, .d (dN .i64 0)),(12, .nil),(72, .d (.leaf (.sl 2 (ab o1 na1 xs1 nb1 ys1 nm1 n1 cs1++ab o2 na2 xs2 nb2 ys2 nm2 n2 cs2)))),(73, .d (dN .i64 2)),(74, .d (dN .i64 0))],[(0,some ([.val (.int .i64 (B4.div).code)]++jq++[.val (vL []), .sl 2 (ab o1 na1 xs1 nb1 ys1 nm1 n1 cs1++ab o2 na2 xs2 nb2 ys2 nm2 n2 cs2)])),(1,some gU)]⟩ kw ?_
 exact hK.out):p:=e ⟨h⟩
theorem LM {p q:Prop} (h:q) (e:KH q->p:=by
 intro hK
 refine C2 ?_;refine bQ ⟨[(1, .d (il l)),(2, .d (jA l)),(3, .box 0 0),(6, .box 1 0),(7, .d (dN .i64 0)),(12, .nil),(72, .d (.leaf (.sl 2 (ab o1 na1 xs1 nb1 ys1 nm1 n1 cs1++ab o2 na2 xs2 nb2 ys2 nm2 n2 cs2)))),(73, .d (dN .i64 2)),(74, .d (dN .i64 0))],[(0,some ([.val (.int .i64 (B4.mul).code)]++jq++[.val (vL []), .sl 2 (ab o1 na1 xs1 nb1 ys1 nm1 n1 cs1++ab o2 na2 xs2 nb2 ys2 nm2 n2 cs2)])),(1,some gU)]⟩ kw ?_
 exact hK.out):p:=e ⟨h⟩
theorem PC {p q:Prop} (h:q) (e:KH q->p:=by
 intro hK
 refine C2 ?_;refine bQ ⟨[(1, .d (il l)),(2, .d (jA l)),(3, .box 0 0),(6, .box 1 0),(7, .d (dN .i64 0)),(12, .nil),(72, .d (.leaf (.sl 2 (ab o1 na1 xs1 nb1 ys1 nm1 n1 cs1++ab o2 na2 xs2 nb2 ys2 nm2 n2 cs2)))),(73, .d (dN .i64 2)),(74, .d (dN .i64 0))],[(0,some ([.val (.int .i64 (B4.sub).code)]++jq++[.val (vL []), .sl 2 (ab o1 na1 xs1 nb1 ys1 nm1 n1 cs1++ab o2 na2 xs2 nb2 ys2 nm2 n2 cs2)])),(1,some gU)]⟩ kw ?_
 exact hK.out):p:=e ⟨h⟩
theorem QN {p:Prop} (e:p:=by
 rintro j ⟨hj,hall⟩;refine kW ?_;refine g7 rfl (fun h=>?_) (fun h=>?_)
 ·have hlt:j<xs.length:=by have:=of_decide_eq_true h;omega
  have hlt':j<ys.length:=by omega
  refine kW ?_;refine aH (cs':=[AV.val (bH xs[j])]) hlt (Cv (by simp[hlt])) (Nat.lt_succ_self 0) rfl rfl rfl rfl rfl rfl rfl rfl ?_;refine kW ?_;refine aH (cs':=[AV.val (bH ys[j])]) hlt' (Cv (by simp[hlt'])) (Nat.lt_succ_self 0) rfl rfl rfl rfl rfl rfl rfl rfl ?_;refine kW ?_;refine g7 rfl (fun h2=>?_) (fun h2=>?_)
  ·refine kW ?_
   have hne:xs[j]≠ys[j]:=fun e=>by rw[e]at h2;simp at h2
   rw[yC (fun e=>hne (by subst e;rfl))];exact bP (T:=TT) rfl rfl
  ·have heq:xs[j]=ys[j]:=by simp at h2;omega
   refine kW ?_;refine⟨j+1,⟨hlt,fun i hi=>?_⟩,by omega,weak ⟨rfl,rfl,?_,trivial⟩ ⟨rfl,rfl,trivial⟩ rfl⟩
   ·rcases Nat.lt_succ_iff_lt_or_eq.1 hi with h3|rfl
    ·exact hall i h3
    ·rw[List.getElem?_eq_getElem hlt,List.getElem?_eq_getElem hlt',heq]
   ·exact aA (by omega) (by omega)
 ·have hge:j=xs.length:=by have:=of_decide_eq_false h;omega
  refine gY ?_;refine kW ?_
  have he:xs=ys:=by
   apply List.ext_getElem? fun i=>?_
   by_cases hi:i<xs.length
   ·exact hall i (by omega)
   ·rw[List.getElem?_eq_none (by omega),List.getElem?_eq_none (by omega)]
  rw[kb he];exact bP (T:=TT) rfl rfl):p:=e
theorem fP {p q:Prop} (h:q) (e:KH q->p:=by
 intro hK
 refine kR ?_;refine kI ?_
 refine kO4 ?_
 exact hK.out):p:=e ⟨h⟩
theorem Sl {p q:Prop} (h:q) (e:KH q->p:=by
 intro hK
 refine kW ?_;refine l4 (i:=0) (by decide) rfl rfl rfl rfl rfl rfl rfl rfl rfl ?_
 refine kO2 ?_
 refine l4 (i:=1) (by decide) rfl rfl rfl rfl rfl rfl rfl rfl rfl ?_;refine kO ?_
 exact hK.out):p:=e ⟨h⟩
theorem SE {p:Prop} (e:p:=by
 refine Nq ?_;rw[<- htx]at h3
 refine kO3 ?_
 refine eT 13002 (m1:=(a::r).length) (m2:=1) ah (by decide) (by show((a::r).length+1)*32<=_;omega) rfl rfl rfl rfl rfl rfl rfl rfl rfl rfl rfl (.own rfl rfl) rfl rfl rfl ?_;refine kW ?_
 exact⟨(i+n,(a::r)++[(k,(s.take (i+n)).drop i,i)]),⟨by dsimp only;omega,by rw[List.length_append];dsimp only[List.length_cons,List.length_nil]at h2 ⊢;omega,f,by dsimp only;omega,h3⟩,by dsimp only;omega,by
  exact Eq.mpr (congrArg (aU _) (Cc s (a::r) (k,(s.take (i+n)).drop i,i) (i+n))) (aU.trans (b:=⟨[(0, .d (dL s)),(2, .nil),(3, .d (dN .i64 0)),(4, .d (dN .i64 0)),(5, .own 13002 ((a::r).length+1) 3 118),(6, .d (dN .i64 ((i+n:Nat))))],[(13002,some ((f9 (a::r)).take ((a::r).length*3)++A2 (k,(s.take (i+n)).drop i,i)))]⟩) (weak ⟨rfl,rfl,rfl,rfl,rfl,aA (by omega) (by omega),trivial⟩ ⟨rfl,trivial⟩ rfl) ((aT (q:=5) (j:=13002) (j':=13001) (m:=(a::r).length+1) (k:=3) (e:=118) (cs:=(f9 (a::r)).take ((a::r).length*3)++A2 (k,(s.take (i+n)).drop i,i)) rfl rfl rfl rfl).trans kw))⟩):p:=e
theorem RU {p:Prop} (e:p:=by
 refine Nq ?_;rw[<- htx]at h3
 refine kO3 ?_
 refine eT 13002 (m1:=0) (m2:=1) ah (by decide) (by decide) rfl rfl rfl rfl rfl rfl rfl rfl rfl rfl rfl (.nil rfl rfl) rfl rfl rfl ?_;refine kW ?_
 exact⟨(i+n,[]++[(k,(s.take (i+n)).drop i,i)]),⟨by dsimp only;omega,by simp;omega,f,by dsimp only;omega,h3⟩,by dsimp only;omega,by
  exact Eq.mpr (congrArg (aU _) (Cc s ([]:List Tk) (k,(s.take (i+n)).drop i,i) (i+n))) (aU.trans (b:=⟨[(0, .d (dL s)),(2, .nil),(3, .d (dN .i64 0)),(4, .d (dN .i64 0)),(5, .own 13002 (([]:List Tk).length+1) 3 118),(6, .d (dN .i64 ((i+n:Nat))))],[(13002,some ((f9 ([]:List Tk)).take (([]:List Tk).length*3)++A2 (k,(s.take (i+n)).drop i,i)))]⟩) (weak ⟨rfl,rfl,rfl,rfl,rfl,aA (by omega) (by omega),trivial⟩ ⟨rfl,trivial⟩ rfl) ((aT (q:=5) (j:=13002) (j':=13001) (m:=([]:List Tk).length+1) (k:=3) (e:=118) (cs:=(f9 ([]:List Tk)).take (([]:List Tk).length*3)++A2 (k,(s.take (i+n)).drop i,i)) rfl rfl rfl rfl).trans kw))⟩):p:=e
theorem S2 {p q:Prop} (h:q) (e:KH q->p:=by
 intro hK
 refine kO4 ?_
 refine kJ ((w.length-k:Nat)) ?_;refine Mq ah (l:=w) (i:=w.length-k) (by omega) rfl rfl rfl rfl rfl rfl rfl rfl ?_;refine aD rfl rfl rfl rfl rfl rfl rfl (db (a:=w.take (w.length-k)) (b:=[46]) (by simp;omega)) ?_
 refine kO4 ?_
 refine kJ ((w.length-k:Nat)) ?_;refine yU ah (l:=w) (i:=w.length-k) (by omega) rfl rfl rfl rfl rfl rfl rfl rfl ?_;refine aD rfl rfl rfl rfl rfl rfl rfl (db (a:=w.take (w.length-k)++[46]) (b:=w.drop (w.length-k)) (by simp;omega)) ?_
 exact hK.out):p:=e ⟨h⟩
theorem tH {p q:Prop} (h:q) (e:KH q->p:=by
 intro hK
 refine kB false ?_ ?_
 ·exact(by simp;omega)
 exact hK.out):p:=e ⟨h⟩
theorem SU {p q:Prop} (h:q) (e:KH q->p:=by
 intro hK
 refine kW ?_;refine ae (rN (h.1.fit (by omega)) (h'.2.fit (by omega)) hgz) rfl rfl rfl rfl rfl rfl rfl ?_;refine kW ?_;refine ae (rN (h'.1.fit (by omega)) (h.2.fit (by omega)) htz) rfl rfl rfl rfl rfl rfl rfl ?_;refine kW ?_;refine ae (kr (h.1.fit (by omega)) (sg.fit (by omega)) (by omega) (qk _ _)) rfl rfl rfl rfl rfl rfl rfl ?_;refine kW ?_;refine ae (kr (h'.1.fit (by omega)) (st.fit (by omega)) (by omega) (qk _ _)) rfl rfl rfl rfl rfl rfl rfl ?_;refine kW ?_;refine ae (jh (s1.fit (by omega)) (s2.fit (by omega))) rfl rfl rfl rfl rfl rfl rfl ?_;refine kW ?_;refine ae (kr (h.2.fit (by omega)) (st.fit (by omega)) (by omega) (Cu _ _)) rfl rfl rfl rfl rfl rfl rfl ?_;refine kW ?_
 refine ae (kr (h'.2.fit (by omega)) (sg.fit (by omega)) (by omega) (Cu _ _)) rfl rfl rfl rfl rfl rfl rfl ?_;refine kW ?_;refine ae (jh (s3.fit (by omega)) (s4.fit (by omega))) rfl rfl rfl rfl rfl rfl rfl ?_
 exact hK.out):p:=e ⟨h⟩
theorem Pt {p q:Prop} (h:q) (e:KH q->p:=by
 intro hK
 refine bQ ⟨[(1, .d (il l)),(2, .d (jA l)),(3, .box 0 0),(6, .box 1 0),(7, .d (dN .i64 0)),(12, .own 5001 1 5 92),(72, .d (.leaf (.sl 2 (ab o1 na1 xs1 nb1 ys1 nm1 n1 cs1++ab o2 na2 xs2 nb2 ys2 nm2 n2 cs2)))),(73, .d (dN .i64 2)),(74, .d (dN .i64 1))],[(0,some ([.val (.int .i64 (B4.add).code)]++jq++[.val (vL []), .sl 2 (ab o1 na1 xs1 nb1 ys1 nm1 n1 cs1++ab o2 na2 xs2 nb2 ys2 nm2 n2 cs2)])),(1,some gU),(5001,some (lN x.1 x.2))]⟩ kw ?_
 exact hK.out):p:=e ⟨h⟩
theorem PD {p q:Prop} (h:q) (e:KH q->p:=by
 intro hK
 refine bQ ⟨[(1, .d (il l)),(2, .d (jA l)),(3, .box 0 0),(6, .box 1 0),(7, .d (dN .i64 0)),(12, .own 5001 1 5 92),(72, .d (.leaf (.sl 2 (ab o1 na1 xs1 nb1 ys1 nm1 n1 cs1++ab o2 na2 xs2 nb2 ys2 nm2 n2 cs2)))),(73, .d (dN .i64 2)),(74, .d (dN .i64 1))],[(0,some ([.val (.int .i64 (B4.div).code)]++jq++[.val (vL []), .sl 2 (ab o1 na1 xs1 nb1 ys1 nm1 n1 cs1++ab o2 na2 xs2 nb2 ys2 nm2 n2 cs2)])),(1,some gU),(5001,some (lN x.1 x.2))]⟩ kw ?_
 exact hK.out):p:=e ⟨h⟩
theorem P0 {p q:Prop} (h:q) (e:KH q->p:=by
 intro hK
 refine bQ ⟨[(1, .d (il l)),(2, .d (jA l)),(3, .box 0 0),(6, .box 1 0),(7, .d (dN .i64 0)),(12, .own 5001 1 5 92),(72, .d (.leaf (.sl 2 (ab o1 na1 xs1 nb1 ys1 nm1 n1 cs1++ab o2 na2 xs2 nb2 ys2 nm2 n2 cs2)))),(73, .d (dN .i64 2)),(74, .d (dN .i64 1))],[(0,some ([.val (.int .i64 (B4.mul).code)]++jq++[.val (vL []), .sl 2 (ab o1 na1 xs1 nb1 ys1 nm1 n1 cs1++ab o2 na2 xs2 nb2 ys2 nm2 n2 cs2)])),(1,some gU),(5001,some (lN x.1 x.2))]⟩ kw ?_
 exact hK.out):p:=e ⟨h⟩
theorem Rw {p q:Prop} (h:q) (e:KH q->p:=by
 intro hK
 refine bQ ⟨[(1, .d (il l)),(2, .d (jA l)),(3, .box 0 0),(6, .box 1 0),(7, .d (dN .i64 0)),(12, .own 5001 1 5 92),(72, .d (.leaf (.sl 2 (ab o1 na1 xs1 nb1 ys1 nm1 n1 cs1++ab o2 na2 xs2 nb2 ys2 nm2 n2 cs2)))),(73, .d (dN .i64 2)),(74, .d (dN .i64 1))],[(0,some ([.val (.int .i64 (B4.sub).code)]++jq++[.val (vL []), .sl 2 (ab o1 na1 xs1 nb1 ys1 nm1 n1 cs1++ab o2 na2 xs2 nb2 ys2 nm2 n2 cs2)])),(1,some gU),(5001,some (lN x.1 x.2))]⟩ kw ?_
 exact hK.out):p:=e ⟨h⟩
theorem tq {p q:Prop} (h:q) (e:KH q->p:=by
 intro hK
 refine kN ?_;refine bu (T:=TT) ?_;refine dD (T:=TT) rfl ?_;refine gY ?_
 exact hK.out):p:=e ⟨h⟩
theorem O3 {p q:Prop} (h:q) (e:KH q->p:=by
 intro hK
 repeat(first|refine bu (T:=TT) ?_|refine bO (T:=TT) ?_)
 refine bc (T:=TT) rfl ?_
 exact hK.out):p:=e ⟨h⟩
theorem pA {p q:Prop} (h:q) (e:KH q->p:=by
 intro hK
 refine kB true ?_ ?_
 ·exact(by simp;omega)
 exact hK.out):p:=e ⟨h⟩
theorem gF {p q:Prop} (h:q) (e:KH q->p:=by
 intro hK
 refine kV func87 ?_
 exact hK.out):p:=e ⟨h⟩
theorem SZ {p:Prop} (e:p:=by
 refine kW ?_;refine l4 (i:=i) hlt rfl rfl rfl rfl rfl rfl rfl rfl rfl ?_;refine Bx hat rfl rfl rfl rfl rfl rfl rfl rfl rfl ?_;refine kO ?_;refine bM (v':= .int .i64 (b)) rfl rfl rfl rfl ?_ ?_
 ·exact congrArg (Value.int .i64) (by rw[IntWalk.i64_in _ (by omega)])
 refine bM (v':= .int .i64 (z+b)) rfl rfl rfl rfl ?_ ?_
 ·exact congrArg (Value.int .i64) (by rw[IntWalk.i64_in _ (by omega)])
 refine aD rfl rfl rfl rfl rfl rfl rfl (mJ (b:=8) (by decide)) ?_;refine l4 (i:=i) hlt rfl rfl rfl rfl rfl rfl rfl rfl rfl ?_;refine xf hlen hput rfl rfl rfl rfl rfl rfl rfl rfl rfl rfl ?_;refine kW ?_;exact⟨i+1,hlt,by omega,weak ⟨rfl,rfl,rfl,rfl,aA (by omega) (by omega),trivial⟩ ⟨rfl,rfl,rfl,rfl,trivial⟩ rfl⟩):p:=e
theorem tw {p q:Prop} (h:q) (e:KH q->p:=by
 intro hK
 refine kW ?_;refine ji (T:=TT) rfl ?_ ?_
 ·exact decide_eq_false (by omega)
 exact hK.out):p:=e ⟨h⟩
theorem Pc {p q:Prop} (h:q) (e:KH q->p:=by
 intro hK
 refine aM ah cX func229 rfl rfl rfl rfl rfl (fQ) ?_;refine kW ?_;refine kD (cZ t r2 a 0) ?_;refine kO ?_;refine kY ?_;refine kD (cZ t r2 a 0) ?_;refine kO ?_;refine kY ?_;refine kZ (cis) ?_;refine kZ (jm t r2 a 0) ?_;refine kZ (cy) ?_;refine kZ (cis2) ?_
 exact hK.out):p:=e ⟨h⟩
theorem Af {p q:Prop} (h:q) (e:KH q->p:=by
 intro hK
 refine kO ?_;refine kY ?_
 exact hK.out):p:=e ⟨h⟩
theorem vn {p q:Prop} (h:q) (e:KH q->p:=by
 intro hK
 refine kN ?_;refine kI ?_;refine kO ?_;refine kB true ?_ ?_
 ·exact(by simpa using hz)
 exact hK.out):p:=e ⟨h⟩
theorem zE {p q:Prop} (h:q) (e:KH q->p:=by
 intro hK
 refine bu ?_;refine bc rfl ?_
 exact hK.out):p:=e ⟨h⟩
theorem Jo {p q:Prop} (h:q) (e:KH q->p:=by
 intro hK
 refine kW ?_;refine kC (rG) ?_
 refine kO3 ?_
 refine aD rfl rfl rfl rfl rfl rfl rfl (bv (a:=[]) (b:=[]) rfl) ?_;refine kW ?_;refine kC (c) ?_
 exact hK.out):p:=e ⟨h⟩
theorem OQ {p q:Prop} (h:q) (e:KH q->p:=by
 intro hK
 refine kO2 ?_
 refine kY ?_
 exact hK.out):p:=e ⟨h⟩
theorem Su {p q:Prop} (h:q) (e:KH q->p:=by
 intro hK
 refine kW ?_;refine ae (de (h.1.fit (by omega)) (h'.2.fit (by omega))) rfl rfl rfl rfl rfl rfl rfl ?_;refine kW ?_;refine ae (de (h'.1.fit (by omega)) (h.2.fit (by omega))) rfl rfl rfl rfl rfl rfl rfl ?_;refine kW ?_;refine ae (nE ((h.1.mul h'.2).fit (by omega)) ((h'.1.mul h.2).fit (by omega))) rfl rfl rfl rfl rfl rfl rfl ?_;refine kW ?_;refine ae (de (h.2.fit (by omega)) (h'.2.fit (by omega))) rfl rfl rfl rfl rfl rfl rfl ?_;refine kW ?_;refine ae (fE (k:=j+k+1) ((h.1.mul h'.2).add ((h'.1.mul h.2).mono (by omega))) ((h.2.mul h'.2).mono (by omega)) hk d0 (sA a b)) rfl rfl rfl rfl rfl rfl rfl ?_
 exact hK.out):p:=e ⟨h⟩
theorem Sg {p q:Prop} (h:q) (e:KH q->p:=by
 intro hK
 refine GX ?_;refine HO ?_;refine kW ?_;refine ae (ct (decide_eq_false (show ¬(num b:Int)=0 by omega))) rfl rfl rfl rfl rfl rfl rfl ?_;refine kW ?_
 exact hK.out):p:=e ⟨h⟩
theorem OO {p q:Prop} (h:q) (e:KH q->p:=by
 intro hK
 refine kC (cl) ?_;refine kO ?_;refine kB false ?_ ?_
 ·exact decide_eq_false (by show ¬((4:Nat):Int)<_;omega)
 refine kW ?_
 exact hK.out):p:=e ⟨h⟩
theorem J2 {p q:Prop} (h:q) (e:KH q->p:=by
 intro hK
 refine kO3 ?_
 refine aD rfl rfl rfl rfl rfl rfl rfl (b7 (a:=nx) (b:=[]) h0) ?_
 refine kO4 ?_
 refine aD rfl rfl rfl rfl rfl rfl rfl (T2 (a:=p.1) (b:=nx) hls) ?_;refine kW ?_
 exact hK.out):p:=e ⟨h⟩
theorem ST {p q:Prop} (h:q) (e:KH q->p:=by
 intro hK
 refine kX ?_;refine Jh ah (show i<=c by omega) rfl rfl rfl rfl rfl rfl rfl rfl rfl ?_
 refine kO2 ?_
 refine kJ ((m+1:Nat)) ?_;refine kO ?_;refine kJ ((m+1-i:Nat)) ?_;refine Iw 1003 ah (m1:=i) (m2:=m+1-i) (m3:=m+1) (p:=0) (cs:=cs) (by omega) (by omega) (by rw[Nat.zero_add];omega) (eL (nu hB _) _) (hby _ (by omega)) (by omega) (by omega) rfl rfl rfl rfl rfl rfl rfl rfl rfl rfl underlying3 rfl rfl rfl rfl rfl rfl ?_;refine kW ?_;refine kv ah (show i<m+1 by omega) rfl rfl rfl rfl rfl rfl rfl rfl rfl ?_;refine kO ?_
 exact hK.out):p:=e ⟨h⟩
theorem xp {p q:Prop} (h:q) (e:KH q->p:=by
 intro hK
 refine kN ?_;refine kI ?_;refine kO ?_
 exact hK.out):p:=e ⟨h⟩
theorem QZ {p q:Prop} (h:q) (e:KH q->p:=by
 intro hK
 refine kV func133 ?_;refine rC 2 ?_;refine bQ ⟨[(1, .d (il l)),(2, .d (jA l)),(3, .box 0 0),(6, .box 1 0),(7, .d (dN .i64 0)),(12, .nil),(72, .d (.leaf (.sl 1 (ab o1 na1 xs1 nb1 ys1 nm1 n1 cs1)))),(73, .d (dN .i64 1)),(74, .d (dN .i64 0))],[(0,some ([.val (.int .i64 3)]++jq++[.val (vL []), .sl 1 (ab o1 na1 xs1 nb1 ys1 nm1 n1 cs1)])),(1,some gU)]⟩ kw ?_;refine N1 ?_;refine kW ?_;refine kC (ih) ?_
 exact hK.out):p:=e ⟨h⟩
theorem zx {p q:Prop} (h:q) (e:KH q->p:=by
 intro hK
 refine aD rfl rfl rfl rfl rfl rfl rfl (mf (a:=s) (b:=[]) hne) ?_
 refine kO3 ?_
 exact hK.out):p:=e ⟨h⟩
theorem S9 {p:Prop} (e:p:=by
 intro k
 induction k with
 |zero=>intro _;exact⟨[],rfl,fun i r h=>by simp at h⟩
 |succ k ihk=>
  intro hk;obtain⟨rows,h1,h2⟩:=ihk (by omega);obtain⟨r,us,h3,h4,h5⟩:=hrow k (by omega);refine⟨rows++[r],by simp[h1],fun i q hq=>?_⟩
  by_cases hi:i<rows.length
  ·rw[List.getElem?_append_left hi]at hq;exact h2 i q hq
  ·have hil:=(List.getElem?_eq_some_iff.1 hq).1
   simp at hil
   have:i=k:=by omega
   subst this;rw[List.getElem?_append_right (by omega),h1,Nat.sub_self]at hq
   simp at hq
   subst hq;exact⟨us,h3,h4,h5⟩):p:=e
theorem zQ {p q:Prop} (h:q) (e:KH q->p:=by
 intro hK
 refine kO3 ?_
 refine kY ?_
 exact hK.out):p:=e ⟨h⟩
theorem TN {p q:Prop} (h:q) (e:KH q->p:=by
 intro hK
 refine aD rfl rfl rfl rfl rfl rfl rfl (bv (a:=nm) (b:=[]) (of_decide_eq_true hz)) ?_;refine kW ?_
 exact hK.out):p:=e ⟨h⟩
theorem Er {p q:Prop} (h:q) (e:KH q->p:=by
 intro hK
 refine bc rfl ?_
 refine kO2 ?_
 exact hK.out):p:=e ⟨h⟩
theorem tC {p q:Prop} (h:q) (e:KH q->p:=by
 intro hK
 refine kR ?_;refine kI ?_
 refine kO2 ?_
 exact hK.out):p:=e ⟨h⟩
theorem Hf {p q:Prop} (h:q) (e:KH q->p:=by
 intro hK
 refine kW ?_;refine kZ (cis) ?_
 exact hK.out):p:=e ⟨h⟩
theorem TP {p:Prop} (e:p:=by
 by_cases hi:i<xs.length
 ·exact hall i (by omega)
 ·rw[List.getElem?_eq_none (by omega),List.getElem?_eq_none (by omega)]):p:=e
theorem K8 {p q:Prop} (h:q) (e:KH q->p:=by
 intro hK
 refine kO3 ?_
 refine kT ?_
 refine kO3 ?_
 exact hK.out):p:=e ⟨h⟩
theorem SK {p q:Prop} (h:q) (e:KH q->p:=by
 intro hK
 refine N1 ?_;refine kW ?_
 exact hK.out):p:=e ⟨h⟩
theorem PN {p q:Prop} (h:q) (e:KH q->p:=by
 intro hK
 refine aM ah cX func229 rfl rfl rfl rfl rfl (fQ) ?_;refine kW ?_
 exact hK.out):p:=e ⟨h⟩
theorem mR {p:Prop} (e:p:=by
 rename_i hn;exact absurd h (hn e r)):p:=e
theorem Pl {p q:Prop} (h:q) (e:KH q->p:=by
 intro hK
 refine kV func17 ?_;refine kQ (cS) ?_;refine kQ (cA) ?_
 exact hK.out):p:=e ⟨h⟩
theorem RL {p q:Prop} (h:q) (e:KH q->p:=by
 intro hK
 refine bQ ⟨[(1, .d (il l)),(2, .d (jA l)),(3, .box 0 0),(6, .box 1 0),(7, .d (dN .i64 0)),(12, .own 5002 2 5 92),(72, .d (.leaf (.sl 2 (ab o1 na1 xs1 nb1 ys1 nm1 n1 cs1++ab o2 na2 xs2 nb2 ys2 nm2 n2 cs2)))),(73, .d (dN .i64 2)),(74, .d (dN .i64 2))],[(0,some ([.val (.int .i64 (B4.add).code)]++jq++[.val (vL []), .sl 2 (ab o1 na1 xs1 nb1 ys1 nm1 n1 cs1++ab o2 na2 xs2 nb2 ys2 nm2 n2 cs2)])),(1,some gU),(5002,some (lN x.1 x.2++lN y.1 y.2))]⟩ kw ?_
 exact hK.out):p:=e ⟨h⟩
theorem S6 {p q:Prop} (h:q) (e:KH q->p:=by
 intro hK
 refine bQ ⟨[(1, .d (il l)),(2, .d (jA l)),(3, .box 0 0),(6, .box 1 0),(7, .d (dN .i64 0)),(12, .own 5002 2 5 92),(72, .d (.leaf (.sl 2 (ab o1 na1 xs1 nb1 ys1 nm1 n1 cs1++ab o2 na2 xs2 nb2 ys2 nm2 n2 cs2)))),(73, .d (dN .i64 2)),(74, .d (dN .i64 2))],[(0,some ([.val (.int .i64 (B4.div).code)]++jq++[.val (vL []), .sl 2 (ab o1 na1 xs1 nb1 ys1 nm1 n1 cs1++ab o2 na2 xs2 nb2 ys2 nm2 n2 cs2)])),(1,some gU),(5002,some (lN x.1 x.2++lN y.1 y.2))]⟩ kw ?_
 exact hK.out):p:=e ⟨h⟩
theorem QT {p q:Prop} (h:q) (e:KH q->p:=by
 intro hK
 refine bQ ⟨[(1, .d (il l)),(2, .d (jA l)),(3, .box 0 0),(6, .box 1 0),(7, .d (dN .i64 0)),(12, .own 5002 2 5 92),(72, .d (.leaf (.sl 2 (ab o1 na1 xs1 nb1 ys1 nm1 n1 cs1++ab o2 na2 xs2 nb2 ys2 nm2 n2 cs2)))),(73, .d (dN .i64 2)),(74, .d (dN .i64 2))],[(0,some ([.val (.int .i64 (B4.mul).code)]++jq++[.val (vL []), .sl 2 (ab o1 na1 xs1 nb1 ys1 nm1 n1 cs1++ab o2 na2 xs2 nb2 ys2 nm2 n2 cs2)])),(1,some gU),(5002,some (lN x.1 x.2++lN y.1 y.2))]⟩ kw ?_
 exact hK.out):p:=e ⟨h⟩
theorem TY {p q:Prop} (h:q) (e:KH q->p:=by
 intro hK
 refine bQ ⟨[(1, .d (il l)),(2, .d (jA l)),(3, .box 0 0),(6, .box 1 0),(7, .d (dN .i64 0)),(12, .own 5002 2 5 92),(72, .d (.leaf (.sl 2 (ab o1 na1 xs1 nb1 ys1 nm1 n1 cs1++ab o2 na2 xs2 nb2 ys2 nm2 n2 cs2)))),(73, .d (dN .i64 2)),(74, .d (dN .i64 2))],[(0,some ([.val (.int .i64 (B4.sub).code)]++jq++[.val (vL []), .sl 2 (ab o1 na1 xs1 nb1 ys1 nm1 n1 cs1++ab o2 na2 xs2 nb2 ys2 nm2 n2 cs2)])),(1,some gU),(5002,some (lN x.1 x.2++lN y.1 y.2))]⟩ kw ?_
 exact hK.out):p:=e ⟨h⟩
theorem Em {p q:Prop} (h:q) (e:KH q->p:=by
 intro hK
 refine kO ?_;refine kX ?_
 exact hK.out):p:=e ⟨h⟩
theorem SH {p q:Prop} (h:q) (e:KH q->p:=by
 intro hK
 refine aD rfl rfl rfl rfl rfl rfl rfl (b7 (a:=nm) (b:=[]) (of_decide_eq_false hz)) ?_
 exact hK.out):p:=e ⟨h⟩
theorem PQ {p:Prop} (e:p:=by
 exact congrArg (Value.int .i64) (by rw[IntWalk.i64_in _ (by omega)])):p:=e
theorem TC {p:Prop} (e:p:=by
 rw[hb]at c;refine kZ (c) ?_;refine⟨i+1,?_,by omega,weak ⟨rfl,rfl,rfl,rfl,aA (by omega) (by omega),trivial⟩ ⟨rfl,trivial⟩ rfl⟩
 by_cases e:i=f
 ·have:=hyi e;rw[hb]at this;cases this
 ·omega):p:=e
theorem Pd {p q:Prop} (h:q) (e:KH q->p:=by
 intro hK
 refine gx ah (i:=0) (c:=c) rfl rfl rfl rfl rfl rfl rfl rfl rfl ?_
 exact hK.out):p:=e ⟨h⟩
theorem zZ {p q:Prop} (h:q) (e:KH q->p:=by
 intro hK
 refine gx ah (i:=i) (c:=c) hx rfl rfl rfl rfl rfl rfl rfl rfl ?_
 exact hK.out):p:=e ⟨h⟩
theorem RR {p:Prop} (e:p:=by
 refine Jg ah rfl rfl rfl rfl rfl rfl rfl rfl rfl ?_;refine kW ?_;refine fo (T:=TT) rfl ?_ ?_
 ·exact decide_eq_true rfl
 refine kW ?_;refine Fx 1003 (m1:=i) (m2:=1) (cs2:=x) ah (by decide) (hby _ (by omega)) (by rw[hx];exact Nat.le_refl _) rfl rfl rfl rfl rfl rfl rfl rfl rfl (.own rfl rfl) rfl rfl rfl ?_ rfl ?_
 ·rw[eL hX];rfl
 refine kW ?_;exact⟨⟨_,rfl,rfl,rfl⟩,⟨congrArg some hfin,trivial⟩⟩):p:=e
theorem L5 {p q:Prop} (h:q) (e:KH q->p:=by
 intro hK
 refine kJ ((i+1:Nat)) ?_;refine sd ah (show i+1<=m+1 by omega) (show i+1<c by omega) rfl rfl rfl rfl rfl rfl rfl rfl rfl ?_
 exact hK.out):p:=e ⟨h⟩
theorem yF {p q:Prop} (h:q) (e:KH q->p:=by
 intro hK
 refine kT ?_
 refine kO2 ?_
 refine kE ?_
 exact hK.out):p:=e ⟨h⟩
theorem Ec {p q:Prop} (h:q) (e:KH q->p:=by
 intro hK
 iterate 2 refine kG ?_
 refine kO ?_;refine kE ?_
 refine kO2 ?_
 exact hK.out):p:=e ⟨h⟩
theorem yu {p:Prop} (e:p:=by
 refine kW ?_;exact .inl ⟨⟨_,rfl,rfl⟩,⟨rfl,rfl,trivial⟩⟩):p:=e
theorem LB {p q:Prop} (h:q) (e:KH q->p:=by
 intro hK
 rw[pU,if_neg (by decide),if_neg (by decide),if_neg (by decide),if_pos (by decide),decide_eq_false hl,Bool.and_false,Bool.false_and]
 exact hK.out):p:=e ⟨h⟩
theorem Pv {p q:Prop} (h:q) (e:KH q->p:=by
 intro hK
 refine kW ?_;refine ae (bg (neg:=false) (xs:=digs u) (ac _) (show bC false (digs u)=((Nat.gcd (val xs) (val ys):Nat):Int) by rw[wX,<- hg];rfl)) rfl rfl rfl rfl rfl rfl rfl ?_
 exact hK.out):p:=e ⟨h⟩
theorem K9 {p q:Prop} (h:q) (e:KH q->p:=by
 intro hK
 refine kB true ?_ ?_
 ·exact(by simp[e1])
 refine kO5 ?_
 exact hK.out):p:=e ⟨h⟩
theorem EA {p q:Prop} (h:q) (e:KH q->p:=by
 intro hK
 show aa Tryz.prog _ [.agg (ab op na xs nb ys nm args.length (d7 args))] _
 exact hK.out):p:=e ⟨h⟩
theorem RQ {p q:Prop} (h:q) (e:KH q->p:=by
 intro hK
 refine aD rfl rfl rfl rfl rfl rfl rfl (bv (a:=nm) (b:=[]) hnm) ?_
 refine kO5 ?_
 exact hK.out):p:=e ⟨h⟩
theorem Rh {p q:Prop} (h:q) (e:KH q->p:=by
 intro hK
 refine O5 underlying166 underlying9 rfl rfl rfl rfl rfl ⟨rfl,rfl,rfl⟩ rfl rfl rfl rfl ?_;refine kW ?_;refine kD (h) ?_
 exact hK.out):p:=e ⟨h⟩
theorem DO {p q:Prop} (h:q) (e:KH q->p:=by
 intro hK
 refine kW ?_;refine kC (f6) ?_
 exact hK.out):p:=e ⟨h⟩
theorem P5 {p q:Prop} (h:q) (e:KH q->p:=by
 intro hK
 refine kO3 ?_
 refine aH (i:=i) (cs':=[.val (vL l[i].1)]) hil (Np hx) (by simp) rfl rfl rfl rfl rfl rfl rfl rfl ?_
 exact hK.out):p:=e ⟨h⟩
theorem PY {p q:Prop} (h:q) (e:KH q->p:=by
 intro hK
 refine aD rfl rfl rfl rfl rfl rfl rfl (b7 (a:=nm) (b:=[]) hnm) ?_
 exact hK.out):p:=e ⟨h⟩
theorem vJ {p q:Prop} (h:q) (e:KH q->p:=by
 intro hK
 refine kN ?_;refine kI ?_
 refine kO3 ?_
 exact hK.out):p:=e ⟨h⟩
theorem Q4 {p q:Prop} (h:q) (e:KH q->p:=by
 intro hK
 refine bc (T:=TT) rfl ?_;refine q9 711 ah rfl rfl rfl rfl rfl rfl rfl rfl ?_
 refine kO2 ?_
 refine Ia 701 (m:=(p0::pr).length) ah (Nat.zero_lt_succ _) (by show(p0::pr).length*8<=_;omega) (by rw[mh,Nat.mul_one]) rfl rfl rfl rfl rfl rfl rfl rfl rfl rfl rfl rfl rfl (by show(_ && bz (dr _) && _)=true;rw[tT];rfl) rfl ?_
 exact hK.out):p:=e ⟨h⟩
theorem Sd {p:Prop} (e:p:=by
 refine q9 713 ah rfl rfl rfl rfl rfl rfl rfl rfl ?_
 refine kO2 ?_
 refine Ia 703 (m:=(q0::qr).length) ah (Nat.zero_lt_succ _) (by show(q0::qr).length*8<=_;omega) (by rw[mh,Nat.mul_one]) rfl rfl rfl rfl rfl rfl rfl rfl rfl rfl rfl rfl rfl (by show(_ && bz (dr _) && _)=true;rw[tT];rfl) rfl ?_;refine kW ?_;exact hR _ kw):p:=e
theorem Ku {p q:Prop} (h:q) (e:KH q->p:=by
 intro hK
 refine aH (i:=i) (cs':=[.val (.int .i64 z)]) hlt (bn hz) (Nat.zero_lt_succ 0) rfl rfl rfl rfl rfl rfl rfl rfl ?_
 exact hK.out):p:=e ⟨h⟩
theorem Qd {p:Prop} (e:p:=by
 funext q
 apply propext
 constructor
 ·rintro(h1|h1)
  ·exact h1.1
  ·exact bxown q h1
 ·intro h1
  by_cases h2:BX g b q
  ·exact .inr h2
  ·exact .inl ⟨h1,h2⟩):p:=e
theorem TR {p q:Prop} (h:q) (e:KH q->p:=by
 intro hK
 refine kQ (cT) ?_;refine kZ (cs) ?_;refine kD (cn) ?_;refine kO ?_
 exact hK.out):p:=e ⟨h⟩
theorem Lc {p q:Prop} (h:q) (e:KH q->p:=by
 intro hK
 rw[pU,if_neg (by decide),if_neg (by decide),if_neg (by decide),if_pos (by decide),decide_eq_true hl,Bool.and_true]
 exact hK.out):p:=e ⟨h⟩
theorem Tf {p:Prop} (e:p:=by
 refine⟨lg K (fmt (pw q K).num),?_,fun u h=>?_⟩
 ·have:(fT q).isSome=decide ((lg K (fmt (pw q K).num)).length<=40):=by
   rw[h2]
   split
   ·rename_i h;simp[h]
   ·rename_i h;simp[h]
  rw[this];exact main _ _ (fun h=>by omega) (fun _=>⟨rfl,rfl⟩)
 ·rw[h2]at h
  split at h
  ·cases h;rfl
  ·cases h):p:=e
theorem SL {p q:Prop} (h:q) (e:KH q->p:=by
 intro hK
 unfold Sx;refine kI ?_;refine kX ?_;refine aH (i:=_) (cs':=[.val (vL nm)]) hil (iz hx) (Nat.zero_lt_succ 0) rfl rfl rfl rfl rfl rfl rfl rfl ?_;refine kW ?_;refine kC (cf) ?_;refine aH (i:=k) (cs':=eF p.1 o1 na1 xs1 nb1 ys1 nm1 n1 cs1) hkl hat (Nat.zero_lt_succ 7) rfl rfl rfl rfl rfl rfl rfl rfl ?_
 refine kO4 ?_
 exact hK.out):p:=e ⟨h⟩
theorem RA {p:Prop} (e:p:=by
 refine Dx ah rfl rfl rfl rfl rfl rfl rfl rfl ?_;refine kW ?_;refine Fx 1003 (m1:=0) (m2:=1) (cs2:=x) ah (by decide) (by decide) (by rw[hx];exact Nat.le_refl _) rfl rfl rfl rfl rfl rfl rfl rfl rfl (.nil rfl rfl) rfl rfl rfl ?_ rfl ?_
 ·rw[eL hB];rfl
 refine kW ?_;exact⟨⟨_,rfl,rfl,rfl⟩,⟨congrArg some hcs,trivial⟩⟩):p:=e
theorem GO {p q:Prop} (h:q) (e:KH q->p:=by
 intro hK
 refine kV func56 ?_;refine kQ (cE) ?_;refine kC (cL) ?_
 exact hK.out):p:=e ⟨h⟩
theorem RW {p q:Prop} (h:q) (e:KH q->p:=by
 intro hK
 refine kB false ?_ ?_
 ·exact(by simp[e1])
 refine kO5 ?_
 refine aD rfl rfl rfl rfl rfl rfl rfl (jJ (a:=nm) (b:=nm') e2) ?_
 iterate 8 refine kO ?_
 exact hK.out):p:=e ⟨h⟩
theorem SD {p:Prop} (e:p:=by
 refine kX ?_
 exact⟨(i+1,acc),⟨hlt,by dsimp only;omega,f,by dsimp only;omega,h3⟩,by dsimp only;omega,by
  cases acc
  ·exact weak ⟨rfl,rfl,rfl,rfl,rfl,aA (by omega) (by omega),trivial⟩ trivial rfl
  ·exact weak ⟨rfl,rfl,rfl,rfl,rfl,aA (by omega) (by omega),trivial⟩ ⟨rfl,trivial⟩ rfl⟩):p:=e
theorem pi {p q:Prop} (h:q) (e:KH q->p:=by
 intro hK
 refine kT ?_
 refine kO2 ?_
 refine kT ?_
 exact hK.out):p:=e ⟨h⟩
theorem N8 {p q:Prop} (h:q) (e:KH q->p:=by
 intro hK
 refine kW ?_;refine aH (i:=j) (cs':=[AV.val (.int .i64 xs[j])]) hlt (bn (by simp[hlt])) (Nat.lt_succ_self 0) rfl rfl rfl rfl rfl rfl rfl rfl ?_;refine kW ?_;refine aH (i:=j) (cs':=[AV.val (.int .i64 ys[j])]) hlt' (bn (by simp[hlt'])) (Nat.lt_succ_self 0) rfl rfl rfl rfl rfl rfl rfl rfl ?_;refine kO ?_
 exact hK.out):p:=e ⟨h⟩
theorem NG {p:Prop} (e:p:=by
 refine kB false ?_ ?_
 ·exact(by simp[he])
 refine kW ?_;refine⟨j+1,⟨hlt,fun i hi=>?_⟩,by omega,weak ⟨rfl,rfl,rfl,rfl,aA (by omega) (by omega),trivial⟩ trivial rfl⟩;exact M0):p:=e
theorem OA {p q:Prop} (h:q) (e:KH q->p:=by
 intro hK
 refine kC (d) ?_;refine kG ?_
 iterate 6 refine kO ?_
 refine kQ (s1) ?_;refine kC (mu) ?_;refine kQ (su) ?_;refine kC (sg1) ?_;refine kO ?_;refine kC (sg2) ?_;refine bM (v':= .int .i64 (w)) rfl rfl rfl rfl ?_ ?_
 ·exact congrArg (Value.int .i64) (by rw[hwe];exact IntWalk.i64_in _ (by omega))
 exact hK.out):p:=e ⟨h⟩
theorem Cd {p q:Prop} (h:q) (e:KH q->p:=by
 intro hK
 refine sd ah (show i<=m+1 by omega) (show i<c by omega) rfl rfl rfl rfl rfl rfl rfl rfl rfl ?_
 exact hK.out):p:=e ⟨h⟩
theorem Ib {p q:Prop} (h:q) (e:KH q->p:=by
 intro hK
 refine kW ?_;refine aH (i:=i) (cs':=eF p.1 o1 na1 xs1 nb1 ys1 nm1 n1 cs1) hil hat (Nat.zero_lt_succ 7) rfl rfl rfl rfl rfl rfl rfl rfl ?_;refine kW ?_
 exact hK.out):p:=e ⟨h⟩
theorem Mr {p q:Prop} (h:q) (e:KH q->p:=by
 intro hK
 refine kW ?_;refine ae (de (h.1.fit (by omega)) (h'.1.fit (by omega))) rfl rfl rfl rfl rfl rfl rfl ?_;refine kW ?_;refine ae (de (h.2.fit (by omega)) (h'.2.fit (by omega))) rfl rfl rfl rfl rfl rfl rfl ?_;refine kW ?_;refine kC (fE (h.1.mul h'.1) (h.2.mul h'.2) hk d0 (qG a b)) ?_
 exact hK.out):p:=e ⟨h⟩
theorem Q1 {p q:Prop} (h:q) (e:KH q->p:=by
 intro hK
 refine kO3 ?_
 refine bM (v':= .bool (decide (z.length<=40))) rfl rfl rfl rfl ?_ ?_
 ·exact congrArg Value.bool (decide_eq_decide.2 (by omega))
 exact hK.out):p:=e ⟨h⟩
theorem xW {p q:Prop} (h:q) (e:KH q->p:=by
 intro hK
 refine aD rfl rfl rfl rfl rfl rfl rfl (jJ (a:=[]) (b:=[]) rfl) ?_
 exact hK.out):p:=e ⟨h⟩
theorem tN {p q:Prop} (h:q) (e:KH q->p:=by
 intro hK
 refine kV func313 ?_;refine kC (Jt s) ?_
 exact hK.out):p:=e ⟨h⟩
theorem MH {p q:Prop} (h:q) (e:KH q->p:=by
 intro hK
 refine FE ?_;refine kW ?_;refine kQ (jD (na:=nb) hw' c2) ?_
 exact hK.out):p:=e ⟨h⟩
theorem yS {p q:Prop} (h:q) (e:KH q->p:=by
 intro hK
 refine kW ?_;refine kQ (n1) ?_;refine kC (n2) ?_
 exact hK.out):p:=e ⟨h⟩
theorem Oz {p q:Prop} (h:q) (e:KH q->p:=by
 intro hK
 refine Fj ?_;refine kW ?_;refine kQ (lQ (na:=nb) hw' c2) ?_
 exact hK.out):p:=e ⟨h⟩
theorem CA {p:Prop} (e:p:=by
 rw[bX,dh e5];rw[List.getElem?_take]at hi
 split at hi
 ·simpa using hi
 ·cases hi):p:=e
theorem Nl {p:Prop} (e:p:=by
 exact congrArg (fun b=>RV.one (dB b)) (by rw[<- hb];rfl)):p:=e
theorem Ov {p q:Prop} (h:q) (e:KH q->p:=by
 intro hK
 refine kI ?_;refine kO ?_;refine kT ?_;refine kG ?_;refine kO ?_;refine aD rfl rfl rfl rfl rfl rfl rfl hrem ?_;refine kW ?_;refine ae (mul i j (by omega) (by omega)) rfl rfl rfl rfl rfl rfl rfl ?_;refine kG ?_;refine kO ?_;refine aD rfl rfl rfl rfl rfl rfl rfl hquo ?_;refine kG ?_
 exact hK.out):p:=e ⟨h⟩
theorem qE {p q:Prop} (h:q) (e:KH q->p:=by
 intro hK
 refine kR ?_;refine kI ?_
 refine kO3 ?_
 exact hK.out):p:=e ⟨h⟩
theorem Gs {p q:Prop} (h:q) (e:KH q->p:=by
 intro hK
 refine kW ?_;refine aH (i:=i) (cs':=[.val (vL q)]) hlt (iz hx) (Nat.zero_lt_succ 0) rfl rfl rfl rfl rfl rfl rfl rfl ?_;refine kO ?_
 exact hK.out):p:=e ⟨h⟩
theorem Dg {p q:Prop} (h:q) (e:KH q->p:=by
 intro hK
 refine fV (i:=1) underlying171 (by kernel_rfl) (by decide) rfl rfl rfl rfl rfl rfl ?_
 exact hK.out):p:=e ⟨h⟩
theorem MV {p q:Prop} (h:q) (e:KH q->p:=by
 intro hK
 refine kG ?_
 refine kO3 ?_
 refine kJ ((i+1:Nat)) ?_;refine kv ah (show i+1<m+1 by omega) rfl rfl rfl rfl rfl rfl rfl rfl rfl ?_
 refine kO2 ?_
 refine sd ah (show i<=m by omega) (show i<c by omega) rfl rfl rfl rfl rfl rfl rfl rfl rfl ?_
 exact hK.out):p:=e ⟨h⟩
theorem NH {p q:Prop} (h:q) (e:KH q->p:=by
 intro hK
 refine me (ce.rdW (ts:=[.d (.agg (ab o1 na1 xs1 nb1 ys1 nm1 n1 cs1)), .own 5001 (i+1) 1 9, .own 5002 (i+1) 5 92]) (b:=[(5001,aJ (env.map (·.1))),(5002,lM env)]) rfl hwd (O2 rfl rfl)) rfl rfl rfl rfl rfl ⟨rfl,rfl,trivial⟩ rfl rfl rfl rfl ?_;refine kW ?_
 exact hK.out):p:=e ⟨h⟩
theorem BJ {p q:Prop} (h:q) (e:KH q->p:=by
 intro hK
 refine kW ?_;refine ae (Pz ha (by omega)) rfl rfl rfl rfl rfl rfl rfl ?_;refine kW ?_
 exact hK.out):p:=e ⟨h⟩
theorem MO {p q:Prop} (h:q) (e:KH q->p:=by
 intro hK
 refine gx ah (i:=n) (c:=s[n]) hx rfl rfl rfl rfl rfl rfl rfl rfl ?_;refine kT ?_;refine kG ?_
 refine kO2 ?_
 refine kJ ((n+1:Nat)) ?_;refine yU ah (i:=n+1) (by omega) rfl rfl rfl rfl rfl rfl rfl rfl ?_;refine kC (c2) ?_;refine kG ?_;refine kO ?_
 exact hK.out):p:=e ⟨h⟩
theorem Mw {p:Prop} (e:p:=by
 rw[hb]at c;refine kQ (c) ?_
 exact⟨i+1,⟨hlt,fun q y h1 h2=>by
  by_cases e:q=i
  ·subst e;rw[hx]at h2;cases h2;exact hb
  ·exact hq q y (by omega) h2⟩,by omega,weak ⟨rfl,rfl,aA (by omega) (by omega),trivial⟩ ⟨rfl,trivial⟩ rfl⟩):p:=e
theorem C8 {p q:Prop} (h:q) (e:KH q->p:=by
 intro hK
 refine ge ah cX func105 rfl rfl rfl rfl rfl rfl (pN rfl rfl rfl) ?_
 exact hK.out):p:=e ⟨h⟩
theorem H3 {p q:Prop} (h:q) (e:KH q->p:=by
 intro hK
 refine ae (jj 0 (by decide) (by decide) rfl) rfl rfl rfl rfl rfl rfl rfl ?_
 exact hK.out):p:=e ⟨h⟩
theorem Mo {p:Prop} (e:p:=by
 constructor
 ·rintro⟨h1,h2⟩
  refine⟨uy.1 h1,fun cs hc=>?_⟩;have:=h2 _ (oT hc)
  rwa[nh]at this
 ·rintro⟨h1,h2⟩
  refine⟨uy.2 h1,fun cs hc=>?_⟩;obtain⟨c0,h0,rfl⟩:=ij hc;rw[jS]at h0;rw[nh];exact h2 c0 h0):p:=e
theorem ut {p q:Prop} (h:q) (e:KH q->p:=by
 intro hK
 refine kI ?_;refine kY ?_
 exact hK.out):p:=e ⟨h⟩
theorem Ja {p q:Prop} (h:q) (e:KH q->p:=by
 intro hK
 refine aH (i:=i) (cs':=ab o2 na2 xs2 nb2 ys2 nm2 n2 cs2) hlt' hat' (Nat.zero_lt_succ 6) rfl rfl rfl rfl rfl rfl rfl rfl ?_
 exact hK.out):p:=e ⟨h⟩
theorem GF {p q:Prop} (h:q) (e:KH q->p:=by
 intro hK
 refine aH (i:=i) (cs':=ab o1 na1 xs1 nb1 ys1 nm1 n1' cs1) hlt hat (Nat.zero_lt_succ 6) rfl rfl rfl rfl rfl rfl rfl rfl ?_
 exact hK.out):p:=e ⟨h⟩
theorem No {p:Prop} (e:p:=by
 have a:=jK f _ _ _ _ hs (fun _ _ h=>by cases h) h1;have b:=jK f _ _ _ _ (fun t ht=>hs t (a.2.1 t ht)) (fun _ _ h=>by cases h;exact a.1) h;exact⟨b.1,fun t ht=>a.2.1 t (b.2.1 t ht),by have:=a.2.2;have:=b.2.2;dsimp only at *;omega⟩):p:=e
theorem M1 {p q:Prop} (h:q) (e:KH q->p:=by
 intro hK
 refine kV func297 ?_;refine ae (og (na:=na) hw (by unfold kl;omega) hn) rfl rfl rfl rfl rfl rfl rfl ?_;refine kW ?_;refine ae (og (na:=nb) hw' (by unfold kl;omega) hd) rfl rfl rfl rfl rfl rfl rfl ?_;refine kW ?_
 exact hK.out):p:=e ⟨h⟩
theorem I6 {p q:Prop} (h:q) (e:KH q->p:=by
 intro hK
 refine kT ?_
 refine kO3 ?_
 refine gx ah (i:=0) (c:=c) h0 rfl rfl rfl rfl rfl rfl rfl rfl ?_;refine kC (c1) ?_
 exact hK.out):p:=e ⟨h⟩
theorem Bw {p q:Prop} (h:q) (e:KH q->p:=by
 intro hK
 unfold Instr.sliceAt
 simp only[Sem.run_bind,run_underlying hu w,Result.andThen_ok]
 exact hK.out):p:=e ⟨h⟩
theorem N2 {p:Prop} (e:p:=by
 cases e with
 |normal=>obtain⟨s,h1,h2⟩:=hq;exact fin s h1 h2
 |ret=>obtain⟨s,h1,h2⟩:=hq;exact fin s h1 h2
 |exit i=>obtain⟨s,h1,h2⟩:=hq;exact h1.elim
 |goto l=>exact hq.elim
 |panic c=>exact hq.elim
 |outgrown=>exact hq.elim):p:=e
theorem xV {p q:Prop} (h:q) (e:KH q->p:=by
 intro hK
 refine kW ?_;refine Rb Pp rfl rfl rfl rfl rfl rfl rfl ?_
 exact hK.out):p:=e ⟨h⟩
theorem Ip {p q:Prop} (h:q) (e:KH q->p:=by
 intro hK
 refine kV func190 ?_;refine kQ (t1) ?_;refine kC (t2) ?_;refine kG ?_
 refine kO4 ?_
 exact hK.out):p:=e ⟨h⟩
theorem IQ {p q:Prop} (h:q) (e:KH q->p:=by
 intro hK
 refine kV func334 ?_;refine ae (iQ (by omega) ha) rfl rfl rfl rfl rfl rfl rfl ?_;refine kW ?_
 exact hK.out):p:=e ⟨h⟩
theorem tY {p:Prop} (e:p:=by
 have:=List.not_of_lt_findIdx h
 simpa using this):p:=e
theorem Mh {p q:Prop} (h:q) (e:KH q->p:=by
 intro hK
 refine kG ?_
 refine kO2 ?_
 refine aD rfl rfl rfl rfl rfl rfl rfl (mf (a:=u) (b:=[]) hu) ?_;refine kG ?_
 refine kO3 ?_
 refine aD rfl rfl rfl rfl rfl rfl rfl (db (a:=[32]) (b:=u) (by simp <;>omega)) ?_
 exact hK.out):p:=e ⟨h⟩
theorem BC {p q:Prop} (h:q) (e:KH q->p:=by
 intro hK
 refine kW ?_;refine kQ (s1) ?_;refine kC (s2) ?_
 exact hK.out):p:=e ⟨h⟩
theorem Ij {p q:Prop} (h:q) (e:KH q->p:=by
 intro hK
 refine kO2 ?_
 refine HX ah rfl rfl rfl rfl rfl rfl rfl rfl rfl ?_
 exact hK.out):p:=e ⟨h⟩
theorem Jm {p q:Prop} (h:q) (e:KH q->p:=by
 intro hK
 refine kD (cZ t (u::r) a 0) ?_;refine kO ?_;refine kQ (cp) ?_
 exact hK.out):p:=e ⟨h⟩
theorem OJ {p:Prop} (e:p:=by
 refine kN ?_
 repeat refine bu (T:=TT) ?_
 refine ez ((FQ (q:=0) rfl rfl (Nat.le_of_eq hlen.symm)).tr (aT (q:=0) (j:=901) (j':=1003) rfl rfl rfl rfl)) rfl ?_;exact GY):p:=e
theorem NS {p q:Prop} (h:q) (e:KH q->p:=by
 intro hK
 refine kC (cl) ?_;refine kO ?_;refine kB false ?_ ?_
 ·exact decide_eq_false (by show ¬((3:Nat):Int)<_;omega)
 refine kW ?_;refine fV (i:=3) underlying184 (by kernel_rfl) (by decide) rfl rfl rfl rfl rfl rfl ?_;refine kW ?_
 exact hK.out):p:=e ⟨h⟩
theorem yf {p q:Prop} (h:q) (e:KH q->p:=by
 intro hK
 refine kB false ?_ ?_
 ·exact(by simp[hxy])
 refine kW ?_
 exact hK.out):p:=e ⟨h⟩
theorem Ci {p q:Prop} (h:q) (e:KH q->p:=by
 intro hK
 refine yU ah (i:=nn) hnr rfl rfl rfl rfl rfl rfl rfl rfl ?_;refine kN ?_
 exact hK.out):p:=e ⟨h⟩
theorem Ig {p q:Prop} (h:q) (e:KH q->p:=by
 intro hK
 refine kW ?_;refine⟨i+1,?_,by omega,weak ⟨rfl,rfl,rfl,rfl,aA (by omega) (by omega),trivial⟩ trivial rfl⟩
 exact hK.out):p:=e ⟨h⟩
theorem F7 {p q:Prop} (h:q) (e:KH q->p:=by
 intro hK
 refine kB false ?_ ?_
 ·exact(by simp[hn])
 refine kW ?_
 exact hK.out):p:=e ⟨h⟩
theorem MX {p q:Prop} (h:q) (e:KH q->p:=by
 intro hK
 refine kW ?_;refine ae (dq 10 (by decide) (by decide)) rfl rfl rfl rfl rfl rfl rfl ?_;refine kW ?_;refine kQ (t4) ?_;refine ae (de (hs.fit (by omega)) t3) rfl rfl rfl rfl rfl rfl rfl ?_;refine kW ?_
 exact hK.out):p:=e ⟨h⟩
theorem OB {p:Prop} (e:p:=by
 split
 ·rename_i h
  obtain⟨x,hx,e⟩:=this.1 h;have e:=of_decide_eq_true e;subst e;exact⟨fun _=>hx,fun _=>by omega⟩
 ·rename_i h
  exact⟨fun h=>by omega,fun hm=>absurd (this.2 ⟨n,hm,decide_eq_true rfl⟩) h⟩):p:=e
theorem G5 {p:Prop} (e:p:=by
 refine⟨[],?_,fun u h=>by rw[h0]at h;cases h⟩;rw[h0];exact main _ _ (fun _=>⟨rfl,rfl⟩) (fun h=>by omega)):p:=e
theorem Cm {p:Prop} (e:p:=by
 have:=Nat.le_mul_of_pos_right (m1+m2) (Nat.le_of_ble_eq_true hq0.2);omega):p:=e
theorem Hz {p:Prop} (e:p:=by
 exact congrArg Value.bool (decide_eq_decide.2 (by omega))):p:=e
theorem Ch {p q:Prop} (h:q) (e:KH q->p:=by
 intro hK
 refine ge ah cX func105 rfl rfl rfl rfl rfl rfl qF ?_
 exact hK.out):p:=e ⟨h⟩
theorem Nw {p q:Prop} (h:q) (e:KH q->p:=by
 intro hK
 refine kW ?_;refine ae (AN (n:=b.length) (by omega) hp) rfl rfl rfl rfl rfl rfl rfl ?_;refine kW ?_;refine ae (de (sa.fit (by omega)) (sp.fit (by omega))) rfl rfl rfl rfl rfl rfl rfl ?_;refine kW ?_
 exact hK.out):p:=e ⟨h⟩
theorem C1 {p q:Prop} (h:q) (e:KH q->p:=by
 intro hK
 refine kU func59 ?_;refine kR ?_;refine kI ?_
 iterate 12 refine kO ?_
 exact hK.out):p:=e ⟨h⟩
theorem Ck {p:Prop} (e:p:=by
 rw[List.getElem?_append_left (List.getElem?_eq_some_iff.1 ha).1];exact ha):p:=e
theorem MY {p:Prop} (e:p:=by
 simp only at h'
 split at h
 ·split at h'
  ·rename_i r1 h1 _ r2 h2
   have:=xg (fun x _ y z=>ih x y z) h1 h2;subst this;rw[<- Option.some.inj h,<- Option.some.inj h']
  ·cases h'
 ·cases h):p:=e
theorem OH {p:Prop} (e:p:=by
 refine kX ?_;refine kQ (pd g1 hv) ?_;exact⟨(v,u%v),⟨qW.trans hg,g2,Nat.le_trans (ig (Nat.le_of_lt hm)) g2⟩,hm,weak ⟨rfl,rfl,rfl,trivial⟩ ⟨rfl,trivial⟩ rfl⟩):p:=e
theorem Je {p q:Prop} (h:q) (e:KH q->p:=by
 intro hK
 refine aM ah cX func171 rfl rfl rfl rfl rfl (fQ) ?_
 exact hK.out):p:=e ⟨h⟩
theorem Jr {p q:Prop} (h:q) (e:KH q->p:=by
 intro hK
 refine aM ah cX func281 rfl rfl rfl rfl rfl (fQ) ?_
 exact hK.out):p:=e ⟨h⟩
theorem MZ {p:Prop} (e:p:=by
 refine kX ?_
 rw[show yE l=false by
  cases hd:yE l
  ·rfl
  ·have:=(gu.1 hd).1 c (List.mem_of_getElem? hcj)
   unfold gb at this
   omega]
 exact bP (T:=TT) rfl rfl):p:=e
theorem G2 {p:Prop} (e:p:=by
 rw[h1]at h;rw[kA f _ _ _ h1];cases y with
 |error e=>exact h
 |ok y=>exact kA f _ _ _ h):p:=e
theorem CX {p q:Prop} (h:q) (e:KH q->p:=by
 intro hK
 refine kV func166 ?_;refine kC (c1) ?_;refine kG ?_
 exact hK.out):p:=e ⟨h⟩
theorem NU {p:Prop} (e:p:=by
 rw[hnext,sx,if_neg (fun h2=>by
  rcases h with h|h
  ·rw[h]at h2;exact absurd h2.1 (by decide)
  ·rcases h2.2 with h3|h3
   ·exact h.1 h3
   ·rw[h.2]at h3;cases h3)]):p:=e
theorem Oc {p q:Prop} (h:q) (e:KH q->p:=by
 intro hK
 refine kO ?_;refine eT 7003 (m1:=G.length) (m2:=1) ah (by decide) (by show(G.length+1)*16<=_;omega) rfl rfl rfl rfl rfl rfl rfl rfl rfl rfl rfl (.own rfl rfl) rfl rfl rfl ?_;refine kW ?_
 exact hK.out):p:=e ⟨h⟩
theorem Ni {p q:Prop} (h:q) (e:KH q->p:=by
 intro hK
 refine kW ?_;refine eT 7005 (m1:=G.length) (m2:=1) ah (by decide) (by show(G.length+1)*16<=_;omega) rfl rfl rfl rfl rfl rfl rfl rfl rfl rfl rfl (.own rfl rfl) rfl rfl rfl ?_;refine kW ?_
 exact hK.out):p:=e ⟨h⟩
theorem By {p q:Prop} (h:q) (e:KH q->p:=by
 intro hK
 refine kV func329 ?_;refine kC (n6 h47) ?_
 exact hK.out):p:=e ⟨h⟩
theorem Ol {p:Prop} (e:p:=by
 have e1:=bI.1 h1;have e2:=bI.1 h2
 by_cases e:j=1003
 ·subst e;cases e1
 ·rw[show ar [(1003,cs')]=[(1003,some cs')] from rfl,ap _ _ (fun h=>e h.symm)]at e2;cases e2):p:=e
theorem MP {p q:Prop} (h:q) (e:KH q->p:=by
 intro hK
 refine kE ?_;refine kG ?_
 refine kO3 ?_
 refine kJ ((m+1:Nat)) ?_;refine Jh ah (show m+1<=c by omega) rfl rfl rfl rfl rfl rfl rfl rfl rfl ?_;refine kG ?_
 refine kO4 ?_
 exact hK.out):p:=e ⟨h⟩
theorem Nk {p:Prop} (e:p:=by
 refine kW ?_;exact⟨i+1,hlt,by omega,weak ⟨rfl,rfl,rfl,rfl,aA (by omega) (by omega),congrArg (fun z=>TV.d (dL z)) (keep (.inl (by rw[hcd,hb1];rfl))),trivial⟩ ⟨rfl,trivial⟩ rfl⟩):p:=e
theorem uD {p:Prop} (e:p:=by
 rw[this];exact bP (T:=TT) rfl rfl):p:=e
theorem Nf {p:Prop} (e:p:=by
 split at h
 ·rename_i e1 r1 h1
  have a:=fN f _ _ _ hw hE h1;have hsub:=gS f _ _ _ _ h1;exact fN f _ _ _ a (fun t ht=>hE t (hsub t ht)) h
 ·exact fN f _ _ _ hw hE h):p:=e
theorem Bl {p:Prop} (e:p:=by
 injection this with this
 injection this with this
 injection this):p:=e
theorem HL {p q:Prop} (h:q) (e:KH q->p:=by
 intro hK
 refine fV (i:=2) underlying171 (by kernel_rfl) (by decide) rfl rfl rfl rfl rfl rfl ?_
 exact hK.out):p:=e ⟨h⟩
theorem H7 {p q:Prop} (h:q) (e:KH q->p:=by
 intro hK
 refine fV (i:=3) underlying171 (by kernel_rfl) (by decide) rfl rfl rfl rfl rfl rfl ?_
 exact hK.out):p:=e ⟨h⟩
theorem FD {p q:Prop} (h:q) (e:KH q->p:=by
 intro hK
 refine fV (i:=4) underlying171 (by kernel_rfl) (by decide) rfl rfl rfl rfl rfl rfl ?_
 exact hK.out):p:=e ⟨h⟩
theorem Is {p q:Prop} (h:q) (e:KH q->p:=by
 intro hK
 refine fV (i:=5) underlying171 (by kernel_rfl) (by decide) rfl rfl rfl rfl rfl rfl ?_
 exact hK.out):p:=e ⟨h⟩
theorem IP {p q:Prop} (h:q) (e:KH q->p:=by
 intro hK
 refine fV (i:=6) underlying171 (by kernel_rfl) (by decide) rfl rfl rfl rfl rfl rfl ?_
 exact hK.out):p:=e ⟨h⟩
theorem ID {p q:Prop} (h:q) (e:KH q->p:=by
 intro hK
 refine fV (i:=7) underlying171 (by kernel_rfl) (by decide) rfl rfl rfl rfl rfl rfl ?_
 exact hK.out):p:=e ⟨h⟩
theorem Cg {p q:Prop} (h:q) (e:KH q->p:=by
 intro hK
 refine kO3 ?_
 refine kC (c2) ?_
 refine kO2 ?_
 exact hK.out):p:=e ⟨h⟩
theorem Dc {p q:Prop} (h:q) (e:KH q->p:=by
 intro hK
 refine kW ?_;refine kQ (bw (uw ha)) ?_
 exact hK.out):p:=e ⟨h⟩
theorem FJ {p q:Prop} (h:q) (e:KH q->p:=by
 intro hK
 unfold TJ;refine kI ?_;refine kB true ?_ ?_
 ·exact decide_eq_true (by decide)
 refine kW ?_
 exact hK.out):p:=e ⟨h⟩
theorem ND {p q:Prop} (h:q) (e:KH q->p:=by
 intro hK
 refine kD (jm (4,[c],p0) r2 a 0) ?_;refine kO ?_;refine FY underlying166 underlying9 hl rfl rfl rfl rfl rfl rfl rfl ?_;refine kW ?_;refine kZ (cy) ?_
 exact hK.out):p:=e ⟨h⟩
theorem Mm {p:Prop} (e:p:=by
 simp only[Ek]at hk
 split at hk
 ·rename_i hc;cases hk;subst hc;exact⟨_,rfl,rfl⟩
 ·split at hk
  ·rename_i hc;cases hk;subst hc;exact⟨_,rfl,rfl⟩
  ·cases hk):p:=e
theorem NR {p:Prop} (e:p:=by
 exact⟨i+1,hlt,by omega,weak ⟨rfl,rfl,rfl,rfl,aA (by omega) (by omega),congrArg (fun z=>TV.d (dL z)) (keep (.inl (by rw[hcd,hb1];rfl))),trivial⟩ trivial rfl⟩):p:=e
theorem NT {p:Prop} (e:p:=by
 obtain⟨b,off,f,e,hn,hl,h1,h2⟩:=hP.gl k cs hk;exact⟨b,off,f,e,fun h=>hn (.inl h),hl,h1,fun i a hi=>(h2 i a hi).agree (bL.refl _ _) (fun _ _ h=> .inl h)⟩):p:=e
theorem BP {p q:Prop} (h:q) (e:KH q->p:=by
 intro hK
 refine kC (c1) ?_
 refine kO4 ?_
 refine kC (c2) ?_
 exact hK.out):p:=e ⟨h⟩
theorem Cq {p q:Prop} (h:q) (e:KH q->p:=by
 intro hK
 show aa Tryz.prog _ [.agg (cC k ps cs vs s),_,_] _
 exact hK.out):p:=e ⟨h⟩
theorem Q2 {p q:Prop} (h:q) (e:KH q->p:=by
 intro hK
 refine kC (t1) ?_;refine kO ?_;refine kC (d) ?_;refine kG ?_
 refine kO4 ?_
 exact hK.out):p:=e ⟨h⟩
theorem OE {p q:Prop} (h:q) (e:KH q->p:=by
 intro hK
 refine kE ?_;refine kG ?_
 refine kO2 ?_
 refine yU ah (i:=i) (by omega) rfl rfl rfl rfl rfl rfl rfl rfl ?_;refine kC (cn) ?_;refine kG ?_;refine kO ?_
 exact hK.out):p:=e ⟨h⟩
theorem Gr {p q:Prop} (h:q) (e:KH q->p:=by
 intro hK
 refine kW ?_;refine fo (T:=TT) rfl ?_ ?_
 ·exact decide_eq_true (by omega)
 exact hK.out):p:=e ⟨h⟩
theorem Bp {p:Prop} (e:p:=by
 rw[Nat.zero_add,show i+(m-i)=m by omega];omega):p:=e
theorem My {p q:Prop} (h:q) (e:KH q->p:=by
 intro hK
 refine kW ?_;refine aH (i:=i) (cs':=[.val (.int .i64 z)]) hlt hat (Nat.zero_lt_succ 0) rfl rfl rfl rfl rfl rfl rfl rfl ?_;refine kW ?_;refine kC (cI) ?_
 exact hK.out):p:=e ⟨h⟩
theorem Oo {p q:Prop} (h:q) (e:KH q->p:=by
 intro hK
 unfold execOp;rw[ho]
 simp only[e1,bh hM hy2,Instr.indexAt,Instr.sureAddr,asIntOf,Sem.run_bind,Sem.run_pure,run_underlying hu w,Result.andThen_ok]
 exact hK.out):p:=e ⟨h⟩
theorem Iz {p q:Prop} (h:q) (e:KH q->p:=by
 intro hK
 refine kV func219 ?_;refine kC (t1) ?_
 refine kO4 ?_
 exact hK.out):p:=e ⟨h⟩
theorem MR {p q:Prop} (h:q) (e:KH q->p:=by
 intro hK
 refine bM (v':= .int .u64 ((k.natAbs:Nat))) rfl rfl rfl rfl ?_ ?_
 ·exact congrArg (Value.int .u64) (by rw[IntKind.wrap_u64,IntKind.wrap_u64];omega)
 exact hK.out):p:=e ⟨h⟩
theorem H0 {p:Prop} (e:p:=by
 split at h
 ·cases h;exact fun t ht=>List.mem_cons_of_mem _ ht
 ·cases h):p:=e
theorem Cl {p:Prop} (e:p:=by
 exact congrArg (fun z=>RV.one (dN .i64 z)) hv.symm):p:=e
theorem IN {p q:Prop} (h:q) (e:KH q->p:=by
 intro hK
 refine gx ah (i:=j) (c:=s[j]) hx rfl rfl rfl rfl rfl rfl rfl rfl ?_
 exact hK.out):p:=e ⟨h⟩
theorem CG {p q:Prop} (h:q) (e:KH q->p:=by
 intro hK
 rw[GL,xI,if_neg (by show ¬4<least;omega)]
 exact hK.out):p:=e ⟨h⟩
theorem M7 {p q:Prop} (h:q) (e:KH q->p:=by
 intro hK
 refine fo (T:=TT) rfl ?_ ?_
 ·exact(by rw[hl0];rfl)
 refine kW ?_;refine ae (qB (ac u) (by omega)) rfl rfl rfl rfl rfl rfl rfl ?_
 exact hK.out):p:=e ⟨h⟩
theorem Jq {p q:Prop} (h:q) (e:KH q->p:=by
 intro hK
 show aa Tryz.prog _ [.agg (cC k ps cs vs s),_] _;refine kU func8 ?_
 exact hK.out):p:=e ⟨h⟩
theorem MN {p q:Prop} (h:q) (e:KH q->p:=by
 intro hK
 refine kO ?_;refine bM (v':= .int .u64 ((k.natAbs:Nat))) rfl rfl rfl rfl ?_ ?_
 ·exact congrArg (Value.int .u64) (by rw[IntKind.wrap_u64];omega)
 exact hK.out):p:=e ⟨h⟩
theorem Oe {p q:Prop} (h:q) (e:KH q->p:=by
 intro hK
 refine bc (T:=TT) rfl ?_
 refine kO2 ?_
 refine kJ ((m+1:Nat)) ?_;refine kO ?_;refine Ki ah rfl rfl rfl rfl rfl rfl rfl rfl ?_
 exact hK.out):p:=e ⟨h⟩
theorem Jy {p q:Prop} (h:q) (e:KH q->p:=by
 intro hK
 refine aD rfl rfl rfl rfl rfl rfl rfl (b7 (a:=u) (b:=[]) hu) ?_
 exact hK.out):p:=e ⟨h⟩
theorem NM {p q:Prop} (h:q) (e:KH q->p:=by
 intro hK
 refine kW ?_;refine aH (i:=i) (cs':=[.val (.int .i64 q)]) hlt (bn hx) (Nat.zero_lt_succ 0) rfl rfl rfl rfl rfl rfl rfl rfl ?_;refine kO ?_
 exact hK.out):p:=e ⟨h⟩
theorem RX {p:Prop} (e:p:=by
 by_cases e:i<f
 ·have:=hni e;rw[hb]at this;cases this
 ·omega):p:=e
theorem MQ {p:Prop} (e:p:=by
 have:=hc.enter (args.map a.eval) w;have e:(List.map a.eval args.toList).toArray=args.map a.eval:=Array.ext' (by simp);rw[e]
 simpa using this):p:=e
theorem Ml {p:Prop} (e:p:=by
 exact QU (rows:=rows) (by unfold maxLen at hcm;omega) hlc hl hsz (fun i r hi=>by obtain⟨us,h3,h4,_⟩:=hr i r hi;exact⟨us,h3,h4⟩)):p:=e
theorem Nv {p q:Prop} (h:q) (e:KH q->p:=by
 intro hK
 show aa Tryz.prog _ [.agg (ab op na xs nb ys nm args.length (d7 args)), .agg (ab op' na' xs' nb' ys' nm' args'.length (d7 args'))] _
 exact hK.out):p:=e ⟨h⟩
theorem M2 {p q:Prop} (h:q) (e:KH q->p:=by
 intro hK
 rw[show dE (.bin k a b)= .agg ([.val (.int .i64 k.code)]++jq++[.val (vL []), .sl 2 (aE a++aE b)]) from congrArg DV.agg (jV k a b)]
 exact hK.out):p:=e ⟨h⟩
theorem I4 {p q:Prop} (h:q) (e:KH q->p:=by
 intro hK
 refine aM ah cX func169 rfl rfl rfl rfl rfl (fQ) ?_
 exact hK.out):p:=e ⟨h⟩
theorem Mg {p q:Prop} (h:q) (e:KH q->p:=by
 intro hK
 refine kE ?_;refine kG ?_;refine kO ?_;refine HH (i:=i) (N9 (by omega) hi) underlying73 gE (by omega) rfl rfl rfl rfl rfl rfl ?_
 exact hK.out):p:=e ⟨h⟩
theorem Oj {p:Prop} (e:p:=by
 cases hbase with
 |nil a b=>exact .nil (hx2.trans a) b
 |own a b=>exact .own (hx2.trans a) ((ba (hrb _ (by simp[q6]))).trans b)):p:=e
theorem NE {p q:Prop} (h:q) (e:KH q->p:=by
 intro hK
 refine kG ?_
 refine kO3 ?_
 refine Cj 13003 (cs:=[.val (vL nm)]) ah rfl rfl rfl rfl rfl rfl rfl rfl rfl rfl rfl rfl rfl ?_
 exact hK.out):p:=e ⟨h⟩
theorem Ot {p q:Prop} (h:q) (e:KH q->p:=by
 intro hK
 refine kV func253 ?_;refine kQ (dq n h1 h2) ?_;refine kQ (dq d h3 h4) ?_
 exact hK.out):p:=e ⟨h⟩
theorem MW {p q:Prop} (h:q) (e:KH q->p:=by
 intro hK
 refine kE ?_
 refine kO3 ?_
 refine gx ah (i:=i) (c:=s[i]) hx0 rfl rfl rfl rfl rfl rfl rfl rfl ?_;refine kC (hc0) ?_
 exact hK.out):p:=e ⟨h⟩
theorem M4 {p:Prop} (e:p:=by
 clear hs key d s1 mu su sg1 sg2 n1 n2;rw[hm1]at h3 ⊢
 by_cases ha:a<0<;>simp only[ha,if_true,if_false]at h3 ⊢ <;>omega):p:=e
theorem NZ {p:Prop} (e:p:=by
 have a:=(gv f _ _ _ _ h1).2 (fun _ _ h=>by cases h);have b:=(gv f _ _ _ _ h).1;exact⟨by omega,fun _=>by omega⟩):p:=e
theorem NV {p:Prop} (e:p:=by
 exact((mn hb6).trans ((mn hb7).trans ((kL Hb7.out hs8 Ho8.out).trans (kL Hb8.out hs9 Ho9.out)))).from _):p:=e
theorem Nc {p:Prop} (e:p:=by
 unfold execOp;rw[h2]
 simp only[e1,bh hM hy,Option.map_some,Option.map_none,Sem.run_bind,hr,Result.andThen_ok]
 rfl):p:=e
theorem Ok {p:Prop} (e:p:=by
 rw[vp hbad,z0]at hret;refine kX ?_;refine Eq.mpr (congrFun hret _) ?_;exact bP (T:=TT) rfl rfl):p:=e
theorem OC {p:Prop} (e:p:=by
 simp only[List.size_toArray,List.length_append,List.length_take,List.length_drop,Array.length_toList,hsl]
 omega):p:=e
theorem Mb {p:Prop} (e:p:=by
 intro r hm;obtain⟨i,hi⟩:=List.getElem?_of_mem hm;obtain⟨us,h3,h4,_⟩:=hr i r hi;rw[h4.1,(yH h3).1]):p:=e
theorem Cx {p:Prop} (e:p:=by
 split at h<;>cases h;exact .inr rfl):p:=e
theorem N3 {p:Prop} (e:p:=by
 have:=hP.bm j cs' h1;exact this.agree (hb.block _ this.lt) (.of_below hb) (fun _ _ h=>h) (io.same hb rfl)):p:=e
theorem Gz {p:Prop} (e:p:=by
 refine kW ?_;exact⟨⟨_,rfl,rfl⟩,⟨rfl,rfl,trivial⟩⟩):p:=e
theorem NI {p:Prop} (e:p:=by
 have hn':¬fn.name= "runtime.NumGoroutine" :=by simpa using hn
 simp[callFunc,Sem.run_bind,hf,hn',hb]):p:=e
theorem Mt {p:Prop} (e:p:=by
 rw[List.take_of_length_le (by omega)]at hn;exact congrArg (fun b=>RV.one (dB b)) (decide_eq_true hn).symm):p:=e
theorem Mc {p:Prop} (e:p:=by
 rcases Nat.eq_zero_or_pos (digs v).length with h|h
 ·have:=aO.1 h;omega
 ·exact h):p:=e
theorem NL {p:Prop} (e:p:=by
 rcases Nat.lt_or_ge b w1.heap.size with h'|h'
 ·exact h'
 ·simp[Array.getElem?_eq_none h']at hbk):p:=e
theorem N4 {p:Prop} (e:p:=by
 intro j a hj
 match j,hj with
 |0,hj=>rw[Nat.mul_one,Nat.add_zero,List.getElem?_map,h];exact hj):p:=e
theorem NK {p:Prop} (e:p:=by
 rcases h4 with⟨h5,h6⟩| ⟨h5,h6,h7⟩
 ·exact .inl ⟨by omega,h6⟩
 ·exact .inr ⟨by omega,h6,h7⟩):p:=e
theorem Ow {p:Prop} (e:p:=by
 obtain⟨op,na,xs,nb,ys,nm,args⟩:=x;exact⟨op,na,xs,nb,ys,nm,args.length,d7 args,rfl⟩):p:=e
theorem On {p:Prop} (e:p:=by
 generalize a.eval y=v at hyv;cases hyv with
 |emp=>exact⟨_,_,rfl⟩
 |sl=>exact⟨_,_,rfl⟩):p:=e
theorem Mf {p:Prop} (e:p:=by
 refine kW ?_;refine dX ?_;exact hR _ (weak ⟨rfl,rfl,hfin,rfl,trivial⟩ ⟨rfl,trivial⟩ rfl)):p:=e
theorem MS {p:Prop} (e:p:=by
 have h4:=Hb9.out;rw[List.append_assoc,List.append_assoc,<- Hpt.out,<- Hsn.out]at h4;exact h4):p:=e
theorem Ms {p:Prop} (e:p:=by
 exact((HB.out.trans (hb6.mono hWs)).trans (hb7.mono (by omega))).trans (Hw8.out.trans Hw9.out)):p:=e
theorem Bv {p:Prop} (e:p:=by
 refine kO4 ?_
 by_cases hnm:nm=[]
 ·refine RQ ?_
  by_cases hl:args.length=2
  ·exact JH
  ·refine kE ?_
   obtain rfl:b=false:=by rw[hb,decide_eq_false hl,Bool.and_false]
   exact am
 ·refine PY ?_
  exact H6):p:=e
theorem xP {p:Prop} (e:p:=by
 refine kO ?_;refine tH ?_;refine kW ?_;refine kC (hno) ?_;cases p
 ·exact am
 ·refine kO3 ?_
  cases z
  ·refine SH ?_
   exact am
  ·refine TN ?_
   refine kC (hcf) ?_;cases A
   ·exact am
   ·exact am):p:=e
theorem GD {p:Prop} (e:p:=by
 refine kE ?_;obtain rfl:b=false:=by rw[hb,decide_eq_false hl,Bool.and_false]
 exact am):p:=e
theorem Iy {p:Prop} (e:p:=by
 refine tH ?_;refine kG ?_;refine tH ?_;refine kG ?_;refine tH ?_;refine kG ?_;refine tH ?_;refine kW ?_;refine kC (cF) ?_;cases F
 ·refine fO ?_
  exact Nl
 ·refine kW ?_
  refine kC (cG) ?_;refine fO ?_;exact Nl):p:=e
theorem jI {p:Prop} (e:p:=by
 refine kW ?_;refine kC (c1) ?_;exact am):p:=e
theorem HI {p:Prop} (e:p:=by
 rcases Bool.eq_false_or_eq_true (p q)with hb|hb
 ·rw[hb]at c
  have e:i=f:=by
   exact RX
  subst e;rw[if_pos hlt];refine kD (c) ?_;exact jt
 ·exact TC):p:=e
theorem oO {p:Prop} (e:p:=by
 obtain rfl:b=false:=by rw[hb];rfl
 exact am):p:=e
theorem xo {p q:Prop} (h:q) (e:KH q->p:=by
 intro hK
 refine kU func119 ?_;refine gI ?_;refine Pd ?_;refine gG ?_;refine kC (c2) ?_
 exact hK.out):p:=e ⟨h⟩
theorem IZ {p:Prop} (e:p:=by
 have he:b=true:=by
  rw[<- hb];refine decide_eq_true (List.ext_getElem? fun i=>?_);exact TP
 cases b
 ·cases he
 ·refine kE ?_
  exact am):p:=e
theorem FM {p q:Prop} (h:q) (e:KH q->p:=by
 intro hK
 refine kU func133 ?_;refine kR ?_;refine kR ?_;refine O3 ?_;refine kN ?_;refine dP (T:=TT) rfl ?_;refine O3 ?_
 refine kO2 ?_
 exact hK.out):p:=e ⟨h⟩
theorem NF {p q:Prop} (h:q) (e:KH q->p:=by
 intro hK
 refine kW ?_;refine Mu ?_
 exact hK.out):p:=e ⟨h⟩
theorem FU {p q:Prop} (h:q) (e:KH q->p:=by
 intro hK
 refine kU func34 ?_;refine fP ?_;refine K9 ?_;refine kB true ?_ ?_
 ·exact(by simp[e2])
 refine kW ?_;refine kC (cP) ?_
 exact hK.out):p:=e ⟨h⟩
theorem rH {p q:Prop} (h:q) (e:KH q->p:=by
 intro hK
 refine bu ?_;refine zE ?_;refine kO ?_
 exact hK.out):p:=e ⟨h⟩
theorem GX {p q:Prop} (h:q) (e:KH q->p:=by
 intro hK
 refine kV func333 ?_;refine ae (iQ (by omega) h1) rfl rfl rfl rfl rfl rfl rfl ?_;refine kW ?_
 exact hK.out):p:=e ⟨h⟩
theorem uH {p q:Prop} (h:q) (e:KH q->p:=by
 intro hK
 refine gI ?_;refine kE ?_
 iterate 6 refine kO ?_
 exact hK.out):p:=e ⟨h⟩
theorem r6 {p:Prop} (e:p:=by
 refine kO ?_;refine pA ?_;exact am):p:=e
theorem qm {p q:Prop} (h:q) (e:KH q->p:=by
 intro hK
 refine zE ?_
 refine kO2 ?_
 exact hK.out):p:=e ⟨h⟩
theorem yL {p q:Prop} (h:q) (e:KH q->p:=by
 intro hK
 refine kU func35 ?_;refine gI ?_;refine TR ?_
 exact hK.out):p:=e ⟨h⟩
theorem B9 {p q:Prop} (h:q) (e:KH q->p:=by
 intro hK
 refine kI ?_;refine kT ?_;refine rS ?_;refine kW ?_;refine kC (c) ?_
 exact hK.out):p:=e ⟨h⟩
theorem HG {p q:Prop} (h:q) (e:KH q->p:=by
 intro hK
 refine kU func158 ?_;refine fP ?_;refine kB false ?_ ?_
 ·exact Ii ha0
 refine kO5 ?_
 exact hK.out):p:=e ⟨h⟩
theorem tQ {p:Prop} (e:p:=by
 refine Sl ?_;refine kC (c) ?_;exact am):p:=e
theorem ML {p:Prop} (e:p:=by
 rw[hr]at c;refine PC ?_;refine GK ?_;refine Rw ?_;refine PB ?_;refine TY ?_;refine Sl ?_;refine ae (ly hy (by omega)) rfl rfl rfl rfl rfl rfl rfl ?_;refine kC (c) ?_;exact am):p:=e
theorem In {p q:Prop} (h:q) (e:KH q->p:=by
 intro hK
 refine kV func299 ?_;refine kC (t2) ?_;refine kG ?_;refine OQ ?_;refine Q2 ?_
 exact hK.out):p:=e ⟨h⟩
theorem Mk {p:Prop} (e:p:=by
 refine kE ?_;rw[List.drop_eq_nil_of_le (by omega),lh]at h2;have hdd:d=lh args:=by omega
 rw[s7,<- hdd];refine tq ?_;refine kI ?_;refine kO ?_;refine kJ ((d+1:Nat)) ?_;exact am):p:=e
theorem Nq {p q:Prop} (h:q) (e:KH q->p:=by
 intro hK
 refine kE ?_;refine kG ?_
 iterate 6 refine kO ?_
 refine kJ ((i+n:Nat)) ?_;refine Sm ah (l:=s) (i:=i) (j:=i+n) (by omega) (by omega) rfl rfl rfl rfl rfl rfl rfl rfl rfl ?_
 exact hK.out):p:=e ⟨h⟩
theorem NY {p q:Prop} (h:q) (e:KH q->p:=by
 intro hK
 refine kV func187 ?_;refine kC (qu h h' hk rfl) ?_
 refine kO4 ?_
 refine bM (v':= .int .i64 (p+p')) rfl rfl rfl rfl ?_ ?_
 ·exact PQ
 refine kW ?_
 exact hK.out):p:=e ⟨h⟩
theorem Of {p q:Prop} (h:q) (e:KH q->p:=by
 intro hK
 refine me ((c1.rd (ts:=[.own 6001 (List.cons a r).length 1 9, .d (dL p.1)]) (b:=[(6001,aJ (List.cons a r))]) rfl rfl)) rfl rfl rfl rfl rfl ⟨rfl,trivial⟩ rfl rfl rfl rfl ?_
 exact hK.out):p:=e ⟨h⟩
theorem xA {p:Prop} (e:p:=by
 refine kW ?_;refine kC (xH) ?_;exact am):p:=e
theorem MK {p q:Prop} (h:q) (e:KH q->p:=by
 intro hK
 refine aH (i:=1) (cs':=ab o2 na2 xs2 nb2 ys2 nm2 n2 cs2) (by decide) (mB _ rfl) (Nat.zero_lt_succ 6) rfl rfl rfl rfl rfl rfl rfl rfl ?_;refine kW ?_;refine kC (ih') ?_
 exact hK.out):p:=e ⟨h⟩
theorem Oq {p q:Prop} (h:q) (e:KH q->p:=by
 intro hK
 refine aH (i:=0) (cs':=ab o1 na1 xs1 nb1 ys1 nm1 n1 cs1) (by decide) (nt _ _) (Nat.zero_lt_succ 6) rfl rfl rfl rfl rfl rfl rfl rfl ?_;refine kW ?_;refine kC (ih) ?_
 exact hK.out):p:=e ⟨h⟩
theorem N0 {p:Prop} (e:p:=by
 have hB:B=true:=hall.2 fun q x y h2 h3=>hq q x y (by have:=(List.getElem?_eq_some_iff.1 h2).1;omega) h2 h3
 clear hall;cases B
 ·cases hB
 ·refine kE ?_
  exact am):p:=e
theorem GC {p q:Prop} (h:q) (e:KH q->p:=by
 intro hK
 refine Pl ?_;refine kC (cB) ?_
 iterate 8 refine kO ?_
 refine F7 ?_;refine kC (cE) ?_
 exact hK.out):p:=e ⟨h⟩
theorem Nd {p:Prop} (e:p:=by
 have hne:b=false:=by rw[<- hb];exact decide_eq_false fun e=>he (by subst e;rfl)
 cases b
 ·refine kB true ?_ ?_
  ·exact(by simp[he])
  exact am
 ·cases hne):p:=e
theorem C2 {p q:Prop} (h:q) (e:KH q->p:=by
 intro hK
 refine kV func133 ?_;refine rC 3 ?_
 exact hK.out):p:=e ⟨h⟩
theorem Oa {p:Prop} (e:p:=by
 rw[hb]at c
 have hB:B=false:=by
  cases B
  ·rfl
  ·rw[hall.1 rfl i _ _ hx hy]at hb;cases hb
 clear hall;cases B
 ·refine kC (c) ?_
  exact am
 ·cases hB):p:=e
theorem MA {p q:Prop} (h:q) (e:KH q->p:=by
 intro hK
 refine kU func76 ?_;refine fP ?_;refine K9 ?_;refine aD rfl rfl rfl rfl rfl rfl rfl (bv (a:=nm) (b:=nm') e2) ?_
 iterate 8 refine kO ?_
 refine kC (c1) ?_
 exact hK.out):p:=e ⟨h⟩
theorem Bo {p q:Prop} (h:q) (e:KH q->p:=by
 intro hK
 refine gI ?_;refine OO ?_;refine kQ (c) ?_
 exact hK.out):p:=e ⟨h⟩
theorem He {p q:Prop} (h:q) (e:KH q->p:=by
 intro hK
 refine aM ah cX func85 rfl rfl rfl rfl rfl (uX) ?_;refine gI ?_
 exact hK.out):p:=e ⟨h⟩
theorem FE {p q:Prop} (h:q) (e:KH q->p:=by
 intro hK
 refine kV func155 ?_;refine kC (jD (na:=na) hw c1) ?_
 exact hK.out):p:=e ⟨h⟩
theorem NW {p:Prop} (e:p:=by
 refine kG ?_;refine S2 ?_;generalize hz:w.take (w.length-k)++[46]++w.drop (w.length-k)=z;have hzB:=aB z;refine kG ?_;refine Q1 ?_;exact am):p:=e
theorem Fj {p q:Prop} (h:q) (e:KH q->p:=by
 intro hK
 refine kV func173 ?_;refine kC (lQ (na:=na) hw c1) ?_
 exact hK.out):p:=e ⟨h⟩
theorem MB {p q:Prop} (h:q) (e:KH q->p:=by
 intro hK
 refine kU func264 ?_;refine yS ?_;refine kG ?_
 refine kO4 ?_
 refine kB false ?_ ?_
 ·exact(by simpa using hn)
 refine kW ?_;refine kC (c) ?_
 exact hK.out):p:=e ⟨h⟩
theorem N1 {p q:Prop} (h:q) (e:KH q->p:=by
 intro hK
 refine kW ?_;refine aH (i:=0) (cs':=ab o1 na1 xs1 nb1 ys1 nm1 n1 cs1) (by decide) (La _) (Nat.zero_lt_succ 6) rfl rfl rfl rfl rfl rfl rfl rfl ?_
 exact hK.out):p:=e ⟨h⟩
theorem Nn {p q:Prop} (h:q) (e:KH q->p:=by
 intro hK
 refine Jr ?_;refine gI ?_;refine Jm ?_;refine kQ (cd) ?_;refine kZ (jm t (u::r) a 0) ?_;refine kD (cZ u r a 0) ?_
 exact hK.out):p:=e ⟨h⟩
theorem Mp {p:Prop} (e:p:=by
 refine kV func96 ?_;refine H3 ?_;refine kW ?_;refine ae (mx h s0 (by omega) e0) rfl rfl rfl rfl rfl rfl rfl ?_;exact am):p:=e
theorem Ou {p:Prop} (e:p:=by
 refine aD rfl rfl rfl rfl rfl rfl rfl (b7 (a:=l[i].1) (b:=s) e) ?_;refine P5 ?_;refine kO ?_;refine kC (xX l[i].1) ?_;exact am):p:=e
theorem M0 {p:Prop} (e:p:=by
 rcases Nat.lt_succ_iff_lt_or_eq.1 hi with h3|rfl
 ·exact hall i h3
 ·rw[List.getElem?_eq_getElem hlt,List.getElem?_eq_getElem hlt',he]):p:=e
theorem M9 {p q:Prop} (h:q) (e:KH q->p:=by
 intro hK
 refine kU func70 ?_;refine fP ?_;refine RW ?_;refine kB false ?_ ?_
 ·exact(by simp[e3])
 iterate 6 refine kO ?_
 refine kC (cs) ?_
 exact hK.out):p:=e ⟨h⟩
theorem M3 {p q:Prop} (h:q) (e:KH q->p:=by
 intro hK
 refine eT 5001 (m1:=0) (m2:=1) ah (by decide) (by decide) rfl rfl rfl rfl rfl rfl rfl rfl rfl rfl rfl (.nil rfl rfl) rfl rfl rfl ?_
 exact hK.out):p:=e ⟨h⟩
theorem HO {p q:Prop} (h:q) (e:KH q->p:=by
 intro hK
 refine ae (iQ (by omega) h2) rfl rfl rfl rfl rfl rfl rfl ?_
 exact hK.out):p:=e ⟨h⟩
theorem OK {p q:Prop} (h:q) (e:KH q->p:=by
 intro hK
 refine Sg ?_;refine ae (bw (decide_eq_false (show ¬(num b:Int)=1 by omega))) rfl rfl rfl rfl rfl rfl rfl ?_;refine kW ?_
 exact hK.out):p:=e ⟨h⟩
theorem Jk {p:Prop} (e:p:=by
 refine DO ?_;refine gG ?_;refine kC (f6) ?_;exact am):p:=e
theorem MD {p q:Prop} (h:q) (e:KH q->p:=by
 intro hK
 refine aH (i:=i) (cs':=ab o1 na1 xs1 nb1 ys1 nm1 n1 cs1) hlt hat (Nat.zero_lt_succ 6) rfl rfl rfl rfl rfl rfl rfl rfl ?_
 exact hK.out):p:=e ⟨h⟩
theorem Me {p:Prop} (e:p:=by
 refine kW ?_;refine ae (fE sn (sp.mono (by omega)) (by omega) hp0 hq) rfl rfl rfl rfl rfl rfl rfl ?_;exact am):p:=e
theorem Om {p:Prop} (e:p:=by
 refine ut ?_;refine fo (T:=TT) rfl ?_ ?_
 ·exact(G3.2 h0)
 refine fO ?_;rw[hcyc (hnN.trans h0)];rfl):p:=e
theorem Fq {p:Prop} (e:p:=by
 iterate 2 refine kG ?_
 refine kO ?_;refine kT ?_;exact am):p:=e
theorem Oy {p:Prop} (e:p:=by
 refine kW ?_;refine ae (gR 0 (by decide) (by decide) e.symm) rfl rfl rfl rfl rfl rfl rfl ?_;exact am):p:=e
theorem Nr {p:Prop} (e:p:=by
 split at h
 ·rename_i e1 r1 h1
  exact fun t ht=>gS f _ _ _ _ h1 t (gS f _ _ _ _ h t ht)
 ·exact mR):p:=e
theorem NQ {p:Prop} (e:p:=by
 rw[hev]at c3;refine kU func95 ?_;refine gG ?_;refine kQ (c2) ?_;refine kC (c3) ?_;exact am):p:=e
theorem NJ {p:Prop} (e:p:=by
 refine aM ah cX func121 rfl rfl rfl rfl rfl (fQ) ?_;refine gI ?_;refine Rh ?_;exact jt):p:=e
theorem IT {p:Prop} (e:p:=by
 refine kB false ?_ ?_
 ·exact(by simp[h])
 exact am):p:=e
theorem GY {p:Prop} (e:p:=by
 refine kW ?_;exact⟨⟨_,rfl,rfl,rfl⟩,⟨rfl,trivial⟩⟩):p:=e
theorem Gh {p:Prop} (e:p:=by
 refine gG ?_;refine kC (c2) ?_;refine kE ?_;exact am):p:=e
theorem Nt {p:Prop} (e:p:=by
 refine aM ah cX func78 rfl rfl rfl rfl rfl (fQ) ?_;refine gI ?_;refine Rh ?_;exact jt):p:=e
theorem Oh {p:Prop} (e:p:=by
 refine Je ?_;refine Hf ?_;refine kZ (jm t r2 a 0) ?_;refine kD (cy) ?_;exact jt):p:=e
theorem Nh {p:Prop} (e:p:=by
 refine tC ?_;refine aD rfl rfl rfl rfl rfl rfl rfl (jJ (a:=a) (b:=a) rfl) ?_;exact am):p:=e
theorem Od {p:Prop} (e:p:=by
 refine q9 703 ah rfl rfl rfl rfl rfl rfl rfl rfl ?_;refine Ij ?_;refine kW ?_;exact hR _ kw):p:=e
theorem Nj {p:Prop} (e:p:=by
 refine PN ?_;refine kD (cZ t (u::r4) a 0) ?_;refine Em ?_;refine kD (cy) ?_;exact jt):p:=e
theorem JH {p:Prop} (e:p:=by
 refine kT ?_;obtain rfl:b=true:=by rw[hb];simp[hnm,hl]
 exact am):p:=e
theorem Mu {p q:Prop} (h:q) (e:KH q->p:=by
 intro hK
 refine aH (i:=i) (cs':=eF p.1 o1 na1 xs1 nb1 ys1 nm1 n1 cs1) hlt hat (Nat.zero_lt_succ 7) rfl rfl rfl rfl rfl rfl rfl rfl ?_
 exact hK.out):p:=e ⟨h⟩
theorem MM {p:Prop} (e:p:=by
 by_cases hl:args.length=0
 ·refine kT ?_
  obtain rfl:b=true:=by rw[hb];simp[hl]
  exact am
 ·exact GD):p:=e
theorem H6 {p:Prop} (e:p:=by
 obtain rfl:b=false:=by rw[hb];simp[hnm]
 exact am):p:=e
end
end Go.Proofs.YtnchbpoopnjghaaGreatDoor
