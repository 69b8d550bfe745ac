/- Tactic texts that stand more than once. -/
import Derived.Test.YtnchbpoopnjghaaGreatDoorHK
import Derived.KernelRfl
import Derived.IntWalk
import Derived.Laws.BytesArg
import Derived.Laws.Strings2
import Derived.Laws.IdiomStrings
import Derived.Lib.Bytealg
import Derived.Shelf.Strconv.AppendUint10
import Derived.Maps.OwnIn
import Derived.RangeFuncCalls
import Derived.LaidMore
import Derived.Lay
import Derived.Stop.Joined
import Derived.SevenTiedAt
import Derived.Lib.AtoiErrMem
import Derived.Shelf.Vars
import Derived.Lib.AppendStr
import Derived.MapKept
import Derived.Defers
import Derived.ChangeMaps5
import Derived.Lib.Split
import Derived.Lib.Join
import Derived.Lib.IndexLaws
import Derived.Lib.AtoiAll
import Derived.Sort.Walk0
import Derived.Lib.RowBridge
import Derived.Laws.MakeOwn
import Derived.Lib.SplitLaws
import Derived.Lib.AppendZerosOnto
import Derived.Lib.Overlaps
import Derived.HandedShaped
import Derived.LaidLaws
import Derived.Laws.Runes
set_option maxHeartbeats 100000000
set_option linter.all false
namespace Go.Proofs.YtnchbpoopnjghaaGreatDoor
open Go.RowKit
section
open Go.ChangeShapes Go.WideShapes Go.ChangeAt Go.RowKit Go.Joins
open Go.RowKit Go.Shelf
open Go.Shelf Go.RowKit Go.Sort Go.Lib
open Go.Shelf Go.RowKit
open Go.RowKit Go.Joins
open Go.RowKit Go.Sort Go.Lib
open Go.RowKit Go.Lib
theorem ap {p:Prop} (e:p:=by
 exact kF):p:=e
theorem NQ {p q:Prop} (h:q) (e:KH q->p:=by
 intro hK
 refine IB ?_;refine kW ?_;refine kQ (ih) ?_;refine zP ?_;refine kW ?_
 exact hK.out):p:=e ⟨h⟩
theorem SA {p q:Prop} (h:q) (e:KH q->p:=by
 intro hK
 refine IB ?_;refine kW ?_
 exact hK.out):p:=e ⟨h⟩
theorem Mo {p q:Prop} (h:q) (e:KH q->p:=by
 intro hK
 refine kW ?_;refine aG (i:=1) (cs':=ab o2 na2 xs2 nb2 ys2 nm2 n2 cs2) (by decide) (mx _ rfl) (Nat.zero_lt_succ 6) rfl rfl rfl rfl rfl rfl rfl rfl ?_;refine kW ?_
 exact hK.out):p:=e ⟨h⟩
theorem gL {p q:Prop} (h:q) (e:KH q->p:=by
 intro hK
 refine kR ?_;refine kI ?_;refine kO ?_
 exact hK.out):p:=e ⟨h⟩
theorem fR {p q:Prop} (h:q) (e:KH q->p:=by
 intro hK
 refine kW ?_;refine bV (T:=TT) rfl ?_
 exact hK.out):p:=e ⟨h⟩
theorem ju {p:Prop} (e:p:=by
 refine kW ?_;exact⟨⟨_,rfl,rfl⟩,⟨rfl,trivial⟩⟩):p:=e
theorem Vz {p q:Prop} (h:q) (e:KH q->p:=by
 intro hK
 refine zP ?_;refine kW ?_
 exact hK.out):p:=e ⟨h⟩
theorem KL {p q:Prop} (h:q) (e:KH q->p:=by
 intro hK
 refine kW ?_;refine DY ?_
 exact hK.out):p:=e ⟨h⟩
theorem Vv {p:Prop} (e:p:=by
 refine kT ?_;refine kN ?_;refine bu (T:=TT) ?_;refine ee (T:=TT) rfl ?_;refine dV ?_
 repeat(first|refine bu (T:=TT) ?_|refine bW (T:=TT) ?_)
 refine bw (T:=TT) rfl ?_
 refine kO2 ?_
 refine kJ ((i+j:Nat)) ?_;refine cg (v':= .int .u64 ((i+j:Nat))) rfl rfl rfl rfl ?_ ?_
 ·exact congrArg (Value.int .u64) (by show IntKind.u64.wrap ((i+j:Nat):Int)=_;rw[IntWalk.u64_in _ (by omega)])
 refine cg (v':= .int .u64 (((i+j)/2:Nat))) rfl rfl rfl rfl ?_ ?_
 ·exact congrArg (Value.int .u64) (by show Int.fdiv ((i+j:Nat):Int) 2=_;rw[Int.fdiv_eq_ediv_of_nonneg _ (by decide)];rfl)
 refine cg (v':= .int .i64 (((i+j)/2:Nat))) rfl rfl rfl rfl ?_ ?_
 ·exact congrArg (Value.int .i64) (by show IntKind.i64.wrap (((i+j)/2:Nat):Int)=_;rw[IntWalk.i64_in _ (by omega)])
 have hm:(i+j)/2<l.length:=by omega
 refine Exists.elim (Exists.intro _ rfl:∃m,(i+j)/2=m) fun m hme=>?_
 rw[hme]at hm ⊢;have hx:l[m]? =some l[m]:=by simp[hm]
 refine kN ?_;refine kI ?_
 refine kO2 ?_
 refine aG (i:=m) (cs':=[.val (vL l[m].1)]) hm (N4 hx) (by simp) rfl rfl rfl rfl rfl rfl rfl rfl ?_
 refine kO2 ?_
 refine kC (LT l[m].1 s) ?_;refine kN ?_;cases hb2:Op.bytesLess l[m].1 s
 ·refine kW ?_
  have hpm:p<=m:=by
   rcases Nat.lt_or_ge m p with h|h
   ·have:=hp2 m _ h hx;rw[hb2]at this;cases this
   ·exact h
  exact⟨(i,m),⟨h1,hpm,by dsimp only;omega⟩,by dsimp only;omega,weak ⟨rfl,rfl,rfl,rfl,rfl,rfl,rfl,trivial⟩ trivial rfl⟩
 ·refine kW ?_
  have hmp:m<p:=by
   rcases Nat.lt_or_ge m p with h|h
   ·exact h
   ·have:=hp3 m _ h hx;rw[hb2]at this;cases this
  exact⟨(m+1,j),⟨hmp,h2,h3⟩,by dsimp only;omega,weak ⟨rfl,rfl,rfl,rfl,rfl,an (by omega) (by omega),rfl,trivial⟩ trivial rfl⟩):p:=e
theorem Lq {p q:Prop} (h:q) (e:KH q->p:=by
 intro hK
 refine kI ?_;refine kT ?_;refine Pi ?_;refine kW ?_;refine Nm ?_
 refine kO4 ?_
 refine mJ ((c2.rd (ts:=[.d (.agg (eE p.1 o1 na1 xs1 nb1 ys1 nm1 n1 cs1)), .own 6001 (List.cons a r).length 1 9]) (b:=[(6001,aO (List.cons a r))]) rfl rfl)) rfl rfl rfl rfl rfl ⟨rfl,trivial⟩ rfl rfl rfl rfl ?_
 exact hK.out):p:=e ⟨h⟩
theorem io {p q:Prop} (h:q) (e:KH q->p:=by
 intro hK
 refine kW ?_;refine kQ (c1) ?_
 exact hK.out):p:=e ⟨h⟩
theorem Fq {p q:Prop} (h:q) (e:KH q->p:=by
 intro hK
 refine Pi ?_;refine kW ?_
 exact hK.out):p:=e ⟨h⟩
theorem Sb {p q:Prop} (h:q) (e:KH q->p:=by
 intro hK
 refine kW ?_;refine Pn ?_
 exact hK.out):p:=e ⟨h⟩
theorem QN {p q:Prop} (h:q) (e:KH q->p:=by
 intro hK
 refine uU ?_;refine bY ⟨[(1, .d (iv l)),(2, .d (jF l)),(3, .box 0 0),(6, .box 1 0),(7, .d (dN .i64 0)),(12, .nil),(72, .d (.leaf (.sl 2 (ab o1 na1 xs1 nb1 ys1 nm1 n1 cs1++ab o2 na2 xs2 nb2 ys2 nm2 n2 cs2)))),(73, .d (dN .i64 2)),(74, .d (dN .i64 0))],[(0,some ([.val (.int .i64 (B4.add).code)]++iP++[.val (vL []), .sl 2 (ab o1 na1 xs1 nb1 ys1 nm1 n1 cs1++ab o2 na2 xs2 nb2 ys2 nm2 n2 cs2)])),(1,some ic)]⟩ kw ?_
 exact hK.out):p:=e ⟨h⟩
theorem Qf {p q:Prop} (h:q) (e:KH q->p:=by
 intro hK
 refine uU ?_;refine bY ⟨[(1, .d (iv l)),(2, .d (jF l)),(3, .box 0 0),(6, .box 1 0),(7, .d (dN .i64 0)),(12, .nil),(72, .d (.leaf (.sl 2 (ab o1 na1 xs1 nb1 ys1 nm1 n1 cs1++ab o2 na2 xs2 nb2 ys2 nm2 n2 cs2)))),(73, .d (dN .i64 2)),(74, .d (dN .i64 0))],[(0,some ([.val (.int .i64 (B4.div).code)]++iP++[.val (vL []), .sl 2 (ab o1 na1 xs1 nb1 ys1 nm1 n1 cs1++ab o2 na2 xs2 nb2 ys2 nm2 n2 cs2)])),(1,some ic)]⟩ kw ?_
 exact hK.out):p:=e ⟨h⟩
theorem Rt {p q:Prop} (h:q) (e:KH q->p:=by
 intro hK
 refine uU ?_;refine bY ⟨[(1, .d (iv l)),(2, .d (jF l)),(3, .box 0 0),(6, .box 1 0),(7, .d (dN .i64 0)),(12, .nil),(72, .d (.leaf (.sl 2 (ab o1 na1 xs1 nb1 ys1 nm1 n1 cs1++ab o2 na2 xs2 nb2 ys2 nm2 n2 cs2)))),(73, .d (dN .i64 2)),(74, .d (dN .i64 0))],[(0,some ([.val (.int .i64 (B4.mul).code)]++iP++[.val (vL []), .sl 2 (ab o1 na1 xs1 nb1 ys1 nm1 n1 cs1++ab o2 na2 xs2 nb2 ys2 nm2 n2 cs2)])),(1,some ic)]⟩ kw ?_
 exact hK.out):p:=e ⟨h⟩
theorem Q3 {p q:Prop} (h:q) (e:KH q->p:=by
 intro hK
 refine uU ?_;refine bY ⟨[(1, .d (iv l)),(2, .d (jF l)),(3, .box 0 0),(6, .box 1 0),(7, .d (dN .i64 0)),(12, .nil),(72, .d (.leaf (.sl 2 (ab o1 na1 xs1 nb1 ys1 nm1 n1 cs1++ab o2 na2 xs2 nb2 ys2 nm2 n2 cs2)))),(73, .d (dN .i64 2)),(74, .d (dN .i64 0))],[(0,some ([.val (.int .i64 (B4.sub).code)]++iP++[.val (vL []), .sl 2 (ab o1 na1 xs1 nb1 ys1 nm1 n1 cs1++ab o2 na2 xs2 nb2 ys2 nm2 n2 cs2)])),(1,some ic)]⟩ kw ?_
 exact hK.out):p:=e ⟨h⟩
theorem SN {p:Prop} (e:p:=by
 rintro j ⟨hj,hall⟩;refine kW ?_;refine fU rfl (fun h=>?_) (fun h=>?_)
 ·have hlt:j<xs.length:=by have:=of_decide_eq_true h;omega
  have hlt':j<ys.length:=by omega
  refine kW ?_;refine aG (cs':=[AV.val (bR xs[j])]) hlt (Po (by simp[hlt])) (Nat.lt_succ_self 0) rfl rfl rfl rfl rfl rfl rfl rfl ?_;refine kW ?_;refine aG (cs':=[AV.val (bR ys[j])]) hlt' (Po (by simp[hlt'])) (Nat.lt_succ_self 0) rfl rfl rfl rfl rfl rfl rfl rfl ?_;refine kW ?_;refine fU rfl (fun h2=>?_) (fun h2=>?_)
  ·refine kW ?_
   have hne:xs[j]≠ys[j]:=fun e=>by rw[e]at h2;simp at h2
   rw[yw (fun e=>hne (by subst e;rfl))];exact bV (T:=TT) rfl rfl
  ·have heq:xs[j]=ys[j]:=by simp at h2;omega
   refine kW ?_;refine⟨j+1,⟨hlt,fun i hi=>?_⟩,by omega,weak ⟨rfl,rfl,?_,trivial⟩ ⟨rfl,rfl,trivial⟩ rfl⟩
   ·rcases Nat.lt_succ_iff_lt_or_eq.1 hi with h3|rfl
    ·exact hall i h3
    ·rw[List.getElem?_eq_getElem hlt,List.getElem?_eq_getElem hlt',heq]
   ·exact an (by omega) (by omega)
 ·have hge:j=xs.length:=by have:=of_decide_eq_false h;omega
  refine ip ?_;refine kW ?_
  have he:xs=ys:=by
   apply List.ext_getElem? fun i=>?_
   exact CX
  rw[j0 he];exact bV (T:=TT) rfl rfl):p:=e
theorem TD {p q:Prop} (h:q) (e:KH q->p:=by
 intro hK
 refine kW ?_;refine sh (i:=0) (by decide) rfl rfl rfl rfl rfl rfl rfl rfl rfl ?_
 refine kO2 ?_
 refine sh (i:=1) (by decide) rfl rfl rfl rfl rfl rfl rfl rfl rfl ?_;refine kO ?_
 exact hK.out):p:=e ⟨h⟩
theorem Te {p:Prop} (e:p:=by
 refine Ky ?_;rw[<- htx]at h3
 refine kO3 ?_
 refine eV 13002 (m1:=(a::r).length) (m2:=1) ah (by decide) (by show((a::r).length+1)*32<=_;omega) rfl rfl rfl rfl rfl rfl rfl rfl rfl rfl rfl (.own rfl rfl) rfl rfl rfl ?_;refine kW ?_
 exact⟨(i+n,(a::r)++[(k,(s.take (i+n)).drop i,i)]),⟨by dsimp only;omega,by rw[List.length_append];dsimp only[List.length_cons,List.length_nil]at h2 ⊢;omega,f,by dsimp only;omega,h3⟩,by dsimp only;omega,by
  exact Eq.mpr (congrArg (aJ _) (D8 s (a::r) (k,(s.take (i+n)).drop i,i) (i+n))) (aJ.trans (b:=⟨[(0, .d (dL s)),(2, .nil),(3, .d (dN .i64 0)),(4, .d (dN .i64 0)),(5, .own 13002 ((a::r).length+1) 3 118),(6, .d (dN .i64 ((i+n:Nat))))],[(13002,some ((ga (a::r)).take ((a::r).length*3)++Bw (k,(s.take (i+n)).drop i,i)))]⟩) (weak ⟨rfl,rfl,rfl,rfl,rfl,an (by omega) (by omega),trivial⟩ ⟨rfl,trivial⟩ rfl) ((aV (q:=5) (j:=13002) (j':=13001) (m:=(a::r).length+1) (k:=3) (e:=118) (cs:=(ga (a::r)).take ((a::r).length*3)++Bw (k,(s.take (i+n)).drop i,i)) rfl rfl rfl rfl).trans kw))⟩):p:=e
theorem LG {p q:Prop} (h:q) (e:KH q->p:=by
 intro hK
 refine kQ (ih') ?_;refine eV 5002 (m1:=1) (m2:=1) ah (by decide) (by decide) rfl rfl rfl rfl rfl rfl rfl rfl rfl rfl rfl (.own rfl rfl) rfl rfl rfl ?_;refine kW ?_
 exact hK.out):p:=e ⟨h⟩
theorem Se {p:Prop} (e:p:=by
 refine Ky ?_;rw[<- htx]at h3
 refine kO3 ?_
 refine eV 13002 (m1:=0) (m2:=1) ah (by decide) (by decide) rfl rfl rfl rfl rfl rfl rfl rfl rfl rfl rfl (.nil rfl rfl) rfl rfl rfl ?_;refine kW ?_
 exact⟨(i+n,[]++[(k,(s.take (i+n)).drop i,i)]),⟨by dsimp only;omega,by simp;omega,f,by dsimp only;omega,h3⟩,by dsimp only;omega,by
  exact Eq.mpr (congrArg (aJ _) (D8 s ([]:List Tk) (k,(s.take (i+n)).drop i,i) (i+n))) (aJ.trans (b:=⟨[(0, .d (dL s)),(2, .nil),(3, .d (dN .i64 0)),(4, .d (dN .i64 0)),(5, .own 13002 (([]:List Tk).length+1) 3 118),(6, .d (dN .i64 ((i+n:Nat))))],[(13002,some ((ga ([]:List Tk)).take (([]:List Tk).length*3)++Bw (k,(s.take (i+n)).drop i,i)))]⟩) (weak ⟨rfl,rfl,rfl,rfl,rfl,an (by omega) (by omega),trivial⟩ ⟨rfl,trivial⟩ rfl) ((aV (q:=5) (j:=13002) (j':=13001) (m:=([]:List Tk).length+1) (k:=3) (e:=118) (cs:=(ga ([]:List Tk)).take (([]:List Tk).length*3)++Bw (k,(s.take (i+n)).drop i,i)) rfl rfl rfl rfl).trans kw))⟩):p:=e
theorem R7 {p q:Prop} (h:q) (e:KH q->p:=by
 intro hK
 refine kO4 ?_
 refine kJ ((w.length-k:Nat)) ?_;refine O5 ah (l:=w) (i:=w.length-k) (by omega) rfl rfl rfl rfl rfl rfl rfl rfl ?_;refine aq rfl rfl rfl rfl rfl rfl rfl (aD (a:=w.take (w.length-k)) (b:=[46]) (by simp;omega)) ?_
 refine kO4 ?_
 refine kJ ((w.length-k:Nat)) ?_;refine x7 ah (l:=w) (i:=w.length-k) (by omega) rfl rfl rfl rfl rfl rfl rfl rfl ?_;refine aq rfl rfl rfl rfl rfl rfl rfl (aD (a:=w.take (w.length-k)++[46]) (b:=w.drop (w.length-k)) (by simp;omega)) ?_
 exact hK.out):p:=e ⟨h⟩
theorem uk {p q:Prop} (h:q) (e:KH q->p:=by
 intro hK
 refine kB false ?_ ?_
 ·exact(by simp;omega)
 exact hK.out):p:=e ⟨h⟩
theorem T4 {p q:Prop} (h:q) (e:KH q->p:=by
 intro hK
 refine kW ?_;refine ae (rM (h.1.fit (by omega)) (h'.2.fit (by omega)) hgz) rfl rfl rfl rfl rfl rfl rfl ?_;refine kW ?_;refine ae (rM (h'.1.fit (by omega)) (h.2.fit (by omega)) htz) rfl rfl rfl rfl rfl rfl rfl ?_;refine kW ?_;refine ae (lc (h.1.fit (by omega)) (sg.fit (by omega)) (by omega) (r8 _ _)) rfl rfl rfl rfl rfl rfl rfl ?_;refine kW ?_;refine ae (lc (h'.1.fit (by omega)) (st.fit (by omega)) (by omega) (r8 _ _)) rfl rfl rfl rfl rfl rfl rfl ?_;refine kW ?_;refine ae (jn (s1.fit (by omega)) (s2.fit (by omega))) rfl rfl rfl rfl rfl rfl rfl ?_;refine kW ?_;refine ae (lc (h.2.fit (by omega)) (st.fit (by omega)) (by omega) (D6 _ _)) rfl rfl rfl rfl rfl rfl rfl ?_;refine kW ?_
 refine ae (lc (h'.2.fit (by omega)) (sg.fit (by omega)) (by omega) (D6 _ _)) rfl rfl rfl rfl rfl rfl rfl ?_;refine kW ?_;refine ae (jn (s3.fit (by omega)) (s4.fit (by omega))) rfl rfl rfl rfl rfl rfl rfl ?_
 exact hK.out):p:=e ⟨h⟩
theorem Tt {p q:Prop} (h:q) (e:KH q->p:=by
 intro hK
 refine bY ⟨[(1, .d (iv l)),(2, .d (jF l)),(3, .box 0 0),(6, .box 1 0),(7, .d (dN .i64 0)),(12, .own 5001 1 5 92),(72, .d (.leaf (.sl 2 (ab o1 na1 xs1 nb1 ys1 nm1 n1 cs1++ab o2 na2 xs2 nb2 ys2 nm2 n2 cs2)))),(73, .d (dN .i64 2)),(74, .d (dN .i64 1))],[(0,some ([.val (.int .i64 (B4.add).code)]++iP++[.val (vL []), .sl 2 (ab o1 na1 xs1 nb1 ys1 nm1 n1 cs1++ab o2 na2 xs2 nb2 ys2 nm2 n2 cs2)])),(1,some ic),(5001,some (lY x.1 x.2))]⟩ kw ?_
 exact hK.out):p:=e ⟨h⟩
theorem Su {p q:Prop} (h:q) (e:KH q->p:=by
 intro hK
 refine bY ⟨[(1, .d (iv l)),(2, .d (jF l)),(3, .box 0 0),(6, .box 1 0),(7, .d (dN .i64 0)),(12, .own 5001 1 5 92),(72, .d (.leaf (.sl 2 (ab o1 na1 xs1 nb1 ys1 nm1 n1 cs1++ab o2 na2 xs2 nb2 ys2 nm2 n2 cs2)))),(73, .d (dN .i64 2)),(74, .d (dN .i64 1))],[(0,some ([.val (.int .i64 (B4.div).code)]++iP++[.val (vL []), .sl 2 (ab o1 na1 xs1 nb1 ys1 nm1 n1 cs1++ab o2 na2 xs2 nb2 ys2 nm2 n2 cs2)])),(1,some ic),(5001,some (lY x.1 x.2))]⟩ kw ?_
 exact hK.out):p:=e ⟨h⟩
theorem Sm {p q:Prop} (h:q) (e:KH q->p:=by
 intro hK
 refine bY ⟨[(1, .d (iv l)),(2, .d (jF l)),(3, .box 0 0),(6, .box 1 0),(7, .d (dN .i64 0)),(12, .own 5001 1 5 92),(72, .d (.leaf (.sl 2 (ab o1 na1 xs1 nb1 ys1 nm1 n1 cs1++ab o2 na2 xs2 nb2 ys2 nm2 n2 cs2)))),(73, .d (dN .i64 2)),(74, .d (dN .i64 1))],[(0,some ([.val (.int .i64 (B4.mul).code)]++iP++[.val (vL []), .sl 2 (ab o1 na1 xs1 nb1 ys1 nm1 n1 cs1++ab o2 na2 xs2 nb2 ys2 nm2 n2 cs2)])),(1,some ic),(5001,some (lY x.1 x.2))]⟩ kw ?_
 exact hK.out):p:=e ⟨h⟩
theorem Sp {p q:Prop} (h:q) (e:KH q->p:=by
 intro hK
 refine bY ⟨[(1, .d (iv l)),(2, .d (jF l)),(3, .box 0 0),(6, .box 1 0),(7, .d (dN .i64 0)),(12, .own 5001 1 5 92),(72, .d (.leaf (.sl 2 (ab o1 na1 xs1 nb1 ys1 nm1 n1 cs1++ab o2 na2 xs2 nb2 ys2 nm2 n2 cs2)))),(73, .d (dN .i64 2)),(74, .d (dN .i64 1))],[(0,some ([.val (.int .i64 (B4.sub).code)]++iP++[.val (vL []), .sl 2 (ab o1 na1 xs1 nb1 ys1 nm1 n1 cs1++ab o2 na2 xs2 nb2 ys2 nm2 n2 cs2)])),(1,some ic),(5001,some (lY x.1 x.2))]⟩ kw ?_
 exact hK.out):p:=e ⟨h⟩
theorem At {p q:Prop} (h:q) (e:KH q->p:=by
 intro hK
 refine kN ?_;refine bu (T:=TT) ?_;refine dM (T:=TT) rfl ?_;refine ip ?_
 exact hK.out):p:=e ⟨h⟩
theorem tt {p q:Prop} (h:q) (e:KH q->p:=by
 intro hK
 refine kG ?_;refine kO ?_;refine aq rfl rfl rfl rfl rfl rfl rfl (uy (a:=a) (b:=10) (by decide)) ?_
 refine kO2 ?_
 refine TM ah (c:=dg (a%10)) ⟨?_,?_,?_⟩ rfl rfl rfl rfl rfl rfl rfl rfl ?_
 ·rw[IntWalk.i64_in _ (by omega),IntWalk.i32_in _ (by omega)];omega
 ·rw[IntWalk.i64_in _ (by omega),IntWalk.i32_in _ (by omega)];omega
 ·rw[IntWalk.i64_in _ (by omega),IntWalk.i32_in _ (by omega)];unfold dg;congr 1
 refine kO ?_;refine aq rfl rfl rfl rfl rfl rfl rfl (aD (a:=[dg (a%10)]) (b:=t) (by simp;omega)) ?_;refine kG ?_;refine kO ?_;refine aq rfl rfl rfl rfl rfl rfl rfl (u4 (a:=a) (b:=10) (by decide) (by omega)) ?_;refine kW ?_;refine⟨(a/10,dg (a%10)::t),⟨Nat.le_trans (Nat.div_le_self _ _) ha, .inr ⟨by simp,hst⟩⟩,?_,weak ⟨rfl,rfl,trivial⟩ trivial rfl⟩;dsimp only
 exact hK.out):p:=e ⟨h⟩
theorem Ti {p q:Prop} (h:q) (e:KH q->p:=by
 intro hK
 repeat(first|refine bu (T:=TT) ?_|refine bW (T:=TT) ?_)
 refine bw (T:=TT) rfl ?_
 exact hK.out):p:=e ⟨h⟩
theorem Qh {p q:Prop} (h:q) (e:KH q->p:=by
 intro hK
 refine kI ?_;refine kX ?_
 exact hK.out):p:=e ⟨h⟩
theorem gM {p q:Prop} (h:q) (e:KH q->p:=by
 intro hK
 refine kV func87 ?_
 exact hK.out):p:=e ⟨h⟩
theorem mH {p q:Prop} (h:q) (e:KH q->p:=by
 intro hK
 refine kR ?_;refine kI ?_
 refine kO4 ?_
 exact hK.out):p:=e ⟨h⟩
theorem ug {p q:Prop} (h:q) (e:KH q->p:=by
 intro hK
 refine kO ?_;refine kY ?_
 exact hK.out):p:=e ⟨h⟩
theorem tK {p q:Prop} (h:q) (e:KH q->p:=by
 intro hK
 refine kO2 ?_
 refine kY ?_
 exact hK.out):p:=e ⟨h⟩
theorem L7 {p q:Prop} (h:q) (e:KH q->p:=by
 intro hK
 refine kN ?_;refine kI ?_;refine kO ?_;refine kB true ?_ ?_
 ·exact(by simpa using hz)
 exact hK.out):p:=e ⟨h⟩
theorem S5 {p q:Prop} (h:q) (e:KH q->p:=by
 intro hK
 refine kV func313 ?_;refine kQ (I1 s) ?_;refine gU (T:=TT) rfl ?_ ?_
 ·exact decide_eq_false (by omega)
 refine kW ?_;refine kC (c1) ?_
 exact hK.out):p:=e ⟨h⟩
theorem AH {p q:Prop} (h:q) (e:KH q->p:=by
 intro hK
 refine bu ?_;refine bw rfl ?_
 exact hK.out):p:=e ⟨h⟩
theorem Ic {p q:Prop} (h:q) (e:KH q->p:=by
 intro hK
 refine kW ?_;refine kC (sG) ?_
 refine kO3 ?_
 refine Pt ?_;refine kW ?_;refine kC (c) ?_
 exact hK.out):p:=e ⟨h⟩
theorem Ud {p q:Prop} (h:q) (e:KH q->p:=by
 intro hK
 refine kW ?_;refine ae (dl (h.1.fit (by omega)) (h'.2.fit (by omega))) rfl rfl rfl rfl rfl rfl rfl ?_;refine kW ?_;refine ae (dl (h'.1.fit (by omega)) (h.2.fit (by omega))) rfl rfl rfl rfl rfl rfl rfl ?_;refine kW ?_;refine ae (oe ((h.1.mul h'.2).fit (by omega)) ((h'.1.mul h.2).fit (by omega))) rfl rfl rfl rfl rfl rfl rfl ?_;refine kW ?_;refine ae (dl (h.2.fit (by omega)) (h'.2.fit (by omega))) rfl rfl rfl rfl rfl rfl rfl ?_;refine kW ?_;refine ae (fL (k:=j+k+1) ((h.1.mul h'.2).add ((h'.1.mul h.2).mono (by omega))) ((h.2.mul h'.2).mono (by omega)) hk d0 (tj a b)) rfl rfl rfl rfl rfl rfl rfl ?_
 exact hK.out):p:=e ⟨h⟩
theorem Sf {p q:Prop} (h:q) (e:KH q->p:=by
 intro hK
 refine PL ?_;refine IC ?_;refine kW ?_;refine ae (cU (decide_eq_false (show ¬(num b:Int)=0 by omega))) rfl rfl rfl rfl rfl rfl rfl ?_;refine kW ?_
 exact hK.out):p:=e ⟨h⟩
theorem Qu {p q:Prop} (h:q) (e:KH q->p:=by
 intro hK
 refine kC (cl) ?_;refine kO ?_;refine kB false ?_ ?_
 ·exact decide_eq_false (by show ¬((4:Nat):Int)<_;omega)
 refine kW ?_
 exact hK.out):p:=e ⟨h⟩
theorem M9 {p q:Prop} (h:q) (e:KH q->p:=by
 intro hK
 refine kO3 ?_
 refine aq rfl rfl rfl rfl rfl rfl rfl (bL (a:=nx) (b:=[]) h0) ?_
 refine kO4 ?_
 refine aq rfl rfl rfl rfl rfl rfl rfl (UG (a:=p.1) (b:=nx) hls) ?_;refine kW ?_
 exact hK.out):p:=e ⟨h⟩
theorem IZ {p q:Prop} (h:q) (e:KH q->p:=by
 intro hK
 refine kW ?_;refine aG (i:=0) (cs':=ab o1 na1 xs1 nb1 ys1 nm1 n1 cs1) (by decide) (My _) (Nat.zero_lt_succ 6) rfl rfl rfl rfl rfl rfl rfl rfl ?_
 exact hK.out):p:=e ⟨h⟩
theorem pU {p q:Prop} (h:q) (e:KH q->p:=by
 intro hK
 refine kB true ?_ ?_
 ·exact(by simp;omega)
 exact hK.out):p:=e ⟨h⟩
theorem yx {p q:Prop} (h:q) (e:KH q->p:=by
 intro hK
 refine aq rfl rfl rfl rfl rfl rfl rfl (iA (a:=s) (b:=[]) hne) ?_
 refine kO3 ?_
 exact hK.out):p:=e ⟨h⟩
theorem R6 {p:Prop} (e:p:=by
 intro k
 induction k with
 |zero=>intro _;exact⟨[],rfl,fun i r h=>by simp at h⟩
 |succ k ihk=>
  intro hk;obtain⟨rows,h1,h2⟩:=ihk (by omega);obtain⟨r,us,h3,h4,h5⟩:=hrow k (by omega);refine⟨rows++[r],by simp[h1],fun i q hq=>?_⟩
  by_cases hi:i<rows.length
  ·rw[List.getElem?_append_left hi]at hq;exact h2 i q hq
  ·have hil:=(List.getElem?_eq_some_iff.1 hq).1
   simp at hil
   have:i=k:=by omega
   subst this;rw[List.getElem?_append_right (by omega),h1,Nat.sub_self]at hq
   simp at hq
   subst hq;exact⟨us,h3,h4,h5⟩):p:=e
theorem Bj {p q:Prop} (h:q) (e:KH q->p:=by
 intro hK
 refine kW ?_;refine gU (T:=TT) rfl ?_ ?_
 ·exact decide_eq_false (by omega)
 exact hK.out):p:=e ⟨h⟩
theorem TC {p q:Prop} (h:q) (e:KH q->p:=by
 intro hK
 refine kO3 ?_
 refine kY ?_
 exact hK.out):p:=e ⟨h⟩
theorem AC {p q:Prop} (h:q) (e:KH q->p:=by
 intro hK
 refine kN ?_;refine kI ?_;refine kO ?_
 exact hK.out):p:=e ⟨h⟩
theorem A6 {p q:Prop} (h:q) (e:KH q->p:=by
 intro hK
 refine aq rfl rfl rfl rfl rfl rfl rfl (bv (a:=nm) (b:=[]) (of_decide_eq_true hz)) ?_;refine kW ?_
 exact hK.out):p:=e ⟨h⟩
theorem Vc {p q:Prop} (h:q) (e:KH q->p:=by
 intro hK
 refine bw rfl ?_
 refine kO2 ?_
 exact hK.out):p:=e ⟨h⟩
theorem FN {p q:Prop} (h:q) (e:KH q->p:=by
 intro hK
 refine kO ?_;refine kX ?_
 exact hK.out):p:=e ⟨h⟩
theorem Cg {p q:Prop} (h:q) (e:KH q->p:=by
 intro hK
 refine kW ?_;refine kZ (cis) ?_
 exact hK.out):p:=e ⟨h⟩
theorem Kx {p q:Prop} (h:q) (e:KH q->p:=by
 intro hK
 refine aG (i:=i) (cs':=ab o1 na1 xs1 nb1 ys1 nm1 n1' cs1) hlt hat (Nat.zero_lt_succ 6) rfl rfl rfl rfl rfl rfl rfl rfl ?_
 exact hK.out):p:=e ⟨h⟩
theorem Ix {p q:Prop} (h:q) (e:KH q->p:=by
 intro hK
 refine kO3 ?_
 refine kT ?_
 refine kO3 ?_
 exact hK.out):p:=e ⟨h⟩
theorem K9 {p q:Prop} (h:q) (e:KH q->p:=by
 intro hK
 refine aS ah dq func229 rfl rfl rfl rfl rfl (gA) ?_;refine kW ?_
 exact hK.out):p:=e ⟨h⟩
theorem LP {p:Prop} (e:p:=by
 rename_i hn;exact absurd h (hn e r)):p:=e
theorem nD {p q:Prop} (h:q) (e:KH q->p:=by
 intro hK
 refine kV func17 ?_;refine kQ (cS) ?_;refine kQ (cA) ?_
 exact hK.out):p:=e ⟨h⟩
theorem QA {p q:Prop} (h:q) (e:KH q->p:=by
 intro hK
 refine bY ⟨[(1, .d (iv l)),(2, .d (jF l)),(3, .box 0 0),(6, .box 1 0),(7, .d (dN .i64 0)),(12, .own 5002 2 5 92),(72, .d (.leaf (.sl 2 (ab o1 na1 xs1 nb1 ys1 nm1 n1 cs1++ab o2 na2 xs2 nb2 ys2 nm2 n2 cs2)))),(73, .d (dN .i64 2)),(74, .d (dN .i64 2))],[(0,some ([.val (.int .i64 (B4.add).code)]++iP++[.val (vL []), .sl 2 (ab o1 na1 xs1 nb1 ys1 nm1 n1 cs1++ab o2 na2 xs2 nb2 ys2 nm2 n2 cs2)])),(1,some ic),(5002,some (lY x.1 x.2++lY y.1 y.2))]⟩ kw ?_
 exact hK.out):p:=e ⟨h⟩
theorem U6 {p q:Prop} (h:q) (e:KH q->p:=by
 intro hK
 refine bY ⟨[(1, .d (iv l)),(2, .d (jF l)),(3, .box 0 0),(6, .box 1 0),(7, .d (dN .i64 0)),(12, .own 5002 2 5 92),(72, .d (.leaf (.sl 2 (ab o1 na1 xs1 nb1 ys1 nm1 n1 cs1++ab o2 na2 xs2 nb2 ys2 nm2 n2 cs2)))),(73, .d (dN .i64 2)),(74, .d (dN .i64 2))],[(0,some ([.val (.int .i64 (B4.div).code)]++iP++[.val (vL []), .sl 2 (ab o1 na1 xs1 nb1 ys1 nm1 n1 cs1++ab o2 na2 xs2 nb2 ys2 nm2 n2 cs2)])),(1,some ic),(5002,some (lY x.1 x.2++lY y.1 y.2))]⟩ kw ?_
 exact hK.out):p:=e ⟨h⟩
theorem Vi {p q:Prop} (h:q) (e:KH q->p:=by
 intro hK
 refine bY ⟨[(1, .d (iv l)),(2, .d (jF l)),(3, .box 0 0),(6, .box 1 0),(7, .d (dN .i64 0)),(12, .own 5002 2 5 92),(72, .d (.leaf (.sl 2 (ab o1 na1 xs1 nb1 ys1 nm1 n1 cs1++ab o2 na2 xs2 nb2 ys2 nm2 n2 cs2)))),(73, .d (dN .i64 2)),(74, .d (dN .i64 2))],[(0,some ([.val (.int .i64 (B4.mul).code)]++iP++[.val (vL []), .sl 2 (ab o1 na1 xs1 nb1 ys1 nm1 n1 cs1++ab o2 na2 xs2 nb2 ys2 nm2 n2 cs2)])),(1,some ic),(5002,some (lY x.1 x.2++lY y.1 y.2))]⟩ kw ?_
 exact hK.out):p:=e ⟨h⟩
theorem U2 {p q:Prop} (h:q) (e:KH q->p:=by
 intro hK
 refine bY ⟨[(1, .d (iv l)),(2, .d (jF l)),(3, .box 0 0),(6, .box 1 0),(7, .d (dN .i64 0)),(12, .own 5002 2 5 92),(72, .d (.leaf (.sl 2 (ab o1 na1 xs1 nb1 ys1 nm1 n1 cs1++ab o2 na2 xs2 nb2 ys2 nm2 n2 cs2)))),(73, .d (dN .i64 2)),(74, .d (dN .i64 2))],[(0,some ([.val (.int .i64 (B4.sub).code)]++iP++[.val (vL []), .sl 2 (ab o1 na1 xs1 nb1 ys1 nm1 n1 cs1++ab o2 na2 xs2 nb2 ys2 nm2 n2 cs2)])),(1,some ic),(5002,some (lY x.1 x.2++lY y.1 y.2))]⟩ kw ?_
 exact hK.out):p:=e ⟨h⟩
theorem UU {p q:Prop} (h:q) (e:KH q->p:=by
 intro hK
 refine aq rfl rfl rfl rfl rfl rfl rfl (bL (a:=nm) (b:=[]) (of_decide_eq_false hz)) ?_
 exact hK.out):p:=e ⟨h⟩
theorem Ug {p:Prop} (e:p:=by
 rw[hb]at c;refine kZ (c) ?_;refine⟨i+1,?_,by omega,weak ⟨rfl,rfl,rfl,rfl,an (by omega) (by omega),trivial⟩ ⟨rfl,trivial⟩ rfl⟩
 by_cases e:i=f
 ·have:=hyi e;rw[hb]at this;cases this
 ·omega):p:=e
theorem UW {p q:Prop} (h:q) (e:KH q->p:=by
 intro hK
 refine gr ah (i:=0) (c:=c) rfl rfl rfl rfl rfl rfl rfl rfl rfl ?_
 exact hK.out):p:=e ⟨h⟩
theorem Qa {p q:Prop} (h:q) (e:KH q->p:=by
 intro hK
 refine gr ah (i:=i) (c:=c) hx rfl rfl rfl rfl rfl rfl rfl rfl ?_
 exact hK.out):p:=e ⟨h⟩
theorem Bx {p q:Prop} (h:q) (e:KH q->p:=by
 intro hK
 refine kR ?_;refine kI ?_
 refine kO2 ?_
 exact hK.out):p:=e ⟨h⟩
theorem TA {p q:Prop} (h:q) (e:KH q->p:=by
 intro hK
 refine kT ?_
 refine kO2 ?_
 refine kE ?_
 exact hK.out):p:=e ⟨h⟩
theorem Mu {p q:Prop} (h:q) (e:KH q->p:=by
 intro hK
 refine kZ (cis) ?_;refine kZ (jg t r2 a 0) ?_;refine kZ (cy) ?_
 exact hK.out):p:=e ⟨h⟩
theorem zJ {p q:Prop} (h:q) (e:KH q->p:=by
 intro hK
 iterate 2 refine kG ?_
 refine kO ?_;refine kE ?_
 refine kO2 ?_
 exact hK.out):p:=e ⟨h⟩
theorem US {p:Prop} (e:p:=by
 refine kW ?_;exact .inl ⟨⟨_,rfl,rfl⟩,⟨rfl,rfl,trivial⟩⟩):p:=e
theorem FL {p q:Prop} (h:q) (e:KH q->p:=by
 intro hK
 rw[qb,if_neg (by decide),if_neg (by decide),if_neg (by decide),if_pos (by decide),decide_eq_false hl,Bool.and_false,Bool.false_and]
 exact hK.out):p:=e ⟨h⟩
theorem xO {p q:Prop} (h:q) (e:KH q->p:=by
 intro hK
 refine zd ?_;refine kW ?_;refine kC (c1) ?_
 exact hK.out):p:=e ⟨h⟩
theorem Mb {p q:Prop} (h:q) (e:KH q->p:=by
 intro hK
 refine kW ?_;refine ae (bl (neg:=false) (xs:=digs u) (ac _) (show bC false (digs u)=((Nat.gcd (val xs) (val ys):Nat):Int) by rw[xv,<- hg];rfl)) rfl rfl rfl rfl rfl rfl rfl ?_
 exact hK.out):p:=e ⟨h⟩
theorem U4 {p q:Prop} (h:q) (e:KH q->p:=by
 intro hK
 refine kV func133 ?_;refine ry 2 ?_;refine bY ⟨[(1, .d (iv l)),(2, .d (jF l)),(3, .box 0 0),(6, .box 1 0),(7, .d (dN .i64 0)),(12, .nil),(72, .d (.leaf (.sl 1 (ab o1 na1 xs1 nb1 ys1 nm1 n1 cs1)))),(73, .d (dN .i64 1)),(74, .d (dN .i64 0))],[(0,some ([.val (.int .i64 3)]++iP++[.val (vL []), .sl 1 (ab o1 na1 xs1 nb1 ys1 nm1 n1 cs1)])),(1,some ic)]⟩ kw ?_
 exact hK.out):p:=e ⟨h⟩
theorem Qe {p q:Prop} (h:q) (e:KH q->p:=by
 intro hK
 show aa Tryz.prog _ [.agg (ab op na xs nb ys nm args.length (dY args))] _
 exact hK.out):p:=e ⟨h⟩
theorem Un {p q:Prop} (h:q) (e:KH q->p:=by
 intro hK
 refine aq rfl rfl rfl rfl rfl rfl rfl (bv (a:=nm) (b:=[]) hnm) ?_
 refine kO5 ?_
 exact hK.out):p:=e ⟨h⟩
theorem F9 {p q:Prop} (h:q) (e:KH q->p:=by
 intro hK
 refine Q7 underlying166 underlying9 rfl rfl rfl rfl rfl ⟨rfl,rfl,rfl⟩ rfl rfl rfl rfl ?_;refine kW ?_;refine kD (h) ?_
 exact hK.out):p:=e ⟨h⟩
theorem Ub {p q:Prop} (h:q) (e:KH q->p:=by
 intro hK
 refine kO3 ?_
 refine aG (i:=i) (cs':=[.val (vL l[i].1)]) hil (N4 hx) (by simp) rfl rfl rfl rfl rfl rfl rfl rfl ?_
 exact hK.out):p:=e ⟨h⟩
theorem R5 {p q:Prop} (h:q) (e:KH q->p:=by
 intro hK
 refine aq rfl rfl rfl rfl rfl rfl rfl (bL (a:=nm) (b:=[]) hnm) ?_
 exact hK.out):p:=e ⟨h⟩
theorem QP {p q:Prop} (h:q) (e:KH q->p:=by
 intro hK
 refine kN ?_;refine kI ?_
 refine kO3 ?_
 exact hK.out):p:=e ⟨h⟩
theorem QB {p q:Prop} (h:q) (e:KH q->p:=by
 intro hK
 refine kW ?_;refine aG (i:=i) (cs':=[.val (.int .i64 z)]) hlt hat (Nat.zero_lt_succ 0) rfl rfl rfl rfl rfl rfl rfl rfl ?_
 exact hK.out):p:=e ⟨h⟩
theorem wV {p q:Prop} (h:q) (e:KH q->p:=by
 intro hK
 refine aG (i:=i) (cs':=[.val (.int .i64 z)]) hlt (bf hz) (Nat.zero_lt_succ 0) rfl rfl rfl rfl rfl rfl rfl rfl ?_
 exact hK.out):p:=e ⟨h⟩
theorem Mq {p:Prop} (e:p:=by
 funext q
 apply propext
 constructor
 ·rintro(h1|h1)
  ·exact h1.1
  ·exact bxown q h1
 ·intro h1
  by_cases h2:BX g b q
  ·exact .inr h2
  ·exact .inl ⟨h1,h2⟩):p:=e
theorem M3 {p q:Prop} (h:q) (e:KH q->p:=by
 intro hK
 refine kQ (cT) ?_;refine kZ (cs) ?_;refine kD (cn) ?_;refine kO ?_
 exact hK.out):p:=e ⟨h⟩
theorem Re {p q:Prop} (h:q) (e:KH q->p:=by
 intro hK
 rw[qb,if_neg (by decide),if_neg (by decide),if_neg (by decide),if_pos (by decide),decide_eq_true hl,Bool.and_true]
 exact hK.out):p:=e ⟨h⟩
theorem Vl {p:Prop} (e:p:=by
 refine⟨jc K (fmt (pw q K).num),?_,fun u h=>?_⟩
 ·have:(fg q).isSome=decide ((jc K (fmt (pw q K).num)).length<=40):=by
   rw[h2]
   split
   ·rename_i h;simp[h]
   ·rename_i h;simp[h]
  rw[this];exact main _ _ (fun h=>by omega) (fun _=>⟨rfl,rfl⟩)
 ·rw[h2]at h
  split at h
  ·cases h;rfl
  ·cases h):p:=e
theorem Nb {p:Prop} (e:p:=by
 refine Fs ah rfl rfl rfl rfl rfl rfl rfl rfl ?_;refine kW ?_;refine Ke 1003 (m1:=0) (m2:=1) (cs2:=x) ah (by decide) (by decide) (by rw[hx];exact Nat.le_refl _) rfl rfl rfl rfl rfl rfl rfl rfl rfl (.nil rfl rfl) rfl rfl rfl ?_ rfl ?_
 ·rw[eZ hB];rfl
 refine kW ?_;exact⟨⟨_,rfl,rfl,rfl⟩,⟨congrArg some hcs,trivial⟩⟩):p:=e
theorem SZ {p q:Prop} (h:q) (e:KH q->p:=by
 intro hK
 refine kV func56 ?_;refine kQ (cE) ?_;refine kC (cL) ?_
 exact hK.out):p:=e ⟨h⟩
theorem T1 {p q:Prop} (h:q) (e:KH q->p:=by
 intro hK
 refine kB false ?_ ?_
 ·exact(by simp[e1])
 refine kO5 ?_
 refine aq rfl rfl rfl rfl rfl rfl rfl (gx (a:=nm) (b:=nm') e2) ?_
 iterate 8 refine kO ?_
 exact hK.out):p:=e ⟨h⟩
theorem HZ {p q:Prop} (h:q) (e:KH q->p:=by
 intro hK
 refine kI ?_;refine kY ?_
 exact hK.out):p:=e ⟨h⟩
theorem R3 {p:Prop} (e:p:=by
 refine kX ?_
 exact⟨(i+1,acc),⟨hlt,by dsimp only;omega,f,by dsimp only;omega,h3⟩,by dsimp only;omega,by
  cases acc
  ·exact weak ⟨rfl,rfl,rfl,rfl,rfl,an (by omega) (by omega),trivial⟩ trivial rfl
  ·exact weak ⟨rfl,rfl,rfl,rfl,rfl,an (by omega) (by omega),trivial⟩ ⟨rfl,trivial⟩ rfl⟩):p:=e
theorem zf {p q:Prop} (h:q) (e:KH q->p:=by
 intro hK
 refine kT ?_
 refine kO2 ?_
 refine kT ?_
 exact hK.out):p:=e ⟨h⟩
theorem To {p q:Prop} (h:q) (e:KH q->p:=by
 intro hK
 refine kC (d) ?_;refine kG ?_
 iterate 6 refine kO ?_
 refine kQ (s1) ?_;refine kC (mu) ?_;refine kQ (su) ?_;refine kC (sg1) ?_;refine kO ?_;refine kC (sg2) ?_;refine cg (v':= .int .i64 (w)) rfl rfl rfl rfl ?_ ?_
 ·exact congrArg (Value.int .i64) (by rw[hwe];exact IntWalk.i64_in _ (by omega))
 exact hK.out):p:=e ⟨h⟩
theorem zh {p q:Prop} (h:q) (e:KH q->p:=by
 intro hK
 refine kW ?_;refine ae (dl (h.1.fit (by omega)) (h'.1.fit (by omega))) rfl rfl rfl rfl rfl rfl rfl ?_;refine kW ?_;refine ae (dl (h.2.fit (by omega)) (h'.2.fit (by omega))) rfl rfl rfl rfl rfl rfl rfl ?_;refine kW ?_;refine kC (fL (h.1.mul h'.1) (h.2.mul h'.2) hk d0 (qK a b)) ?_
 exact hK.out):p:=e ⟨h⟩
theorem Tg {p q:Prop} (h:q) (e:KH q->p:=by
 intro hK
 refine kO3 ?_
 refine cg (v':= .bool (decide (z.length<=40))) rfl rfl rfl rfl ?_ ?_
 ·exact congrArg Value.bool (decide_eq_decide.2 (by omega))
 exact hK.out):p:=e ⟨h⟩
theorem C9 {p q:Prop} (h:q) (e:KH q->p:=by
 intro hK
 refine aq rfl rfl rfl rfl rfl rfl rfl (gx (a:=[]) (b:=[]) rfl) ?_
 exact hK.out):p:=e ⟨h⟩
theorem OP {p q:Prop} (h:q) (e:KH q->p:=by
 intro hK
 refine JK ?_;refine kW ?_;refine kQ (km (na:=nb) hw' c2) ?_
 exact hK.out):p:=e ⟨h⟩
theorem TI {p q:Prop} (h:q) (e:KH q->p:=by
 intro hK
 refine kW ?_;refine kQ (n1) ?_;refine kC (n2) ?_
 exact hK.out):p:=e ⟨h⟩
theorem zA {p q:Prop} (h:q) (e:KH q->p:=by
 intro hK
 refine x6 ?_;refine kW ?_;refine kQ (md (na:=nb) hw' c2) ?_
 exact hK.out):p:=e ⟨h⟩
theorem u9 {p q:Prop} (h:q) (e:KH q->p:=by
 intro hK
 refine kG ?_
 refine kO2 ?_
 refine aq rfl rfl rfl rfl rfl rfl rfl (iA (a:=u) (b:=[]) hu) ?_;refine kG ?_
 refine kO3 ?_
 exact hK.out):p:=e ⟨h⟩
theorem On {p:Prop} (e:p:=by
 exact congrArg (fun b=>RV.one (dB b)) (by rw[<- hb];rfl)):p:=e
theorem NB {p q:Prop} (h:q) (e:KH q->p:=by
 intro hK
 refine aG (i:=i) (cs':=eE p.1 o1 na1 xs1 nb1 ys1 nm1 n1 cs1) hil hat (Nat.zero_lt_succ 7) rfl rfl rfl rfl rfl rfl rfl rfl ?_;refine kW ?_
 exact hK.out):p:=e ⟨h⟩
theorem y8 {p q:Prop} (h:q) (e:KH q->p:=by
 intro hK
 refine kI ?_;refine kO ?_;refine kT ?_;refine kG ?_;refine kO ?_;refine aq rfl rfl rfl rfl rfl rfl rfl hrem ?_;refine kW ?_;refine ae (mul i j (by omega) (by omega)) rfl rfl rfl rfl rfl rfl rfl ?_;refine kG ?_;refine kO ?_;refine aq rfl rfl rfl rfl rfl rfl rfl hquo ?_;refine kG ?_
 exact hK.out):p:=e ⟨h⟩
theorem Ok {p q:Prop} (h:q) (e:KH q->p:=by
 intro hK
 refine kR ?_;refine kI ?_
 refine kO3 ?_
 exact hK.out):p:=e ⟨h⟩
theorem CN {p q:Prop} (h:q) (e:KH q->p:=by
 intro hK
 refine kW ?_;refine aG (i:=i) (cs':=[.val (vL q)]) hlt (eX hx) (Nat.zero_lt_succ 0) rfl rfl rfl rfl rfl rfl rfl rfl ?_;refine kO ?_
 exact hK.out):p:=e ⟨h⟩
theorem KA {p q:Prop} (h:q) (e:KH q->p:=by
 intro hK
 refine fW (i:=1) underlying171 (by kernel_rfl) (by decide) rfl rfl rfl rfl rfl rfl ?_
 exact hK.out):p:=e ⟨h⟩
theorem NL {p q:Prop} (h:q) (e:KH q->p:=by
 intro hK
 refine kW ?_;refine ae (QJ ha (by omega)) rfl rfl rfl rfl rfl rfl rfl ?_;refine kW ?_
 exact hK.out):p:=e ⟨h⟩
theorem Jv {p q:Prop} (h:q) (e:KH q->p:=by
 intro hK
 refine gr ah (i:=n) (c:=s[n]) hx rfl rfl rfl rfl rfl rfl rfl rfl ?_;refine kT ?_;refine kG ?_
 refine kO2 ?_
 refine kJ ((n+1:Nat)) ?_;refine x7 ah (i:=n+1) (by omega) rfl rfl rfl rfl rfl rfl rfl rfl ?_;refine kC (c2) ?_;refine kG ?_;refine kO ?_
 exact hK.out):p:=e ⟨h⟩
theorem Nx {p:Prop} (e:p:=by
 rw[hb]at c;refine kQ (c) ?_
 exact⟨i+1,⟨hlt,fun q y h1 h2=>by
  by_cases e:q=i
  ·subst e;rw[hx]at h2;cases h2;exact hb
  ·exact hq q y (by omega) h2⟩,by omega,weak ⟨rfl,rfl,an (by omega) (by omega),trivial⟩ ⟨rfl,trivial⟩ rfl⟩):p:=e
theorem qW {p q:Prop} (h:q) (e:KH q->p:=by
 intro hK
 refine gh ah dq func105 rfl rfl rfl rfl rfl rfl (qa rfl rfl rfl) ?_
 exact hK.out):p:=e ⟨h⟩
theorem GO {p q:Prop} (h:q) (e:KH q->p:=by
 intro hK
 refine ae (js 0 (by decide) (by decide) rfl) rfl rfl rfl rfl rfl rfl rfl ?_
 exact hK.out):p:=e ⟨h⟩
theorem DP {p:Prop} (e:p:=by
 constructor
 ·rintro⟨h1,h2⟩
  refine⟨uA.1 h1,fun cs hc=>?_⟩;have:=h2 _ (po hc)
  rwa[nA]at this
 ·rintro⟨h1,h2⟩
  refine⟨uA.2 h1,fun cs hc=>?_⟩;obtain⟨c0,h0,rfl⟩:=im hc;rw[jQ]at h0;rw[nA];exact h2 c0 h0):p:=e
theorem N9 {p:Prop} (e:p:=by
 have a:=jR f _ _ _ _ hs (fun _ _ h=>by cases h) h1;have b:=jR f _ _ _ _ (fun t ht=>hs t (a.2.1 t ht)) (fun _ _ h=>by cases h;exact a.1) h;exact⟨b.1,fun t ht=>a.2.1 t (b.2.1 t ht),by have:=a.2.2;have:=b.2.2;dsimp only at *;omega⟩):p:=e
theorem PO {p q:Prop} (h:q) (e:KH q->p:=by
 intro hK
 refine kV func297 ?_;refine ae (oh (na:=na) hw (by unfold lh;omega) hn) rfl rfl rfl rfl rfl rfl rfl ?_;refine kW ?_;refine ae (oh (na:=nb) hw' (by unfold lh;omega) hd) rfl rfl rfl rfl rfl rfl rfl ?_;refine kW ?_
 exact hK.out):p:=e ⟨h⟩
theorem DO {p q:Prop} (h:q) (e:KH q->p:=by
 intro hK
 refine kT ?_
 refine kO3 ?_
 refine gr ah (i:=0) (c:=c) h0 rfl rfl rfl rfl rfl rfl rfl rfl ?_;refine kC (c1) ?_
 exact hK.out):p:=e ⟨h⟩
theorem N8 {p q:Prop} (h:q) (e:KH q->p:=by
 intro hK
 unfold Instr.sliceAt
 simp only[Sem.run_bind,run_underlying hu w,Result.andThen_ok]
 exact hK.out):p:=e ⟨h⟩
theorem PG {p:Prop} (e:p:=by
 cases e with
 |normal=>obtain⟨s,h1,h2⟩:=hq;exact fin s h1 h2
 |ret=>obtain⟨s,h1,h2⟩:=hq;exact fin s h1 h2
 |exit i=>obtain⟨s,h1,h2⟩:=hq;exact h1.elim
 |goto l=>exact hq.elim
 |panic c=>exact hq.elim
 |outgrown=>exact hq.elim):p:=e
theorem Df {p q:Prop} (h:q) (e:KH q->p:=by
 intro hK
 refine kW ?_;refine SB QO rfl rfl rfl rfl rfl rfl rfl ?_
 exact hK.out):p:=e ⟨h⟩
theorem JL {p q:Prop} (h:q) (e:KH q->p:=by
 intro hK
 show aa Tryz.prog _ [.agg (cC k ps cs vs s)] _
 exact hK.out):p:=e ⟨h⟩
theorem OS {p q:Prop} (h:q) (e:KH q->p:=by
 intro hK
 refine kV func190 ?_;refine kQ (t1) ?_;refine kC (t2) ?_;refine kG ?_
 refine kO4 ?_
 exact hK.out):p:=e ⟨h⟩
theorem PS {p q:Prop} (h:q) (e:KH q->p:=by
 intro hK
 refine kV func334 ?_;refine ae (iZ (by omega) ha) rfl rfl rfl rfl rfl rfl rfl ?_;refine kW ?_
 exact hK.out):p:=e ⟨h⟩
theorem OD {p:Prop} (e:p:=by
 have:=List.not_of_lt_findIdx h
 simpa using this):p:=e
theorem GC {p q:Prop} (h:q) (e:KH q->p:=by
 intro hK
 refine kV func187 ?_;refine kC (q7 h h' hk rfl) ?_
 refine kO4 ?_
 refine cg (v':= .int .i64 (p+p')) rfl rfl rfl rfl ?_ ?_
 ·exact congrArg (Value.int .i64) (by rw[IntWalk.i64_in _ (by omega)])
 refine kW ?_
 exact hK.out):p:=e ⟨h⟩
theorem Cz {p q:Prop} (h:q) (e:KH q->p:=by
 intro hK
 refine kW ?_;refine kQ (s1) ?_;refine kC (s2) ?_
 exact hK.out):p:=e ⟨h⟩
theorem NT {p q:Prop} (h:q) (e:KH q->p:=by
 intro hK
 refine kD (dh t (u::r) a 0) ?_;refine kO ?_;refine kQ (cp) ?_
 exact hK.out):p:=e ⟨h⟩
theorem yM {p q:Prop} (h:q) (e:KH q->p:=by
 intro hK
 refine kC (cl) ?_;refine kO ?_;refine kB false ?_ ?_
 ·exact decide_eq_false (by show ¬((3:Nat):Int)<_;omega)
 refine kW ?_;refine fW (i:=3) underlying184 (by kernel_rfl) (by decide) rfl rfl rfl rfl rfl rfl ?_;refine kW ?_
 exact hK.out):p:=e ⟨h⟩
theorem DM {p q:Prop} (h:q) (e:KH q->p:=by
 intro hK
 refine x7 ah (i:=nn) hnr rfl rfl rfl rfl rfl rfl rfl rfl ?_;refine kN ?_
 exact hK.out):p:=e ⟨h⟩
theorem Hn {p q:Prop} (h:q) (e:KH q->p:=by
 intro hK
 refine kW ?_;refine⟨i+1,?_,by omega,weak ⟨rfl,rfl,rfl,rfl,an (by omega) (by omega),trivial⟩ trivial rfl⟩
 exact hK.out):p:=e ⟨h⟩
theorem JS {p q:Prop} (h:q) (e:KH q->p:=by
 intro hK
 refine kB false ?_ ?_
 ·exact(by simp[hn])
 refine kW ?_
 exact hK.out):p:=e ⟨h⟩
theorem uJ {p q:Prop} (h:q) (e:KH q->p:=by
 intro hK
 refine kW ?_;refine ae (dA 10 (by decide) (by decide)) rfl rfl rfl rfl rfl rfl rfl ?_;refine kW ?_;refine kQ (t4) ?_;refine ae (dl (hs.fit (by omega)) t3) rfl rfl rfl rfl rfl rfl rfl ?_;refine kW ?_
 exact hK.out):p:=e ⟨h⟩
theorem OA {p:Prop} (e:p:=by
 split
 ·rename_i h
  obtain⟨x,hx,e⟩:=this.1 h;have e:=of_decide_eq_true e;subst e;exact⟨fun _=>hx,fun _=>by omega⟩
 ·rename_i h
  exact⟨fun h=>by omega,fun hm=>absurd (this.2 ⟨n,hm,decide_eq_true rfl⟩) h⟩):p:=e
theorem Di {p:Prop} (e:p:=by
 refine⟨[],?_,fun u h=>by rw[h0]at h;cases h⟩;rw[h0];exact main _ _ (fun _=>⟨rfl,rfl⟩) (fun h=>by omega)):p:=e
theorem JR {p:Prop} (e:p:=by
 have:=Nat.le_mul_of_pos_right (m1+m2) (Nat.le_of_ble_eq_true hq0.2);omega):p:=e
theorem Pg {p:Prop} (e:p:=by
 refine kW ?_;refine Eq.mpr (congrFun hret _) ?_;exact bV (T:=TT) rfl rfl):p:=e
theorem Nr {p:Prop} (e:p:=by
 exact congrArg Value.bool (decide_eq_decide.2 (by omega))):p:=e
theorem DR {p q:Prop} (h:q) (e:KH q->p:=by
 intro hK
 refine gh ah dq func105 rfl rfl rfl rfl rfl rfl th ?_
 exact hK.out):p:=e ⟨h⟩
theorem I2 {p q:Prop} (h:q) (e:KH q->p:=by
 intro hK
 refine kW ?_;refine ae (AN (n:=b.length) (by omega) hp) rfl rfl rfl rfl rfl rfl rfl ?_;refine kW ?_;refine ae (dl (sa.fit (by omega)) (sp.fit (by omega))) rfl rfl rfl rfl rfl rfl rfl ?_;refine kW ?_
 exact hK.out):p:=e ⟨h⟩
theorem IY {p q:Prop} (h:q) (e:KH q->p:=by
 intro hK
 refine kU func59 ?_;refine kR ?_;refine kI ?_
 iterate 12 refine kO ?_
 exact hK.out):p:=e ⟨h⟩
theorem Ot {p:Prop} (e:p:=by
 rw[List.getElem?_append_left (List.getElem?_eq_some_iff.1 ha).1];exact ha):p:=e
theorem Pp {p:Prop} (e:p:=by
 simp only at h'
 split at h
 ·split at h'
  ·rename_i r1 h1 _ r2 h2
   have:=xB (fun x _ y z=>ih x y z) h1 h2;subst this;rw[<- Option.some.inj h,<- Option.some.inj h']
  ·cases h'
 ·cases h):p:=e
theorem Iz {p:Prop} (e:p:=by
 refine kX ?_;refine kQ (oW g1 hv) ?_;exact⟨(v,u%v),⟨ru.trans hg,g2,Nat.le_trans (ib (Nat.le_of_lt hm)) g2⟩,hm,weak ⟨rfl,rfl,rfl,trivial⟩ ⟨rfl,trivial⟩ rfl⟩):p:=e
theorem Dm {p q:Prop} (h:q) (e:KH q->p:=by
 intro hK
 refine aS ah dq func171 rfl rfl rfl rfl rfl (gA) ?_
 exact hK.out):p:=e ⟨h⟩
theorem GA {p q:Prop} (h:q) (e:KH q->p:=by
 intro hK
 refine aS ah dq func281 rfl rfl rfl rfl rfl (gA) ?_
 exact hK.out):p:=e ⟨h⟩
theorem IK {p:Prop} (e:p:=by
 refine kX ?_
 rw[show xZ l=false by
  cases hd:xZ l
  ·rfl
  ·have:=(gv.1 hd).1 c (List.mem_of_getElem? hcj)
   unfold eg at this
   omega]
 exact bV (T:=TT) rfl rfl):p:=e
theorem CE {p:Prop} (e:p:=by
 rw[h1]at h;rw[kA f _ _ _ h1];cases y with
 |error e=>exact h
 |ok y=>exact kA f _ _ _ h):p:=e
theorem Ow {p q:Prop} (h:q) (e:KH q->p:=by
 intro hK
 refine kV func166 ?_;refine kC (c1) ?_;refine kG ?_
 exact hK.out):p:=e ⟨h⟩
theorem Db {p q:Prop} (h:q) (e:KH q->p:=by
 intro hK
 refine oJ 702 (m1:=(p0::pr).length) (m2:=1) ah (by decide) (by show((p0::pr).length+1)*8<=_;omega) rfl rfl rfl rfl rfl rfl rfl rfl rfl rfl (.own rfl rfl) rfl rfl rfl rfl ?_;refine kW ?_
 exact hK.out):p:=e ⟨h⟩
theorem Dz {p q:Prop} (h:q) (e:KH q->p:=by
 intro hK
 refine oJ 704 (m1:=(q0::qr).length) (m2:=1) ah (by decide) (by show((q0::qr).length+1)*8<=_;omega) rfl rfl rfl rfl rfl rfl rfl rfl rfl rfl (.own rfl rfl) rfl rfl rfl rfl ?_;refine kW ?_
 exact hK.out):p:=e ⟨h⟩
theorem Og {p:Prop} (e:p:=by
 rw[hnext,sP,if_neg (fun h2=>by
  rcases h with h|h
  ·rw[h]at h2;exact absurd h2.1 (by decide)
  ·rcases h2.2 with h3|h3
   ·exact h.1 h3
   ·rw[h.2]at h3;cases h3)]):p:=e
theorem ON {p q:Prop} (h:q) (e:KH q->p:=by
 intro hK
 refine kO ?_;refine eV 7003 (m1:=G.length) (m2:=1) ah (by decide) (by show(G.length+1)*16<=_;omega) rfl rfl rfl rfl rfl rfl rfl rfl rfl rfl rfl (.own rfl rfl) rfl rfl rfl ?_;refine kW ?_
 exact hK.out):p:=e ⟨h⟩
theorem I0 {p q:Prop} (h:q) (e:KH q->p:=by
 intro hK
 refine kW ?_;refine eV 7005 (m1:=G.length) (m2:=1) ah (by decide) (by show(G.length+1)*16<=_;omega) rfl rfl rfl rfl rfl rfl rfl rfl rfl rfl rfl (.own rfl rfl) rfl rfl rfl ?_;refine kW ?_
 exact hK.out):p:=e ⟨h⟩
theorem Gx {p q:Prop} (h:q) (e:KH q->p:=by
 intro hK
 refine kV func329 ?_;refine kC (ot h47) ?_
 exact hK.out):p:=e ⟨h⟩
theorem Pe {p:Prop} (e:p:=by
 refine kW ?_;exact⟨i+1,hlt,by omega,weak ⟨rfl,rfl,rfl,rfl,an (by omega) (by omega),congrArg (fun z=>TV.d (dL z)) (keep (.inl (by rw[hcd,hb1];rfl))),trivial⟩ ⟨rfl,trivial⟩ rfl⟩):p:=e
theorem J9 {p:Prop} (e:p:=by
 have h1:=congrArg List.length hu2;have:=x5 (vs.map tx) (i+1);rw[List.length_append]at hlen;rw[List.length_append,List.length_append,List.length_append,List.map_take]at h1;omega):p:=e
theorem Dc {p:Prop} (e:p:=by
 rw[this];exact bV (T:=TT) rfl rfl):p:=e
theorem Nv {p:Prop} (e:p:=by
 split at h
 ·rename_i e1 r1 h1
  have a:=fV f _ _ _ hw hE h1;have hsub:=ii f _ _ _ _ h1;exact fV f _ _ _ a (fun t ht=>hE t (hsub t ht)) h
 ·exact fV f _ _ _ hw hE h):p:=e
theorem Ps {p:Prop} (e:p:=by
 injection this with this
 injection this with this
 injection this):p:=e
theorem Ou {p q:Prop} (h:q) (e:KH q->p:=by
 intro hK
 refine fW (i:=2) underlying171 (by kernel_rfl) (by decide) rfl rfl rfl rfl rfl rfl ?_
 exact hK.out):p:=e ⟨h⟩
theorem NR {p q:Prop} (h:q) (e:KH q->p:=by
 intro hK
 refine fW (i:=3) underlying171 (by kernel_rfl) (by decide) rfl rfl rfl rfl rfl rfl ?_
 exact hK.out):p:=e ⟨h⟩
theorem Oc {p q:Prop} (h:q) (e:KH q->p:=by
 intro hK
 refine fW (i:=4) underlying171 (by kernel_rfl) (by decide) rfl rfl rfl rfl rfl rfl ?_
 exact hK.out):p:=e ⟨h⟩
theorem C2 {p q:Prop} (h:q) (e:KH q->p:=by
 intro hK
 refine fW (i:=5) underlying171 (by kernel_rfl) (by decide) rfl rfl rfl rfl rfl rfl ?_
 exact hK.out):p:=e ⟨h⟩
theorem Oy {p q:Prop} (h:q) (e:KH q->p:=by
 intro hK
 refine fW (i:=6) underlying171 (by kernel_rfl) (by decide) rfl rfl rfl rfl rfl rfl ?_
 exact hK.out):p:=e ⟨h⟩
theorem Pf {p q:Prop} (h:q) (e:KH q->p:=by
 intro hK
 refine fW (i:=7) underlying171 (by kernel_rfl) (by decide) rfl rfl rfl rfl rfl rfl ?_
 exact hK.out):p:=e ⟨h⟩
theorem Pq {p q:Prop} (h:q) (e:KH q->p:=by
 intro hK
 refine kO3 ?_
 refine kC (c2) ?_
 refine kO2 ?_
 exact hK.out):p:=e ⟨h⟩
theorem OJ {p q:Prop} (h:q) (e:KH q->p:=by
 intro hK
 refine kW ?_;refine kQ (bA (uG ha)) ?_
 exact hK.out):p:=e ⟨h⟩
theorem uw {p q:Prop} (h:q) (e:KH q->p:=by
 intro hK
 refine kD (jg (4,[c],p0) r2 a 0) ?_;refine kO ?_;refine GH underlying166 underlying9 hl rfl rfl rfl rfl rfl rfl rfl ?_;refine kW ?_;refine kZ (cy) ?_
 exact hK.out):p:=e ⟨h⟩
theorem Pw {p:Prop} (e:p:=by
 simp only[tA]at hk
 split at hk
 ·rename_i hc;cases hk;subst hc;exact⟨_,rfl,rfl⟩
 ·split at hk
  ·rename_i hc;cases hk;subst hc;exact⟨_,rfl,rfl⟩
  ·cases hk):p:=e
theorem C0 {p q:Prop} (h:q) (e:KH q->p:=by
 intro hK
 show aa Tryz.prog _ [.agg ([.val (.int .i64 1)]++aQ v++[.val (vL u), .sl 0 []])] _
 exact hK.out):p:=e ⟨h⟩
theorem JZ {p:Prop} (e:p:=by
 exact⟨i+1,hlt,by omega,weak ⟨rfl,rfl,rfl,rfl,an (by omega) (by omega),congrArg (fun z=>TV.d (dL z)) (keep (.inl (by rw[hcd,hb1];rfl))),trivial⟩ trivial rfl⟩):p:=e
theorem GX {p q:Prop} (h:q) (e:KH q->p:=by
 intro hK
 refine oJ 702 (m1:=0) (m2:=1) ah (by decide) (by show(0+1)*8<=_;omega) rfl rfl rfl rfl rfl rfl rfl rfl rfl rfl (.nil rfl rfl) rfl rfl rfl rfl ?_;refine kW ?_
 exact hK.out):p:=e ⟨h⟩
theorem Gy {p q:Prop} (h:q) (e:KH q->p:=by
 intro hK
 refine oJ 704 (m1:=0) (m2:=1) ah (by decide) (by show(0+1)*8<=_;omega) rfl rfl rfl rfl rfl rfl rfl rfl rfl rfl (.nil rfl rfl) rfl rfl rfl rfl ?_;refine kW ?_
 exact hK.out):p:=e ⟨h⟩
theorem I4 {p q:Prop} (h:q) (e:KH q->p:=by
 intro hK
 refine kC (c1) ?_
 refine kO4 ?_
 refine kC (c2) ?_
 exact hK.out):p:=e ⟨h⟩
theorem Kp {p q:Prop} (h:q) (e:KH q->p:=by
 intro hK
 refine kC (t1) ?_;refine kO ?_;refine kC (d) ?_;refine kG ?_
 refine kO4 ?_
 exact hK.out):p:=e ⟨h⟩
theorem Gq {p q:Prop} (h:q) (e:KH q->p:=by
 intro hK
 refine kE ?_;refine kG ?_
 refine kO2 ?_
 refine x7 ah (i:=i) (by omega) rfl rfl rfl rfl rfl rfl rfl rfl ?_;refine kC (cn) ?_;refine kG ?_;refine kO ?_
 exact hK.out):p:=e ⟨h⟩
theorem El {p q:Prop} (h:q) (e:KH q->p:=by
 intro hK
 refine kW ?_;refine fD (T:=TT) rfl ?_ ?_
 ·exact decide_eq_true (by omega)
 exact hK.out):p:=e ⟨h⟩
theorem Du {p q:Prop} (h:q) (e:KH q->p:=by
 intro hK
 unfold execOp;rw[ho]
 simp only[e1,bg hM hy2,Instr.indexAt,Instr.sureAddr,asIntOf,Sem.run_bind,Sem.run_pure,run_underlying hu w,Result.andThen_ok]
 exact hK.out):p:=e ⟨h⟩
theorem Od {p q:Prop} (h:q) (e:KH q->p:=by
 intro hK
 refine kV func219 ?_;refine kC (t1) ?_
 refine kO4 ?_
 exact hK.out):p:=e ⟨h⟩
theorem O0 {p q:Prop} (h:q) (e:KH q->p:=by
 intro hK
 refine cg (v':= .int .u64 ((k.natAbs:Nat))) rfl rfl rfl rfl ?_ ?_
 ·exact congrArg (Value.int .u64) (by rw[IntKind.wrap_u64,IntKind.wrap_u64];omega)
 exact hK.out):p:=e ⟨h⟩
theorem Ih {p:Prop} (e:p:=by
 split at h
 ·cases h;exact fun t ht=>List.mem_cons_of_mem _ ht
 ·cases h):p:=e
theorem PN {p:Prop} (e:p:=by
 exact congrArg (fun z=>RV.one (dN .i64 z)) hv.symm):p:=e
theorem OF {p q:Prop} (h:q) (e:KH q->p:=by
 intro hK
 refine gr ah (i:=j) (c:=s[j]) hx rfl rfl rfl rfl rfl rfl rfl rfl ?_
 exact hK.out):p:=e ⟨h⟩
theorem NO {p q:Prop} (h:q) (e:KH q->p:=by
 intro hK
 rw[mw,fS,if_neg (by show ¬4<least;omega)]
 exact hK.out):p:=e ⟨h⟩
theorem NG {p q:Prop} (h:q) (e:KH q->p:=by
 intro hK
 refine fD (T:=TT) rfl ?_ ?_
 ·exact(by rw[hl0];rfl)
 refine kW ?_;refine ae (sc (ac u) (by omega)) rfl rfl rfl rfl rfl rfl rfl ?_
 exact hK.out):p:=e ⟨h⟩
theorem DS {p q:Prop} (h:q) (e:KH q->p:=by
 intro hK
 refine kO ?_;refine cg (v':= .int .u64 ((k.natAbs:Nat))) rfl rfl rfl rfl ?_ ?_
 ·exact congrArg (Value.int .u64) (by rw[IntKind.wrap_u64];omega)
 exact hK.out):p:=e ⟨h⟩
theorem Sw {p q:Prop} (h:q) (e:KH q->p:=by
 intro hK
 refine aq rfl rfl rfl rfl rfl rfl rfl (bL (a:=u) (b:=[]) hu) ?_
 exact hK.out):p:=e ⟨h⟩
theorem OW {p q:Prop} (h:q) (e:KH q->p:=by
 intro hK
 refine kW ?_;refine aG (i:=i) (cs':=[.val (.int .i64 q)]) hlt (bf hx) (Nat.zero_lt_succ 0) rfl rfl rfl rfl rfl rfl rfl rfl ?_;refine kO ?_
 exact hK.out):p:=e ⟨h⟩
theorem Kj {p:Prop} (e:p:=by
 by_cases e:i<f
 ·have:=hni e;rw[hb]at this;cases this
 ·omega):p:=e
theorem DZ {p:Prop} (e:p:=by
 have:=hc.enter (args.map a.eval) w;have e:(List.map a.eval args.toList).toArray=args.map a.eval:=Array.ext' (by simp);rw[e]
 simpa using this):p:=e
theorem Oi {p:Prop} (e:p:=by
 exact Uf (rows:=rows) (by unfold maxLen at hcm;omega) hlc hl hsz (fun i r hi=>by obtain⟨us,h3,h4,_⟩:=hr i r hi;exact⟨us,h3,h4⟩)):p:=e
theorem Hz {p q:Prop} (h:q) (e:KH q->p:=by
 intro hK
 rw[show dE (.bin k a b)= .agg ([.val (.int .i64 k.code)]++iP++[.val (vL []), .sl 2 (aE a++aE b)]) from congrArg DV.agg (iY k a b)]
 exact hK.out):p:=e ⟨h⟩
theorem OX {p q:Prop} (h:q) (e:KH q->p:=by
 intro hK
 refine aS ah dq func169 rfl rfl rfl rfl rfl (gA) ?_
 exact hK.out):p:=e ⟨h⟩
theorem IA {p q:Prop} (h:q) (e:KH q->p:=by
 intro hK
 refine kE ?_;refine kG ?_;refine kO ?_;refine I8 (i:=i) (PU (by omega) hi) underlying73 gE (by omega) rfl rfl rfl rfl rfl rfl ?_
 exact hK.out):p:=e ⟨h⟩
theorem Ef {p:Prop} (e:p:=by
 cases hbase with
 |nil a b=>exact .nil (hx2.trans a) b
 |own a b=>exact .own (hx2.trans a) ((bh (hrb _ (by simp[yh]))).trans b)):p:=e
theorem G7 {p q:Prop} (h:q) (e:KH q->p:=by
 intro hK
 refine kV func253 ?_;refine kQ (dA n h1 h2) ?_;refine kQ (dA d h3 h4) ?_
 exact hK.out):p:=e ⟨h⟩
theorem CW {p:Prop} (e:p:=by
 congr 3
 by_cases h0:i=0
 ·subst h0;rfl
 ·rw[if_neg h0,if_neg (by simp;exact⟨h0,fun e=>by rw[e]at hlt;simp at hlt⟩)]):p:=e
theorem O8 {p q:Prop} (h:q) (e:KH q->p:=by
 intro hK
 refine kE ?_
 refine kO3 ?_
 refine gr ah (i:=i) (c:=s[i]) hx0 rfl rfl rfl rfl rfl rfl rfl rfl ?_;refine kC (hc0) ?_
 exact hK.out):p:=e ⟨h⟩
theorem OY {p q:Prop} (h:q) (e:KH q->p:=by
 intro hK
 refine aG (i:=i) (cs':=ab o2 na2 xs2 nb2 ys2 nm2 n2 cs2) hlt' hat' (Nat.zero_lt_succ 6) rfl rfl rfl rfl rfl rfl rfl rfl ?_
 exact hK.out):p:=e ⟨h⟩
theorem Pc {p:Prop} (e:p:=by
 clear hs key d s1 mu su sg1 sg2 n1 n2;rw[hm1]at h3 ⊢
 by_cases ha:a<0<;>simp only[ha,if_true,if_false]at h3 ⊢ <;>omega):p:=e
theorem JX {p:Prop} (e:p:=by
 have a:=(gC f _ _ _ _ h1).2 (fun _ _ h=>by cases h);have b:=(gC f _ _ _ _ h).1;exact⟨by omega,fun _=>by omega⟩):p:=e
theorem Oq {p:Prop} (e:p:=by
 exact((mP hb6).trans ((mP hb7).trans ((kz Hb7.out hs8 Ho8.out).trans (kz Hb8.out hs9 Ho9.out)))).from _):p:=e
theorem Uo {p q:Prop} (h:q) (e:KH q->p:=by
 intro hK
 rw[show dE (.neg a)= .agg ([.val (.int .i64 3)]++iP++[.val (vL []), .sl 1 (aE a)]) from congrArg DV.agg (n6 a),hA]
 exact hK.out):p:=e ⟨h⟩
theorem Nu {p:Prop} (e:p:=by
 simp only[List.size_toArray,List.length_append,List.length_take,List.length_drop,Array.length_toList,hsl]
 omega):p:=e
theorem Pj {p:Prop} (e:p:=by
 intro r hm;obtain⟨i,hi⟩:=List.getElem?_of_mem hm;obtain⟨us,h3,h4,_⟩:=hr i r hi;rw[h4.1,(yV h3).1]):p:=e
theorem NS {p:Prop} (e:p:=by
 split at h<;>cases h;exact .inr rfl):p:=e
theorem IS {p:Prop} (e:p:=by
 refine kW ?_;exact⟨⟨_,rfl,rfl⟩,⟨rfl,rfl,trivial⟩⟩):p:=e
theorem OI {p:Prop} (e:p:=by
 have hn':¬fn.name= "runtime.NumGoroutine" :=by simpa using hn
 simp[callFunc,Sem.run_bind,hf,hn',hb]):p:=e
theorem Nn {p:Prop} (e:p:=by
 rw[List.take_of_length_le (by omega)]at hn;exact congrArg (fun b=>RV.one (dB b)) (decide_eq_true hn).symm):p:=e
theorem Nq {p:Prop} (e:p:=by
 rw[eW,e2];dsimp only[jD];rw[jP (Nat.le_max_right f g) hg];exact jP (Nat.le_max_left f g) hf):p:=e
theorem N3 {p:Prop} (e:p:=by
 rcases Nat.eq_zero_or_pos (digs v).length with h|h
 ·have:=aT.1 h;omega
 ·exact h):p:=e
theorem NA {p:Prop} (e:p:=by
 rcases Nat.lt_or_ge b w1.heap.size with h'|h'
 ·exact h'
 ·simp[Array.getElem?_eq_none h']at hbk):p:=e
theorem O2 {p:Prop} (e:p:=by
 intro j a hj
 match j,hj with
 |0,hj=>rw[Nat.mul_one,Nat.add_zero,List.getElem?_map,h];exact hj):p:=e
theorem Pb {p:Prop} (e:p:=by
 rcases h4 with⟨h5,h6⟩| ⟨h5,h6,h7⟩
 ·exact .inl ⟨by omega,h6⟩
 ·exact .inr ⟨by omega,h6,h7⟩):p:=e
theorem Of {p:Prop} (e:p:=by
 obtain⟨op,na,xs,nb,ys,nm,args⟩:=x;exact⟨op,na,xs,nb,ys,nm,args.length,dY args,rfl⟩):p:=e
theorem Pr {p:Prop} (e:p:=by
 generalize a.eval y=v at hyv;cases hyv with
 |emp=>exact⟨_,_,rfl⟩
 |sl=>exact⟨_,_,rfl⟩):p:=e
theorem PB {p:Prop} (e:p:=by
 refine kW ?_;refine dV ?_;exact hR _ (weak ⟨rfl,rfl,hfin,rfl,trivial⟩ ⟨rfl,trivial⟩ rfl)):p:=e
theorem OG {p:Prop} (e:p:=by
 have h4:=Hb9.out;rw[List.append_assoc,List.append_assoc,<- Hpt.out,<- Hsn.out]at h4;exact h4):p:=e
theorem O3 {p:Prop} (e:p:=by
 exact((HB.out.trans (hb6.mono hWs)).trans (hb7.mono (by omega))).trans (Hw8.out.trans Hw9.out)):p:=e
theorem OZ {p:Prop} (e:p:=by
 refine kO4 ?_
 by_cases hnm:nm=[]
 ·refine Un ?_
  by_cases hl:args.length=2
  ·exact NP
  ·refine kE ?_
   obtain rfl:b=false:=by rw[hb,decide_eq_false hl,Bool.and_false]
   exact ap
 ·refine R5 ?_
  exact OL):p:=e
theorem NF {p:Prop} (e:p:=by
 refine kO ?_;refine uk ?_;refine kW ?_;refine kC (hno) ?_;cases p
 ·exact ap
 ·refine kO3 ?_
  cases z
  ·refine UU ?_
   exact ap
  ·refine A6 ?_
   refine kC (hcf) ?_;cases A
   ·exact ap
   ·exact ap):p:=e
theorem Dp {p:Prop} (e:p:=by
 refine kE ?_;obtain rfl:b=false:=by rw[hb,decide_eq_false hl,Bool.and_false]
 exact ap):p:=e
theorem PC {p:Prop} (e:p:=by
 refine uk ?_;refine kG ?_;refine uk ?_;refine kG ?_;refine uk ?_;refine kG ?_;refine uk ?_;refine kW ?_;refine kC (cF) ?_;cases F
 ·refine fR ?_
  exact On
 ·refine kW ?_
  refine kC (cG) ?_;refine fR ?_;exact On):p:=e
theorem GE {p:Prop} (e:p:=by
 rcases Bool.eq_false_or_eq_true (p q)with hb|hb
 ·rw[hb]at c
  have e:i=f:=by
   exact Kj
  subst e;rw[if_pos hlt];refine kD (c) ?_;exact ju
 ·exact Ug):p:=e
theorem Ov {p:Prop} (e:p:=by
 obtain rfl:b=false:=by rw[hb];rfl
 exact ap):p:=e
theorem Oh {p q:Prop} (h:q) (e:KH q->p:=by
 intro hK
 refine kU func119 ?_;refine gL ?_;refine UW ?_;refine io ?_;refine kC (c2) ?_
 exact hK.out):p:=e ⟨h⟩
theorem NU {p:Prop} (e:p:=by
 refine kW ?_;refine kC (c1) ?_;exact ap):p:=e
theorem Pd {p q:Prop} (h:q) (e:KH q->p:=by
 intro hK
 refine K9 ?_;refine kD (dh t r2 a 0) ?_;refine ug ?_;refine kD (dh t r2 a 0) ?_;refine ug ?_;refine Mu ?_;refine kZ (cis2) ?_
 exact hK.out):p:=e ⟨h⟩
theorem OU {p q:Prop} (h:q) (e:KH q->p:=by
 intro hK
 refine kU func133 ?_;refine kR ?_;refine kR ?_;refine Ti ?_;refine kN ?_;refine ee (T:=TT) rfl ?_;refine Ti ?_
 refine kO2 ?_
 exact hK.out):p:=e ⟨h⟩
theorem Pi {p q:Prop} (h:q) (e:KH q->p:=by
 intro hK
 refine kW ?_;refine Pn ?_
 exact hK.out):p:=e ⟨h⟩
theorem ND {p q:Prop} (h:q) (e:KH q->p:=by
 intro hK
 refine bu ?_;refine AH ?_;refine kO ?_
 exact hK.out):p:=e ⟨h⟩
theorem PL {p q:Prop} (h:q) (e:KH q->p:=by
 intro hK
 refine kV func333 ?_;refine ae (iZ (by omega) h1) rfl rfl rfl rfl rfl rfl rfl ?_;refine kW ?_
 exact hK.out):p:=e ⟨h⟩
theorem Oa {p q:Prop} (h:q) (e:KH q->p:=by
 intro hK
 refine gL ?_;refine kE ?_
 iterate 6 refine kO ?_
 exact hK.out):p:=e ⟨h⟩
theorem O6 {p q:Prop} (h:q) (e:KH q->p:=by
 intro hK
 refine kW ?_;refine kC (cl) ?_;refine SA ?_;refine kC (ca) ?_;refine kO ?_
 exact hK.out):p:=e ⟨h⟩
theorem Ph {p:Prop} (e:p:=by
 refine kO ?_;refine pU ?_;exact ap):p:=e
theorem Ox {p q:Prop} (h:q) (e:KH q->p:=by
 intro hK
 refine AH ?_
 refine kO2 ?_
 exact hK.out):p:=e ⟨h⟩
theorem DF {p:Prop} (e:p:=by
 rw[hr]at c;refine Q3 ?_;refine NQ ?_;refine Sp ?_;refine Mo ?_;refine LG ?_;refine U2 ?_;refine TD ?_;refine ae (lK hy (by omega)) rfl rfl rfl rfl rfl rfl rfl ?_;refine kC (c) ?_;exact ap):p:=e
theorem zd {p q:Prop} (h:q) (e:KH q->p:=by
 intro hK
 refine aG (i:=i) (cs':=[.val (vL t)]) hlt hat (Nat.zero_lt_succ 0) rfl rfl rfl rfl rfl rfl rfl rfl ?_
 exact hK.out):p:=e ⟨h⟩
theorem GL {p q:Prop} (h:q) (e:KH q->p:=by
 intro hK
 refine KL ?_;refine kW ?_;refine kC (c) ?_
 exact hK.out):p:=e ⟨h⟩
theorem JN {p q:Prop} (h:q) (e:KH q->p:=by
 intro hK
 refine kU func35 ?_;refine gL ?_;refine M3 ?_
 exact hK.out):p:=e ⟨h⟩
theorem jZ {p q:Prop} (h:q) (e:KH q->p:=by
 intro hK
 refine kU func158 ?_;refine mH ?_;refine kB false ?_ ?_
 ·exact I6 ha0
 refine kO5 ?_
 exact hK.out):p:=e ⟨h⟩
theorem JQ {p:Prop} (e:p:=by
 refine TD ?_;refine kC (c) ?_;exact ap):p:=e
theorem oM {p q:Prop} (h:q) (e:KH q->p:=by
 intro hK
 refine kV func299 ?_;refine kC (t2) ?_;refine kG ?_;refine tK ?_;refine Kp ?_
 exact hK.out):p:=e ⟨h⟩
theorem zM {p:Prop} (e:p:=by
 refine kE ?_;rw[List.drop_eq_nil_of_le (by omega),ll]at h2;have hdd:d=ll args:=by omega
 rw[pO,<- hdd];refine At ?_;refine kI ?_;refine kO ?_;refine kJ ((d+1:Nat)) ?_;exact ap):p:=e
theorem JH {p q:Prop} (h:q) (e:KH q->p:=by
 intro hK
 refine JL ?_;refine kV func6 ?_;refine kC (nJ) ?_;refine io ?_
 exact hK.out):p:=e ⟨h⟩
theorem Ky {p q:Prop} (h:q) (e:KH q->p:=by
 intro hK
 refine kE ?_;refine kG ?_
 iterate 6 refine kO ?_
 refine kJ ((i+n:Nat)) ?_;refine Sj ah (l:=s) (i:=i) (j:=i+n) (by omega) (by omega) rfl rfl rfl rfl rfl rfl rfl rfl rfl ?_
 exact hK.out):p:=e ⟨h⟩
theorem Nm {p q:Prop} (h:q) (e:KH q->p:=by
 intro hK
 refine mJ ((c1.rd (ts:=[.own 6001 (List.cons a r).length 1 9, .d (dL p.1)]) (b:=[(6001,aO (List.cons a r))]) rfl rfl)) rfl rfl rfl rfl rfl ⟨rfl,trivial⟩ rfl rfl rfl rfl ?_
 exact hK.out):p:=e ⟨h⟩
theorem si {p:Prop} (e:p:=by
 refine kW ?_;refine kC (zC) ?_;exact ap):p:=e
theorem JA {p q:Prop} (h:q) (e:KH q->p:=by
 intro hK
 refine nD ?_;refine kC (cB) ?_
 iterate 8 refine kO ?_
 refine JS ?_;refine kC (cE) ?_
 exact hK.out):p:=e ⟨h⟩
theorem uU {p q:Prop} (h:q) (e:KH q->p:=by
 intro hK
 refine kV func133 ?_;refine ry 3 ?_
 exact hK.out):p:=e ⟨h⟩
theorem Cy {p q:Prop} (h:q) (e:KH q->p:=by
 intro hK
 refine gL ?_;refine Qu ?_;refine kQ (c) ?_
 exact hK.out):p:=e ⟨h⟩
theorem sv {p:Prop} (e:p:=by
 refine Mo ?_;refine kC (ih') ?_;refine L7 ?_;exact ap):p:=e
theorem qZ {p q:Prop} (h:q) (e:KH q->p:=by
 intro hK
 refine aS ah dq func85 rfl rfl rfl rfl rfl (wE) ?_;refine gL ?_
 exact hK.out):p:=e ⟨h⟩
theorem NZ {p:Prop} (e:p:=by
 refine kC (ih) ?_;refine L7 ?_;exact ap):p:=e
theorem JK {p q:Prop} (h:q) (e:KH q->p:=by
 intro hK
 refine kV func155 ?_;refine kC (km (na:=na) hw c1) ?_
 exact hK.out):p:=e ⟨h⟩
theorem uD {p:Prop} (e:p:=by
 refine kG ?_;refine R7 ?_;generalize hz:w.take (w.length-k)++[46]++w.drop (w.length-k)=z;have hzB:=aF z;refine kG ?_;refine Tg ?_;exact ap):p:=e
theorem x6 {p q:Prop} (h:q) (e:KH q->p:=by
 intro hK
 refine kV func173 ?_;refine kC (md (na:=na) hw c1) ?_
 exact hK.out):p:=e ⟨h⟩
theorem IB {p q:Prop} (h:q) (e:KH q->p:=by
 intro hK
 refine kW ?_;refine aG (i:=0) (cs':=ab o1 na1 xs1 nb1 ys1 nm1 n1 cs1) (by decide) (m5 _ _) (Nat.zero_lt_succ 6) rfl rfl rfl rfl rfl rfl rfl rfl ?_
 exact hK.out):p:=e ⟨h⟩
theorem I5 {p q:Prop} (h:q) (e:KH q->p:=by
 intro hK
 refine kU func264 ?_;refine TI ?_;refine kG ?_
 refine kO4 ?_
 refine kB false ?_ ?_
 ·exact(by simpa using hn)
 refine kW ?_;refine kC (c) ?_
 exact hK.out):p:=e ⟨h⟩
theorem Iv {p q:Prop} (h:q) (e:KH q->p:=by
 intro hK
 refine GA ?_;refine gL ?_;refine NT ?_;refine kQ (cd) ?_;refine kZ (jg t (u::r) a 0) ?_;refine kD (dh u r a 0) ?_
 exact hK.out):p:=e ⟨h⟩
theorem Pt {p q:Prop} (h:q) (e:KH q->p:=by
 intro hK
 refine aq rfl rfl rfl rfl rfl rfl rfl (bv (a:=[]) (b:=[]) rfl) ?_
 exact hK.out):p:=e ⟨h⟩
theorem KG {p:Prop} (e:p:=by
 refine kV func96 ?_;refine GO ?_;refine kW ?_;refine ae (m4 h s0 (by omega) e0) rfl rfl rfl rfl rfl rfl rfl ?_;exact ap):p:=e
theorem OO {p:Prop} (e:p:=by
 refine aq rfl rfl rfl rfl rfl rfl rfl (bL (a:=l[i].1) (b:=s) e) ?_;refine Ub ?_;refine kO ?_;refine kC (zo l[i].1) ?_;exact ap):p:=e
theorem PK {p q:Prop} (h:q) (e:KH q->p:=by
 intro hK
 refine kU func70 ?_;refine mH ?_;refine T1 ?_;refine kB false ?_ ?_
 ·exact(by simp[e3])
 iterate 6 refine kO ?_
 refine kC (cs) ?_
 exact hK.out):p:=e ⟨h⟩
theorem zP {p q:Prop} (h:q) (e:KH q->p:=by
 intro hK
 refine eV 5001 (m1:=0) (m2:=1) ah (by decide) (by decide) rfl rfl rfl rfl rfl rfl rfl rfl rfl rfl rfl (.nil rfl rfl) rfl rfl rfl ?_
 exact hK.out):p:=e ⟨h⟩
theorem IC {p q:Prop} (h:q) (e:KH q->p:=by
 intro hK
 refine ae (iZ (by omega) h2) rfl rfl rfl rfl rfl rfl rfl ?_
 exact hK.out):p:=e ⟨h⟩
theorem Dl {p q:Prop} (h:q) (e:KH q->p:=by
 intro hK
 refine Sf ?_;refine ae (bA (decide_eq_false (show ¬(num b:Int)=1 by omega))) rfl rfl rfl rfl rfl rfl rfl ?_;refine kW ?_
 exact hK.out):p:=e ⟨h⟩
theorem CX {p:Prop} (e:p:=by
 by_cases hi:i<xs.length
 ·exact hall i (by omega)
 ·rw[List.getElem?_eq_none (by omega),List.getElem?_eq_none (by omega)]):p:=e
theorem DY {p q:Prop} (h:q) (e:KH q->p:=by
 intro hK
 refine aG (i:=i) (cs':=ab o1 na1 xs1 nb1 ys1 nm1 n1 cs1) hlt hat (Nat.zero_lt_succ 6) rfl rfl rfl rfl rfl rfl rfl rfl ?_
 exact hK.out):p:=e ⟨h⟩
theorem GQ {p:Prop} (e:p:=by
 refine kW ?_;refine ae (fL sn (sp.mono (by omega)) (by omega) hp0 hq) rfl rfl rfl rfl rfl rfl rfl ?_;exact ap):p:=e
theorem y6 {p:Prop} (e:p:=by
 refine HZ ?_;refine fD (T:=TT) rfl ?_ ?_
 ·exact(Iy.2 h0)
 refine fR ?_;rw[hcyc (hnN.trans h0)];rfl):p:=e
theorem IM {p:Prop} (e:p:=by
 iterate 2 refine kG ?_
 refine kO ?_;refine kT ?_;exact ap):p:=e
theorem Ob {p:Prop} (e:p:=by
 refine kW ?_;refine ae (ij 0 (by decide) (by decide) e.symm) rfl rfl rfl rfl rfl rfl rfl ?_;exact ap):p:=e
theorem G3 {p:Prop} (e:p:=by
 split at h
 ·rename_i e1 r1 h1
  exact fun t ht=>ii f _ _ _ _ h1 t (ii f _ _ _ _ h t ht)
 ·exact LP):p:=e
theorem N7 {p:Prop} (e:p:=by
 refine Qh ?_;refine xO ?_;refine kG ?_;refine kO ?_;refine kB true ?_ ?_
 ·exact(by simp[hv])
 exact Pg):p:=e
theorem OM {p:Prop} (e:p:=by
 rw[hev]at c3;refine kU func95 ?_;refine io ?_;refine kQ (c2) ?_;refine kC (c3) ?_;exact ap):p:=e
theorem Om {p:Prop} (e:p:=by
 refine aS ah dq func121 rfl rfl rfl rfl rfl (gA) ?_;refine gL ?_;refine F9 ?_;exact ju):p:=e
theorem HY {p:Prop} (e:p:=by
 refine kB false ?_ ?_
 ·exact(by simp[h])
 exact ap):p:=e
theorem PR {p:Prop} (e:p:=by
 refine io ?_;refine kC (c2) ?_;refine kE ?_;exact ap):p:=e
theorem Oo {p:Prop} (e:p:=by
 refine aS ah dq func78 rfl rfl rfl rfl rfl (gA) ?_;refine gL ?_;refine F9 ?_;exact ju):p:=e
theorem N2 {p:Prop} (e:p:=by
 refine Dm ?_;refine Cg ?_;refine kZ (jg t r2 a 0) ?_;refine kD (cy) ?_;exact ju):p:=e
theorem Nt {p:Prop} (e:p:=by
 refine Bx ?_;refine aq rfl rfl rfl rfl rfl rfl rfl (gx (a:=a) (b:=a) rfl) ?_;exact ap):p:=e
theorem G2 {p:Prop} (e:p:=by
 refine K9 ?_;refine kD (dh t (u::r4) a 0) ?_;refine FN ?_;refine kD (cy) ?_;exact ju):p:=e
theorem NP {p:Prop} (e:p:=by
 refine kT ?_;obtain rfl:b=true:=by rw[hb];simp[hnm,hl]
 exact ap):p:=e
theorem Pn {p q:Prop} (h:q) (e:KH q->p:=by
 intro hK
 refine aG (i:=i) (cs':=eE p.1 o1 na1 xs1 nb1 ys1 nm1 n1 cs1) hlt hat (Nat.zero_lt_succ 7) rfl rfl rfl rfl rfl rfl rfl rfl ?_
 exact hK.out):p:=e ⟨h⟩
theorem Pk {p:Prop} (e:p:=by
 by_cases hl:args.length=0
 ·refine kT ?_
  obtain rfl:b=true:=by rw[hb];simp[hl]
  exact ap
 ·exact Dp):p:=e
theorem OL {p:Prop} (e:p:=by
 obtain rfl:b=false:=by rw[hb];simp[hnm]
 exact ap):p:=e
theorem NJ {p:Prop} (e:p:=by
 rw[hr]at c;refine QN ?_;refine NQ ?_;refine Tt ?_;refine Mo ?_;refine LG ?_;refine QA ?_;exact JQ):p:=e
theorem Gu {p:Prop} (e:p:=by
 rw[hr]at c;refine Qf ?_;refine NQ ?_;refine Su ?_;refine Mo ?_;refine LG ?_;refine U6 ?_;exact JQ):p:=e
theorem PV {p:Prop} (e:p:=by
 rw[hr]at c;refine Rt ?_;refine NQ ?_;refine Sm ?_;refine Mo ?_;refine LG ?_;refine Vi ?_;exact JQ):p:=e
end
end Go.Proofs.YtnchbpoopnjghaaGreatDoor
