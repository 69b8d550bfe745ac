/- Rename, by program and reference. -/
import Derived.Test.YtikbnnljjeefgaaGreatDoorWZ13
set_option maxHeartbeats 100000000
set_option linter.all false
open Go.Proofs.Tryz
namespace Go.Proofs.YtikbnnljjeefgaaGreatDoor
open Go.RowKit
mutual
def fY (f t:List UInt8):Rx→Rx
 | .mk op na xs nb ys nm args=> .mk op na xs nb ys (if op=2∧nm=f then t else nm) (D1 f t args)
def D1 (f t:List UInt8):List Rx→List Rx
 | []=>[]
 |x::r=>fY f t x::D1 f t r
end
theorem gE (f t:List UInt8):∀l,D1 f t l=l.map (fY f t)
 | []=>by simp[D1]
 |x::r=>by rw[D1,gE f t r,List.map_cons]
theorem Iv:∀x,fY [] [] x=x:=by
 refine dx fun op na xs nb ys nm args ih=>?_
 rw[fY,gE]
 congr 1
 ·split
  ·rename_i h;exact h.2.symm
  ·rfl
 ·refine(List.map_congr_left (g:=id) fun y hy=>ih y hy).trans (List.map_id _)
theorem Dl {f t:List UInt8}:∀x,t ∉ ry x→fY t f (fY f t x)=x:=by
 refine dx fun op na xs nb ys nm args ih hn=>?_
 rw[ry,pK,List.mem_append,not_or]at hn;obtain⟨h1,h2⟩:=hn
 have key:∀l:List Rx,(∀y∈l,y∈args)→t ∉ gL l→(l.map (fY f t)).map (fY t f)=l:=by
  intro l
  induction l with
  |nil=>intro _ _;rfl
  |cons y l ihl=>
   intro hs hl;rw[gL,List.mem_append,not_or]at hl;rw[List.map_cons,List.map_cons,ih y (hs y (by simp)) hl.1,ihl (fun z hz=>hs z (by simp[hz])) hl.2]
 rw[fY,fY,gE,gE,key args (fun y hy=>hy) h2]
 congr 1
 by_cases ho:op=2
 ·subst ho
  rw[if_pos rfl]at h1
  by_cases hf:nm=f
  ·subst hf
   simp
  ·have e:(if(2:Int)=2∧nm=f then t else nm)=nm:=if_neg (fun h=>hf h.2)
   rw[e,if_neg];rintro⟨_,h⟩;exact h1 (by simp[h])
 ·rw[if_neg (fun h=>ho h.1),if_neg (fun h=>ho h.1)]
theorem nu.rn {f t:List UInt8} (ht:t.length≤9223372036854775807):∀x,nu x→nu (fY f t x):=by
 refine dx fun op na xs nb ys nm args ih hx=>?_
 obtain⟨h1,h2,h3,h4,h5,h6,h7⟩:=hx;rw[fY,gE];refine .mk h1 h2 h3 h4 (by split <;>assumption) (by simpa using h6) fun y hy=>?_
 obtain⟨z,hz,rfl⟩:=List.mem_map.1 hy;exact ih z hz (h7 z hz)
theorem vm.rn {f t:List UInt8}:∀x,vm x→vm (fY f t x):=by
 refine dx fun op na xs nb ys nm args ih hx=>?_
 obtain⟨h1,h2,h3,h4⟩:=hx;rw[fY,gE];refine .mk h1 h2 (by simpa using h3) fun y hy=>?_
 obtain⟨z,hz,rfl⟩:=List.mem_map.1 hy;exact ih z hz (h4 z hz)
def JI (J:Nat):List Rx→TV
 | []=> .nil
 |a::r=> .own J (a::r).length 7 29
def JP:List Rx→Option (List AV)
 | []=>none
 |a::r=>some (cZ (a::r))
theorem Gy (a b:List Rx):cZ (a++b)=cZ a++cZ b:=by
 induction a with
 |nil=>rfl
 |cons x r ih=>simp[cZ,ih]
theorem DP (J:Nat) (l:List Rx) (x:Rx):JI J (l++[x])= .own J (l.length+1) 7 29:=by
 cases l with
 |nil=>rfl
 |cons a r=>simp[JI]
theorem CG (l:List Rx) (x:Rx):JP (l++[x])=some (cZ l++aR x):=by
 cases l with
 |nil=>show some (aR x++[])=_;rw[List.append_nil];rfl
 |cons a r=>show some (cZ ((a::r)++[x]))=_;rw[Gy];show some (_++(aR x++[]))=_;rw[List.append_nil]
def zE:List AV:=ac 0 false [] false [] [] 0 []
theorem Ai:∀l:List Rx,(cZ l).length=l.length*7
 | []=>rfl
 |x::r=>by
  obtain⟨o1,na1,xs1,nb1,ys1,nm1,n1,cs1,hA⟩:=au x;have ih:=Ai r
  simp only[cZ,List.length_append,hA,ih,List.length_cons]
  have:(ac o1 na1 xs1 nb1 ys1 nm1 n1 cs1).length=7:=rfl;omega
theorem Kv (l:List Rx):(cZ l).take (l.length*7)=cZ l:=List.take_of_length_le (Nat.le_of_eq (Ai l))
theorem Hf (t:List (Nat × TV)) (b:List (Nat × Option (List AV))) (q:Nat) (l:List Rx) (x:Rx) (cx:List AV) (hx:aR x=cx):(⟨(q,JI 5001 (l++[x]))::t,(5001,JP (l++[x]))::b⟩:AS)=⟨(q, .own 5001 (l.length+1) 7 29)::t,(5001,some ((cZ l).take (l.length*7)++cx))::b⟩:=by
 rw[DP,CG,Kv,hx]
theorem sJ {f t:List UInt8} {args l:List Rx} (hl:l.length<args.length) (h:l=(args.take l.length).map (fY f t)):l++[fY f t args[l.length]]=(args.take (l++[fY f t args[l.length]]).length).map (fY f t):=by
 rw[List.length_append,List.length_singleton,List.take_add_one,List.map_append,← h]
 simp[hl]
theorem lJ (f t:List UInt8):∀x,vm x→aa Tryz.prog 20 [dR x,dL f,dL t] (.one (dR (fY f t x))):=by
 refine dx fun op na xs nb ys nm args ih hx=>?_
 obtain⟨h1,h2,h3,h4⟩:=hx;rw[fY,gE];show aa Tryz.prog _ [.agg (ac op na xs nb ys nm args.length (cZ args)),dL f,dL t] (.one (.agg (ac op na xs nb ys (if op=2∧nm=f then t else nm) (args.map (fY f t)).length (cZ (args.map (fY f t))))));refine kV func20 ?_
 refine aS (List Rx) (fun l=>l.length≤args.length∧l=(args.take l.length).map (fY f t)) (fun l=>⟨[(7,JI 5001 l),(1, .d (dL f)),(2, .d (dL t)),(3, .box 0 0),(6, .box 1 0),(8, .d (dN .i64 l.length))],[(5001,JP l),(0,some (ac op na xs nb ys nm args.length (cZ args))),(1,some zE)]⟩) (fun l=>args.length-l.length) [] ⟨Nat.zero_le _,rfl⟩
  (weak ⟨rfl,rfl,rfl,rfl,rfl,rfl,trivial⟩ ⟨rfl,rfl,trivial⟩ rfl) ?_
 rintro l ⟨hi,hl⟩;refine kI ?_
 refine kO4 ?_
 by_cases hlt:l.length<args.length
 ·refine kT ?_
  obtain⟨o1,na1,xs1,nb1,ys1,nm1,n1,cs1,hA⟩:=au args[l.length];obtain⟨o2,na2,xs2,nb2,ys2,nm2,n2,cs2,hA2⟩:=au (fY f t args[l.length]);have hx:args[l.length]? =some args[l.length]:=by simp[hlt]
  have hat:∀(j:Nat) (a:AV),(ac o1 na1 xs1 nb1 ys1 nm1 n1 cs1)[j]? =some a→(cZ args)[l.length*7+j]? =some a:=fun j a h=>fR args l.length args[l.length] hx j a (by rw[hA];exact h)
  have c:=ih args[l.length] (List.getElem_mem hlt) (h4 _ (List.getElem_mem hlt));rw[show dR args[l.length]= .agg (ac o1 na1 xs1 nb1 ys1 nm1 n1 cs1) from congrArg DV.agg hA,show dR (fY f t args[l.length])= .agg (ac o2 na2 xs2 nb2 ys2 nm2 n2 cs2) from congrArg DV.agg hA2]at c;have hs:=sJ hlt hl;have hst:=Hf [(1, .d (dL f)),(2, .d (dL t)),(3, .box 0 0),(6, .box 1 0),(8, .d (dN .i64 ((l++[fY f t args[l.length]]).length:Nat)))] [(0,some (ac op na xs nb ys nm args.length (cZ args))),(1,some zE)] 7 l _ _ hA2;generalize fY f t args[l.length]=y at *;cases l with
  |nil=>
   refine kW ?_;refine bl (i:=0) (cs':=ac o1 na1 xs1 nb1 ys1 nm1 n1 cs1) hlt hat (Nat.zero_lt_succ 6) rfl rfl rfl rfl rfl rfl rfl rfl ?_;refine kW ?_;refine kC (c) ?_;refine kO ?_;refine bI 5002 (m1:=0) (m2:=1) ab (by decide) (by decide) rfl rfl rfl rfl rfl rfl rfl rfl rfl rfl rfl (.nil rfl rfl) rfl rfl rfl ?_;refine kW ?_;refine⟨[]++[y],⟨by simp at hlt ⊢;omega,hs⟩,by simp;omega,?_⟩
   refine Eq.mpr (congrArg (aV _) hst) (aV.trans (b:=⟨[(7, .own 5002 1 7 29),(1, .d (dL f)),(2, .d (dL t)),(3, .box 0 0),(6, .box 1 0),(8, .d (dN .i64 (1:Nat)))],[(5002,some ([]++ac o2 na2 xs2 nb2 ys2 nm2 n2 cs2)),(0,some (ac op na xs nb ys nm args.length (cZ args))),(1,some zE)]⟩) (weak ⟨rfl,rfl,rfl,rfl,rfl,rfl,trivial⟩ ⟨rfl,rfl,rfl,trivial⟩ rfl) ((ax (q:=7) (j:=5002) (j':=5001) rfl rfl rfl rfl).trans (weak ⟨rfl,rfl,rfl,rfl,rfl,rfl,trivial⟩ ⟨rfl,rfl,rfl,trivial⟩ rfl)))
  |cons a r=>
   refine kW ?_;refine bl (i:=(a::r).length) (cs':=ac o1 na1 xs1 nb1 ys1 nm1 n1 cs1) hlt hat (Nat.zero_lt_succ 6) rfl rfl rfl rfl rfl rfl rfl rfl ?_;refine kW ?_;refine kC (c) ?_;refine kO ?_;refine bI 5002 (m1:=(a::r).length) (m2:=1) ab (by decide) (Nat.le_trans (Nat.mul_le_mul_right _ (show(a::r).length+1≤1000000 by omega)) (by decide)) rfl rfl rfl rfl rfl rfl rfl rfl rfl rfl rfl (.own rfl rfl) rfl rfl rfl ?_;refine kW ?_;refine⟨(a::r)++[y],⟨by rw[List.length_append];exact hlt,hs⟩,by simp at hlt ⊢;omega,?_⟩
   refine Eq.mpr (congrArg (aV _) hst) (aV.trans (b:=⟨[(7, .own 5002 ((a::r).length+1) 7 29),(1, .d (dL f)),(2, .d (dL t)),(3, .box 0 0),(6, .box 1 0),(8, .d (dN .i64 (((a::r)++[y]).length:Nat)))],[(5002,some ((cZ (a::r)).take ((a::r).length*7)++ac o2 na2 xs2 nb2 ys2 nm2 n2 cs2)),(0,some (ac op na xs nb ys nm args.length (cZ args))),(1,some zE)]⟩) (weak ⟨rfl,rfl,rfl,rfl,rfl,aG (by simp) (by simp at hlt ⊢;omega),trivial⟩ ⟨rfl,rfl,rfl,trivial⟩ rfl) ((ax (q:=7) (j:=5002) (j':=5001) rfl rfl rfl rfl).trans (weak ⟨rfl,rfl,rfl,rfl,rfl,rfl,trivial⟩ ⟨rfl,rfl,rfl,trivial⟩ rfl)))
 ·refine kE ?_
  have he:l=args.map (fY f t):=by rw[hl,show l.length=args.length by omega,List.take_length]
  rw[← he];clear hl he;generalize hz:(if op=2∧nm=f then t else nm)=z;refine kN ?_;refine av (T:=TT) ?_;refine bK (T:=TT) rfl ?_;refine cV ?_;refine av (T:=TT) ?_;cases l with
  |nil=>
   refine ee (s1:=⟨[(1, .d (dL f)),(2, .d (dL t)),(3, .box 0 0),(6, .box 1 0),(7, .nil)],[(0,some (ac op na xs nb ys nm args.length (cZ args))),(1,some zE)]⟩) (weak ⟨rfl,rfl,rfl,rfl,rfl,trivial⟩ ⟨rfl,rfl,trivial⟩ rfl) rfl ?_;refine kG ?_
   refine kO2 ?_
   by_cases ho:op=2
   ·refine kB true ?_ ?_
    ·exact decide_eq_true ho
    refine kO4 ?_
    by_cases hn:nm=f
    ·refine aP rfl rfl rfl rfl rfl rfl rfl (cP (a:=nm) (b:=f) hn) ?_
     refine kW ?_;refine bu (T:=TT) rfl ?_;rw[← hz,if_pos ⟨ho,hn⟩];rfl
    ·refine aP rfl rfl rfl rfl rfl rfl rfl (gF (a:=nm) (b:=f) hn) ?_
     refine kW ?_;refine bu (T:=TT) rfl ?_;rw[← hz,if_neg (fun h=>hn h.2)];rfl
   ·refine kB false ?_ ?_
    ·exact decide_eq_false ho
    refine kW ?_;refine bu (T:=TT) rfl ?_;rw[← hz,if_neg (fun h=>ho h.1)];rfl
  |cons a r=>
   refine ee (cG (q:=7) rfl rfl) rfl ?_;refine kG ?_
   refine kO2 ?_
   by_cases ho:op=2
   ·refine kB true ?_ ?_
    ·exact decide_eq_true ho
    refine kO4 ?_
    by_cases hn:nm=f
    ·refine aP rfl rfl rfl rfl rfl rfl rfl (cP (a:=nm) (b:=f) hn) ?_
     refine kW ?_;refine bu (T:=TT) rfl ?_;rw[← hz,if_pos ⟨ho,hn⟩];rfl
    ·refine aP rfl rfl rfl rfl rfl rfl rfl (gF (a:=nm) (b:=f) hn) ?_
     refine kW ?_;refine bu (T:=TT) rfl ?_;rw[← hz,if_neg (fun h=>hn h.2)];rfl
   ·refine kB false ?_ ?_
    ·exact decide_eq_false ho
    refine kW ?_;refine bu (T:=TT) rfl ?_;rw[← hz,if_neg (fun h=>ho h.1)];rfl
theorem oI (f t:List UInt8):∀x,vm x→nu x→aa Tryz.prog 21 [dR x,dL f,dL t] (.one (dR (fY f t x))):=by
 refine dx fun op na xs nb ys nm args ih hx hwx=>?_
 obtain⟨h1,h2,h3,h4⟩:=hx;obtain⟨_,_,hw,hw',_,_,hargs⟩:=hwx;have cl1:aa Tryz.prog 47 [.leaf (aW xs)] (.one (.leaf (aW xs))):=mx hw (by omega);have cl2:aa Tryz.prog 47 [.leaf (aW ys)] (.one (.leaf (aW ys))):=mx hw' (by omega);rw[fY,gE]
 have hz:(if op=2∧nm=f then t else nm)=cond (decide (op=2∧nm=f)) t nm:=by
  by_cases h:op=2∧nm=f
  ·rw[if_pos h,decide_eq_true h];rfl
  ·rw[if_neg h,decide_eq_false h];rfl
 rw[hz];clear hz;generalize hb:decide (op=2∧nm=f)=b;show aa Tryz.prog _ [.agg (ac op na xs nb ys nm args.length (cZ args)),dL f,dL t] (.one (.agg (ac op na xs nb ys (cond b t nm) (args.map (fY f t)).length (cZ (args.map (fY f t))))));refine kU func21 ?_;refine kR ?_;refine mq ⟨[(1, .d (dL f)),(2, .d (dL t)),(3, .box 0 0),(6, .box 1 0)],[(0,some (ac op na xs nb ys (cond b t nm) args.length (cZ args))),(1,some zE)]⟩ (fun s' hw2=>?_) (fun R hR _=>?_)
 ·refine ee hw2 rfl ?_
  clear hb;refine kW ?_
  refine aS (List Rx) (fun l=>l.length≤args.length∧l=(args.take l.length).map (fY f t)) (fun l=>⟨[(7,JI 5001 l),(1, .d (dL f)),(2, .d (dL t)),(3, .box 0 0),(6, .box 1 0),(22, .d (.leaf (.sl args.length (cZ args)))),(23, .d (dN .i64 args.length)),(24, .d (dN .i64 l.length))],[(5001,JP l),(0,some (ac op na xs nb ys (cond b t nm) args.length (cZ args))),(1,some zE)]⟩) (fun l=>args.length-l.length) [] ⟨Nat.zero_le _,rfl⟩
   (weak ⟨rfl,rfl,rfl,rfl,rfl,rfl,rfl,rfl,trivial⟩ ⟨rfl,rfl,trivial⟩ rfl) ?_
  rintro l ⟨hi,hl⟩;refine kI ?_
  by_cases hlt:l.length<args.length
  ·refine kT ?_
   obtain⟨o1,na1,xs1,nb1,ys1,nm1,n1,cs1,hA⟩:=au args[l.length];obtain⟨o2,na2,xs2,nb2,ys2,nm2,n2,cs2,hA2⟩:=au (fY f t args[l.length]);have hx:args[l.length]? =some args[l.length]:=by simp[hlt]
   have hat:∀(j:Nat) (a:AV),(ac o1 na1 xs1 nb1 ys1 nm1 n1 cs1)[j]? =some a→(cZ args)[l.length*7+j]? =some a:=fun j a h=>fR args l.length args[l.length] hx j a (by rw[hA];exact h)
   have c:=ih args[l.length] (List.getElem_mem hlt) (h4 _ (List.getElem_mem hlt)) (hargs _ (List.getElem_mem hlt));rw[show dR args[l.length]= .agg (ac o1 na1 xs1 nb1 ys1 nm1 n1 cs1) from congrArg DV.agg hA,show dR (fY f t args[l.length])= .agg (ac o2 na2 xs2 nb2 ys2 nm2 n2 cs2) from congrArg DV.agg hA2]at c;have hs:=sJ hlt hl;have hst:=Hf [(1, .d (dL f)),(2, .d (dL t)),(3, .box 0 0),(6, .box 1 0),(22, .d (.leaf (.sl args.length (cZ args)))),(23, .d (dN .i64 args.length)),(24, .d (dN .i64 ((l++[fY f t args[l.length]]).length:Nat)))] [(0,some (ac op na xs nb ys (cond b t nm) args.length (cZ args))),(1,some zE)] 7 l _ _ hA2;generalize fY f t args[l.length]=y at *;cases l with
   |nil=>
    refine kW ?_;refine bl (i:=0) (cs':=ac o1 na1 xs1 nb1 ys1 nm1 n1 cs1) hlt hat (Nat.zero_lt_succ 6) rfl rfl rfl rfl rfl rfl rfl rfl ?_;refine kW ?_;refine kC (c) ?_;refine kO ?_;refine bI 5002 (m1:=0) (m2:=1) ab (by decide) (by decide) rfl rfl rfl rfl rfl rfl rfl rfl rfl rfl rfl (.nil rfl rfl) rfl rfl rfl ?_;refine kW ?_;refine⟨[]++[y],⟨by simp at hlt ⊢;omega,hs⟩,by simp;omega,?_⟩
    refine Eq.mpr (congrArg (aV _) hst) (aV.trans (b:=⟨[(7, .own 5002 1 7 29),(1, .d (dL f)),(2, .d (dL t)),(3, .box 0 0),(6, .box 1 0),(22, .d (.leaf (.sl args.length (cZ args)))),(23, .d (dN .i64 args.length)),(24, .d (dN .i64 (1:Nat)))],[(5002,some ([]++ac o2 na2 xs2 nb2 ys2 nm2 n2 cs2)),(0,some (ac op na xs nb ys (cond b t nm) args.length (cZ args))),(1,some zE)]⟩) (weak ⟨rfl,rfl,rfl,rfl,rfl,rfl,rfl,rfl,trivial⟩ ⟨rfl,rfl,rfl,trivial⟩ rfl) ((ax (q:=7) (j:=5002) (j':=5001) rfl rfl rfl rfl).trans (weak ⟨rfl,rfl,rfl,rfl,rfl,rfl,rfl,rfl,trivial⟩ ⟨rfl,rfl,rfl,trivial⟩ rfl)))
   |cons a r=>
    refine kW ?_;refine bl (i:=(a::r).length) (cs':=ac o1 na1 xs1 nb1 ys1 nm1 n1 cs1) hlt hat (Nat.zero_lt_succ 6) rfl rfl rfl rfl rfl rfl rfl rfl ?_;refine kW ?_;refine kC (c) ?_;refine kO ?_;refine bI 5002 (m1:=(a::r).length) (m2:=1) ab (by decide) (Nat.le_trans (Nat.mul_le_mul_right _ (show(a::r).length+1≤1000000 by omega)) (by decide)) rfl rfl rfl rfl rfl rfl rfl rfl rfl rfl rfl (.own rfl rfl) rfl rfl rfl ?_;refine kW ?_;refine⟨(a::r)++[y],⟨by rw[List.length_append];exact hlt,hs⟩,by simp at hlt ⊢;omega,?_⟩
    refine Eq.mpr (congrArg (aV _) hst) (aV.trans (b:=⟨[(7, .own 5002 ((a::r).length+1) 7 29),(1, .d (dL f)),(2, .d (dL t)),(3, .box 0 0),(6, .box 1 0),(22, .d (.leaf (.sl args.length (cZ args)))),(23, .d (dN .i64 args.length)),(24, .d (dN .i64 (((a::r)++[y]).length:Nat)))],[(5002,some ((cZ (a::r)).take ((a::r).length*7)++ac o2 na2 xs2 nb2 ys2 nm2 n2 cs2)),(0,some (ac op na xs nb ys (cond b t nm) args.length (cZ args))),(1,some zE)]⟩) (weak ⟨rfl,rfl,rfl,rfl,rfl,rfl,rfl,aG (by simp) (by simp at hlt ⊢;omega),trivial⟩ ⟨rfl,rfl,rfl,trivial⟩ rfl) ((ax (q:=7) (j:=5002) (j':=5001) rfl rfl rfl rfl).trans (weak ⟨rfl,rfl,rfl,rfl,rfl,rfl,rfl,rfl,trivial⟩ ⟨rfl,rfl,rfl,trivial⟩ rfl)))
  ·refine kE ?_
   have he:l=args.map (fY f t):=by rw[hl,show l.length=args.length by omega,List.take_length]
   rw[← he];clear hl he;refine kN ?_;refine av (T:=TT) ?_;refine bK (T:=TT) rfl ?_;refine cV ?_;refine av (T:=TT) ?_;cases l with
   |nil=>
    refine kW ?_;refine kQ (cl1) ?_;refine kC (cl2) ?_;exact kF
   |cons a r=>
    refine ee (cG (q:=7) rfl rfl) rfl ?_;refine kW ?_;refine kQ (cl1) ?_;refine kC (cl2) ?_;exact kF
 ·cases b
  ·by_cases ho:op=2
   ·have hn:nm≠f:=fun e=>by rw[decide_eq_true ⟨ho,e⟩]at hb;cases hb
    refine kI ?_
    refine kO2 ?_
    refine kB true ?_ ?_
    ·exact decide_eq_true ho
    refine kO4 ?_
    refine aP rfl rfl rfl rfl rfl rfl rfl (gF (a:=nm) (b:=f) hn) ?_;refine kW ?_;exact hR _ (weak ⟨rfl,rfl,rfl,rfl,trivial⟩ ⟨rfl,rfl,trivial⟩ rfl)
   ·refine kI ?_
    refine kO2 ?_
    refine kB false ?_ ?_
    ·exact decide_eq_false ho
    refine kW ?_;exact hR _ (weak ⟨rfl,rfl,rfl,rfl,trivial⟩ ⟨rfl,rfl,trivial⟩ rfl)
  ·have h:=of_decide_eq_true hb
   refine kI ?_
   refine kO2 ?_
   refine kB true ?_ ?_
   ·exact decide_eq_true h.1
   refine kO4 ?_
   refine aP rfl rfl rfl rfl rfl rfl rfl (cP (a:=nm) (b:=f) h.2) ?_;refine kW ?_;exact hR _ (weak ⟨rfl,rfl,rfl,rfl,trivial⟩ ⟨rfl,rfl,trivial⟩ rfl)
end Go.Proofs.YtikbnnljjeefgaaGreatDoor
