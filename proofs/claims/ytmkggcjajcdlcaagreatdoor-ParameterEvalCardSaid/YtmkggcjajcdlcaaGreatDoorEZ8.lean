/- Parts of a proof: contracts of the functions that the laws reach. -/
import Derived.Test.YtmkggcjajcdlcaaGreatDoorEZ7
import Derived.Test.YtmkggcjajcdlcaaGreatDoorTie
import Derived.Test.YtmkggcjajcdlcaaGreatDoorCards
set_option maxHeartbeats 100000000
set_option linter.all false
open Go.Proofs.Tryz
namespace Go.Proofs.YtmkggcjajcdlcaaGreatDoor
open Go.RowKit
def Br:B4->Rat->Int->Rat->Int->QR
 | .add,a,p,b,p'=>ln a p b p'
 | .sub,a,p,b,p'=>ln a p (-b) p'
 | .mul,a,p,b,p'=>nY a p b p'
 | .div,a,p,b,p'=>qQ a p b p'
def bh (env:List UInt8->Option (Rat × Int)):Ex->QR
 | .num v u=>if u=[]then .ok (v,0)else match Qz u with
  |some q=> .ok (v*q,1)
  |none=> .error 8
 | .nam s=>match env s with
  |some x=> .ok x
  |none=> .error 4
 | .neg a=>match bh env a with
  | .ok x=> .ok (-x.1,x.2)
  | .error e=> .error e
 | .bin k a b=>match bh env a with
  | .error e=> .error e
  | .ok x=>match bh env b with
   | .error e=> .error e
   | .ok y=>Br k x.1 x.2 y.1 y.2
def iA:Ex->Nat
 | .num _ _=>9
 | .nam _=>400
 | .neg a=>iA a
 | .bin _ a b=>iA a+iA b+1
def qh:Ex->Prop
 | .num v _=>cZ 8 v
 | .nam _=>True
 | .neg a=>qh a
 | .bin _ a b=>qh a/\qh b
theorem MK {k:B4} {a b:Rat} {p p' z:Int} (h:Br k a p b p'= .error z):z=6∨z=8:=by
 cases k<;>simp only[Br,ln,nY,qQ]at h
 ·exact EX
 ·exact EX
 ·exact EX
 ·split at h
  ·cases h;exact .inl rfl
  ·exact EX
theorem cW {env:List UInt8->Option (Rat × Int)}:∀{e:Ex} {z:Int},bh env e= .error z->z≠0
 | .num v u,z,h=>by
  simp only[bh]at h
  split at h
  ·cases h
  ·split at h<;>cases h
   decide
 | .nam s,z,h=>by
  simp only[bh]at h
  split at h<;>cases h
  decide
 | .neg a,z,h=>by
  simp only[bh]at h
  split at h
  ·cases h
  ·rename_i e he;cases h;exact cW he
 | .bin k a b,z,h=>by
  simp only[bh]at h
  split at h
  ·rename_i e he;cases h;exact cW he
  ·split at h
   ·rename_i e he;cases h;exact cW he
   ·rcases MK h with rfl|rfl <;>decide
def j5 (env:List UInt8->Option (Rat × Int)):Prop:=∀s x,env s=some x->cZ 400 x.1/\jZ x.2=true
theorem Qf {k:B4} {i j:Nat} {a b:Rat} {p p':Int} {x:Rat × Int} (h1:cZ i a) (h2:cZ j b) (hp:jZ p=true) (h:Br k a p b p'= .ok x):cZ (i+j+1) x.1/\jZ x.2=true:=by
 cases k<;>simp only[Br,ln,nY,qQ]at h
 ·split at h<;>cases h;exact⟨h1.add h2,hp⟩
 ·split at h<;>cases h;exact⟨h1.add h2.neg,hp⟩
 ·split at h<;>cases h;exact⟨(h1.mul h2).mono (by omega),by assumption⟩
 ·split at h
  ·cases h
  ·split at h<;>cases h
   exact⟨(h1.div h2 (by assumption)).mono (by omega),by assumption⟩
theorem eL {env:List UInt8->Option (Rat × Int)} (henv:j5 env):∀{e:Ex} {x:Rat × Int},qh e->bh env e= .ok x->cZ (iA e) x.1/\jZ x.2=true
 | .num v u,x,ho,h=>by
  simp only[bh]at h
  have ho:cZ 8 v:=ho
  split at h
  ·cases h;exact⟨ho.mono (show 8<=9 by decide),rfl⟩
  ·split at h
   ·rename_i q hq
    cases h;exact⟨ho.mul (yp hq).1,rfl⟩
   ·cases h
 | .nam s,x,_,h=>by
  simp only[bh]at h
  split at h
  ·rename_i y hy;cases h;exact henv s _ hy
  ·cases h
 | .neg a,x,ho,h=>by
  simp only[bh]at h
  split at h
  ·rename_i y hy
   cases h;have:=eL henv (e:=a) ho hy;exact⟨this.1.neg,this.2⟩
  ·cases h
 | .bin k a b,x,ho,h=>by
  simp only[bh]at h
  split at h
  ·cases h
  ·rename_i y hy
   split at h
   ·cases h
   ·rename_i z hz
    have h1:=eL henv ho.1 hy;have h2:=eL henv ho.2 hz;exact Qf h1.1 h2.1 h1.2 h
theorem jA {l:EL} (hv:∀x∈l,cZ 400 x.2.1/\jZ x.2.2=true):j5 (az l):=by
 intro s x h
 induction l with
 |nil=>cases h
 |cons y l ih=>
  simp only[az]at h
  split at h
  ·cases h;exact hv y (by simp)
  ·exact ih (fun x hx=>hv x (by simp[hx])) h
theorem EU (a:Rat):a+((0:Int):Rat)=a:=Rat.add_zero a
theorem Ig:cZ 1 ((0:Int):Rat):=⟨.small (by decide), .small (by decide)⟩
section
variable {l:EL}
theorem uU {v:Rat} {u:List UInt8} (h:cZ 8 v):aa Tryz.prog 69 [dE (.num v u),eU l,eT l] (cP (bh (az l) (.num v u))):=by
 by_cases hu:u=[]
 ·rw[show bh (az l) (.num v u)= .ok (v,0) from if_pos hu]
  refine kU func69 ?_;refine wS ?_;refine sh ?_;refine aC rfl rfl rfl rfl rfl rfl rfl (bn (a:=u) (b:=[]) hu) ?_;refine kW ?_;refine aj (gN 0 (by decide) (by decide) rfl) rfl rfl rfl rfl rfl rfl rfl ?_;refine aj (tI h Ig (by decide) (EU v)) rfl rfl rfl rfl rfl rfl rfl ?_;exact ax
 ·have c1:=y5 u
  unfold tA at c1;cases hf:Qz u with
  |none=>
   rw[hf]at c1;rw[show bh (az l) (.num v u)= .error 8 by simp only[bh,if_neg hu,hf]];refine kU func69 ?_;refine wS ?_;refine sh ?_;refine EP ?_;exact tT
  |some q=>
   rw[hf]at c1;rw[show bh (az l) (.num v u)= .ok (v*q,1) by simp only[bh,if_neg hu,hf]];refine kU func69 ?_;refine wS ?_;refine sh ?_;refine EP ?_;refine iY ?_;refine aj (om h (yp hf).1 (by decide) rfl) rfl rfl rfl rfl rfl rfl rfl ?_;exact ax
theorem uO {s:List UInt8} (hs:fo l) (hl:l.length<=1000000) (hv:∀x∈l,cZ 400 x.2.1/\jZ x.2.2=true):aa Tryz.prog 69 [dE (.nam s),eU l,eT l] (cP (bh (az l) (.nam s))):=by
 obtain⟨i,b,c1,h1,h2⟩:=ME l hs hl s;cases b with
 |false=>
  rw[show bh (az l) (.nam s)= .error 4 by simp only[bh,vr (h2 rfl)]];refine kU func69 ?_;exact tT
 |true=>
  obtain⟨x,hx,e⟩:=h1 rfl;have hi:i<l.length:=(List.getElem?_eq_some_iff.1 hx).1
  have hsz:=(hv x (List.mem_of_getElem? hx)).1;rw[show bh (az l) (.nam s)= .ok x.2 by simp only[bh,<- e,D8 hs hx]];refine kU func69 ?_;refine iY ?_;refine bB (i:=i) (cs':=jS x.2.1 x.2.2) hi (DB hx) (Nat.zero_lt_succ 4) rfl rfl rfl rfl rfl rfl rfl rfl ?_
  refine kO2 ?_
  refine aj (gN 0 (by decide) (by decide) rfl) rfl rfl rfl rfl rfl rfl rfl ?_;refine aj (tI hsz Ig (by decide) (EU x.2.1)) rfl rfl rfl rfl rfl rfl rfl ?_
  refine kO2 ?_
  refine bB (i:=i) (cs':=jS x.2.1 x.2.2) hi (DB hx) (Nat.zero_lt_succ 4) rfl rfl rfl rfl rfl rfl rfl rfl ?_;exact ax
def ab (o:Int) (na:Bool) (xs:List Nat) (nb:Bool) (ys:List Nat) (nm:List UInt8) (n:Nat) (cs:List AV):List AV:=[.val (.int .i64 o), .val (.bool na),aW xs, .val (.bool nb),aW ys, .val (vL nm), .sl n cs]
theorem bO (a:Ex):∃o na xs nb ys nm n cs,aE a=ab o na xs nb ys nm n cs:=by
 unfold aE;generalize rx a=x;exact Oi
theorem Lv (a:List AV):∀(j:Nat) (x:AV),a[j]? =some x->a[0*7+j]? =some x:=fun j x h=>by rw[Nat.zero_mul,Nat.zero_add];exact h
theorem Lz (a b:List AV):∀(j:Nat) (x:AV),a[j]? =some x->(a++b)[0*7+j]? =some x:=fun j x h=>by
 rw[Nat.zero_mul,Nat.zero_add,List.getElem?_append_left (List.getElem?_eq_some_iff.1 h).1];exact h
theorem LA {a:List AV} (b:List AV) (ha:a.length=7):∀(j:Nat) (x:AV),b[j]? =some x->(a++b)[1*7+j]? =some x:=fun j x h=>by
 rw[List.getElem?_append_right (by rw[ha];omega),ha,show 1*7+j-7=j by omega];exact h
theorem u4 {a:Ex} (henv:j5 (az l)) (ho:qh a) (hw:iA a<=1000000) (ih:aa Tryz.prog 69 [dE a,eU l,eT l] (cP (bh (az l) a))):aa Tryz.prog 69 [dE (.neg a),eU l,eT l] (cP (bh (az l) (.neg a))):=by
 obtain⟨o1,na1,xs1,nb1,ys1,nm1,n1,cs1,hA⟩:=bO a;refine Po ?_;rw[show dE a= .agg (ab o1 na1 xs1 nb1 ys1 nm1 n1 cs1) from congrArg DV.agg hA]at ih;cases ha:bh (az l) a with
 |error z=>
  have hz:=cW ha;rw[ha]at ih;rw[show bh (az l) (.neg a)= .error z by simp only[bh,ha]];refine SV ?_;exact Ei
 |ok x=>
  obtain⟨hx,hp⟩:=eL henv ho ha;rw[ha]at ih;rw[show bh (az l) (.neg a)= .ok (-x.1,x.2) by simp only[bh,ha]];refine SV ?_;refine MS ?_;refine aN ⟨[(1, .d (eU l)),(2, .d (eT l)),(3, .box 0 0),(6, .box 1 0),(7, .d (dN .i64 0)),(12, .own 5001 1 5 50),(72, .d (.leaf (.sl 1 (ab o1 na1 xs1 nb1 ys1 nm1 n1 cs1)))),(73, .d (dN .i64 1)),(74, .d (dN .i64 1))],[(0,some ([.val (.int .i64 3)]++uo++[.val (vL []), .sl 1 (ab o1 na1 xs1 nb1 ys1 nm1 n1 cs1)])),(1,some iF),(5001,some (jS x.1 x.2))]⟩ kw ?_;refine kW ?_;refine fY (i:=0) (by decide) rfl rfl rfl rfl rfl rfl rfl rfl rfl ?_;refine kW ?_;refine aj (mn hx (by omega)) rfl rfl rfl rfl rfl rfl rfl ?_;exact ax
theorem uV {a b:Ex} (henv:j5 (az l)) (ho:qh a) (ho':qh b) (hw:iA a+iA b<=1000000) (ih:aa Tryz.prog 69 [dE a,eU l,eT l] (cP (bh (az l) a))) (ih':aa Tryz.prog 69 [dE b,eU l,eT l] (cP (bh (az l) b))):aa Tryz.prog 69 [dE (.bin .add a b),eU l,eT l] (cP (bh (az l) (.bin .add a b))):=by
 obtain⟨o1,na1,xs1,nb1,ys1,nm1,n1,cs1,hA⟩:=bO a;obtain⟨o2,na2,xs2,nb2,ys2,nm2,n2,cs2,hB⟩:=bO b;refine M9 ?_;rw[show dE a= .agg (ab o1 na1 xs1 nb1 ys1 nm1 n1 cs1) from congrArg DV.agg hA]at ih;rw[show dE b= .agg (ab o2 na2 xs2 nb2 ys2 nm2 n2 cs2) from congrArg DV.agg hB]at ih';cases ha:bh (az l) a with
 |error z=>
  have hz:=cW ha;rw[ha]at ih;rw[show bh (az l) (.bin .add a b)= .error z by simp only[bh,ha]];refine Qv ?_;refine FF ?_;exact Ei
 |ok x=>
  obtain⟨hx,hpx⟩:=eL henv ho ha;rw[ha]at ih;cases hb:bh (az l) b with
  |error z=>
   have hz:=cW hb;rw[hb]at ih';rw[show bh (az l) (.bin .add a b)= .error z by simp only[bh,ha,hb]];refine Qv ?_;refine FF ?_;refine MS ?_;refine Sq ?_;exact wR
  |ok y=>
   obtain⟨hy,hpy⟩:=eL henv ho' hb;rw[hb]at ih';have hR:bh (az l) (.bin .add a b)=Br .add x.1 x.2 y.1 y.2:=by simp only[bh,ha,hb]
   rw[hR];show aa Tryz.prog _ _ (cP (ln x.1 x.2 y.1 y.2));have c:=zO hx hy (by omega) hpx (p':=y.2);cases hr:ln x.1 x.2 y.1 y.2 with
   |error z=>
    exact Kj
   |ok z=>
    exact Kj
theorem uA {a b:Ex} (henv:j5 (az l)) (ho:qh a) (ho':qh b) (hw:iA a+iA b<=1000000) (ih:aa Tryz.prog 69 [dE a,eU l,eT l] (cP (bh (az l) a))) (ih':aa Tryz.prog 69 [dE b,eU l,eT l] (cP (bh (az l) b))):aa Tryz.prog 69 [dE (.bin .sub a b),eU l,eT l] (cP (bh (az l) (.bin .sub a b))):=by
 obtain⟨o1,na1,xs1,nb1,ys1,nm1,n1,cs1,hA⟩:=bO a;obtain⟨o2,na2,xs2,nb2,ys2,nm2,n2,cs2,hB⟩:=bO b;refine Nm ?_;rw[show dE a= .agg (ab o1 na1 xs1 nb1 ys1 nm1 n1 cs1) from congrArg DV.agg hA]at ih;rw[show dE b= .agg (ab o2 na2 xs2 nb2 ys2 nm2 n2 cs2) from congrArg DV.agg hB]at ih';cases ha:bh (az l) a with
 |error z=>
  have hz:=cW ha;rw[ha]at ih;rw[show bh (az l) (.bin .sub a b)= .error z by simp only[bh,ha]];refine Qn ?_;refine FF ?_;exact Ei
 |ok x=>
  obtain⟨hx,hpx⟩:=eL henv ho ha;rw[ha]at ih;cases hb:bh (az l) b with
  |error z=>
   have hz:=cW hb;rw[hb]at ih';rw[show bh (az l) (.bin .sub a b)= .error z by simp only[bh,ha,hb]];refine Qn ?_;refine FF ?_;refine MS ?_;refine RC ?_;exact wR
  |ok y=>
   obtain⟨hy,hpy⟩:=eL henv ho' hb;rw[hb]at ih';have hR:bh (az l) (.bin .sub a b)=Br .sub x.1 x.2 y.1 y.2:=by simp only[bh,ha,hb]
   rw[hR];show aa Tryz.prog _ _ (cP (ln x.1 x.2 (-y.1) y.2));have c:=zO hx hy.neg (by omega) hpx (p':=y.2);cases hr:ln x.1 x.2 (-y.1) y.2 with
   |error z=>
    exact M4
   |ok z=>
    exact M4
theorem uZ {a b:Ex} (henv:j5 (az l)) (ho:qh a) (ho':qh b) (hw:iA a+iA b<=1000000) (ih:aa Tryz.prog 69 [dE a,eU l,eT l] (cP (bh (az l) a))) (ih':aa Tryz.prog 69 [dE b,eU l,eT l] (cP (bh (az l) b))):aa Tryz.prog 69 [dE (.bin .mul a b),eU l,eT l] (cP (bh (az l) (.bin .mul a b))):=by
 obtain⟨o1,na1,xs1,nb1,ys1,nm1,n1,cs1,hA⟩:=bO a;obtain⟨o2,na2,xs2,nb2,ys2,nm2,n2,cs2,hB⟩:=bO b;refine Nb ?_;rw[show dE a= .agg (ab o1 na1 xs1 nb1 ys1 nm1 n1 cs1) from congrArg DV.agg hA]at ih;rw[show dE b= .agg (ab o2 na2 xs2 nb2 ys2 nm2 n2 cs2) from congrArg DV.agg hB]at ih';cases ha:bh (az l) a with
 |error z=>
  have hz:=cW ha;rw[ha]at ih;rw[show bh (az l) (.bin .mul a b)= .error z by simp only[bh,ha]];refine Qd ?_;refine FF ?_;exact Ei
 |ok x=>
  obtain⟨hx,hpx⟩:=eL henv ho ha;rw[ha]at ih;cases hb:bh (az l) b with
  |error z=>
   have hz:=cW hb;rw[hb]at ih';rw[show bh (az l) (.bin .mul a b)= .error z by simp only[bh,ha,hb]];refine Qd ?_;refine FF ?_;refine MS ?_;refine RI ?_;exact wR
  |ok y=>
   obtain⟨hy,hpy⟩:=eL henv ho' hb;rw[hb]at ih';have hR:bh (az l) (.bin .mul a b)=Br .mul x.1 x.2 y.1 y.2:=by simp only[bh,ha,hb]
   rw[hR];show aa Tryz.prog _ _ (cP (nY x.1 x.2 y.1 y.2));have c:=IP hx hy (by omega) hpx hpy;cases hr:nY x.1 x.2 y.1 y.2 with
   |error z=>
    exact Pt
   |ok z=>
    exact Pt
theorem uP {a b:Ex} (henv:j5 (az l)) (ho:qh a) (ho':qh b) (hw:iA a+iA b<=1000000) (ih:aa Tryz.prog 69 [dE a,eU l,eT l] (cP (bh (az l) a))) (ih':aa Tryz.prog 69 [dE b,eU l,eT l] (cP (bh (az l) b))):aa Tryz.prog 69 [dE (.bin .div a b),eU l,eT l] (cP (bh (az l) (.bin .div a b))):=by
 obtain⟨o1,na1,xs1,nb1,ys1,nm1,n1,cs1,hA⟩:=bO a;obtain⟨o2,na2,xs2,nb2,ys2,nm2,n2,cs2,hB⟩:=bO b;refine MW ?_;rw[show dE a= .agg (ab o1 na1 xs1 nb1 ys1 nm1 n1 cs1) from congrArg DV.agg hA]at ih;rw[show dE b= .agg (ab o2 na2 xs2 nb2 ys2 nm2 n2 cs2) from congrArg DV.agg hB]at ih';cases ha:bh (az l) a with
 |error z=>
  have hz:=cW ha;rw[ha]at ih;rw[show bh (az l) (.bin .div a b)= .error z by simp only[bh,ha]];refine P9 ?_;refine FF ?_;exact Ei
 |ok x=>
  obtain⟨hx,hpx⟩:=eL henv ho ha;rw[ha]at ih;cases hb:bh (az l) b with
  |error z=>
   have hz:=cW hb;rw[hb]at ih';rw[show bh (az l) (.bin .div a b)= .error z by simp only[bh,ha,hb]];refine P9 ?_;refine FF ?_;refine MS ?_;refine R9 ?_;exact wR
  |ok y=>
   obtain⟨hy,hpy⟩:=eL henv ho' hb;rw[hb]at ih';have hR:bh (az l) (.bin .div a b)=Br .div x.1 x.2 y.1 y.2:=by simp only[bh,ha,hb]
   rw[hR];show aa Tryz.prog _ _ (cP (qQ x.1 x.2 y.1 y.2));have c:=Il hx hy (by omega) hpx hpy;cases hr:qQ x.1 x.2 y.1 y.2 with
   |error z=>
    exact Pq
   |ok z=>
    exact Pq
end
theorem dU {l:EL} (hs:fo l) (hl:l.length<=1000000) (hv:∀x∈l,cZ 400 x.2.1/\jZ x.2.2=true):∀e,qh e->iA e<=1000000->aa Tryz.prog 69 [dE e,eU l,eT l] (cP (bh (az l) e))
 | .num _ _,ho,_=>uU ho
 | .nam _,_,_=>uO hs hl hv
 | .neg a,ho,hw=>u4 (jA hv) ho hw (dU hs hl hv a ho hw)
 | .bin .add a b,ho,hw=>by
  have hw':iA a+iA b+1<=1000000:=hw;exact uV (jA hv) ho.1 ho.2 (by omega) (dU hs hl hv a ho.1 (by omega)) (dU hs hl hv b ho.2 (by omega))
 | .bin .sub a b,ho,hw=>by
  have hw':iA a+iA b+1<=1000000:=hw;exact uA (jA hv) ho.1 ho.2 (by omega) (dU hs hl hv a ho.1 (by omega)) (dU hs hl hv b ho.2 (by omega))
 | .bin .mul a b,ho,hw=>by
  have hw':iA a+iA b+1<=1000000:=hw;exact uZ (jA hv) ho.1 ho.2 (by omega) (dU hs hl hv a ho.1 (by omega)) (dU hs hl hv b ho.2 (by omega))
 | .bin .div a b,ho,hw=>by
  have hw':iA a+iA b+1<=1000000:=hw;exact uP (jA hv) ho.1 ho.2 (by omega) (dU hs hl hv a ho.1 (by omega)) (dU hs hl hv b ho.2 (by omega))
section
variable {l:EL}
theorem qS {v:Rat} {u:List UInt8} (h:cZ 8 v):aa Tryz.prog 39 [dE (.num v u),eU l,eT l] (cP (bh (az l) (.num v u))):=by
 by_cases hu:u=[]
 ·rw[show bh (az l) (.num v u)= .ok (v,0) from if_pos hu]
  refine kU func39 ?_;refine wS ?_;refine kq ?_;refine aC rfl rfl rfl rfl rfl rfl rfl (bn (a:=u) (b:=[]) hu) ?_;exact ax
 ·have c1:=uW u
  unfold tA at c1;cases hf:Qz u with
  |none=>
   rw[hf]at c1;rw[show bh (az l) (.num v u)= .error 8 by simp only[bh,if_neg hu,hf]];refine kU func39 ?_;refine wS ?_;refine kq ?_;refine EP ?_;exact tT
  |some q=>
   rw[hf]at c1;rw[show bh (az l) (.num v u)= .ok (v*q,1) by simp only[bh,if_neg hu,hf]];have c2:=ug (a:=v) (b:=q) (p:=0) (p':=1) h (yp hf).1 (by decide) rfl rfl;rw[show nY v 0 q 1= .ok (v*q,1) from if_pos (by decide)]at c2;refine kU func39 ?_;refine wS ?_;refine kq ?_;refine EP ?_;refine iY ?_;refine kC (c2) ?_;exact ax
theorem Dt {l:EL} {s:List UInt8} {i:Nat} {x:List UInt8 × (Rat × Int)} (hx:l[i]? =some x) (e:x.1=s) (h:∀(q:Nat) y,q<i->l[q]? =some y->y.1≠s):az l s=some x.2:=by
 induction l generalizing i with
 |nil=>simp at hx
 |cons y l ih=>
  simp only[az]
  cases i with
  |zero=>simp at hx;subst hx;rw[if_pos e]
  |succ i=>
   rw[if_neg (h 0 y (by omega) rfl)];exact ih (i:=i) (by simpa using hx) (fun q z hq hz=>h (q+1) z (by omega) (by simpa using hz))
theorem qP {s:List UInt8} (hl:l.length<=1000000):aa Tryz.prog 39 [dE (.nam s),eU l,eT l] (cP (bh (az l) (.nam s))):=by
 refine kV func39 ?_
 refine aq Nat (fun j=>j<=l.length/\ ∀(q:Nat) y,q<j->l[q]? =some y->y.1≠s) (fun j=>⟨[(1, .d (eU l)),(2, .d (eT l)),(3, .box 0 0),(6, .box 1 0),(7, .d (dN .i64 0)),(11, .d (dN .i64 j))],[(0,some (aE (.nam s))),(1,some iF)]⟩) (fun j=>l.length-j) 0 ⟨Nat.zero_le _,fun q y h=>absurd h (Nat.not_lt_zero _)⟩
  kw ?_
 rintro j ⟨hj,hall⟩;refine kI ?_
 refine kO3 ?_
 by_cases hlt:j<l.length
 ·have hx:l[j]? =some l[j]:=by simp[hlt]
  refine kX ?_;refine bB (i:=j) (cs':=[.val (vL l[j].1)]) hlt (DN hx) (by simp) rfl rfl rfl rfl rfl rfl rfl rfl ?_
  refine kO3 ?_
  by_cases e:l[j].1=s
  ·refine aC rfl rfl rfl rfl rfl rfl rfl (bn (a:=l[j].1) (b:=s) e) ?_
   refine kW ?_;refine bB (i:=j) (cs':=jS l[j].2.1 l[j].2.2) hlt (DB hx) (Nat.zero_lt_succ 4) rfl rfl rfl rfl rfl rfl rfl rfl ?_;refine kW ?_;rw[show bh (az l) (.nam s)= .ok l[j].2 by simp only[bh,Dt hx e hall]];exact cw (T:=TT) rfl rfl
  ·refine aC rfl rfl rfl rfl rfl rfl rfl (bH (a:=l[j].1) (b:=s) e) ?_
   refine kW ?_
   exact⟨j+1,⟨hlt,fun q y hq hy=>by
    by_cases eq:q=j
    ·subst eq;rw[hx]at hy;cases hy;exact e
    ·exact hall q y (by omega) hy⟩,by omega,weak ⟨rfl,rfl,rfl,rfl,rfl,ae (by omega) (by omega),trivial⟩ ⟨rfl,rfl,trivial⟩ rfl⟩
 ·refine kE ?_
  refine kW ?_
  rw[show bh (az l) (.nam s)= .error 4 by
   have:az l s=none:=vr (fun x hx=>by
    obtain⟨q,hq⟩:=List.getElem?_of_mem hx;exact hall q x (by have:=(List.getElem?_eq_some_iff.1 hq).1;omega) hq)
   simp only[bh,this]]
  exact cw (T:=TT) rfl rfl
theorem qX {a:Ex} (ih:aa Tryz.prog 39 [dE a,eU l,eT l] (cP (bh (az l) a))):aa Tryz.prog 39 [dE (.neg a),eU l,eT l] (cP (bh (az l) (.neg a))):=by
 obtain⟨o1,na1,xs1,nb1,ys1,nm1,n1,cs1,hA⟩:=bO a;refine Po ?_;rw[show dE a= .agg (ab o1 na1 xs1 nb1 ys1 nm1 n1 cs1) from congrArg DV.agg hA]at ih;cases ha:bh (az l) a with
 |error z=>
  have hz:=cW ha;rw[ha]at ih;rw[show bh (az l) (.neg a)= .error z by simp only[bh,ha]];refine kU func39 ?_;refine Rw ?_;refine PR ?_;exact ld
 |ok x=>
  rw[ha]at ih;rw[show bh (az l) (.neg a)= .ok (-x.1,x.2) by simp only[bh,ha]];refine kU func39 ?_;refine Rw ?_;refine PR ?_;refine kW ?_;refine kC (ng) ?_;exact ax
theorem qN {a b:Ex} (henv:j5 (az l)) (ho:qh a) (ho':qh b) (hw:iA a+iA b<=1000000) (ih:aa Tryz.prog 39 [dE a,eU l,eT l] (cP (bh (az l) a))) (ih':aa Tryz.prog 39 [dE b,eU l,eT l] (cP (bh (az l) b))):aa Tryz.prog 39 [dE (.bin .add a b),eU l,eT l] (cP (bh (az l) (.bin .add a b))):=by
 obtain⟨o1,na1,xs1,nb1,ys1,nm1,n1,cs1,hA⟩:=bO a;obtain⟨o2,na2,xs2,nb2,ys2,nm2,n2,cs2,hB⟩:=bO b;refine M9 ?_;rw[show dE a= .agg (ab o1 na1 xs1 nb1 ys1 nm1 n1 cs1) from congrArg DV.agg hA]at ih;rw[show dE b= .agg (ab o2 na2 xs2 nb2 ys2 nm2 n2 cs2) from congrArg DV.agg hB]at ih';cases ha:bh (az l) a with
 |error z=>
  have hz:=cW ha;rw[ha]at ih;rw[show bh (az l) (.bin .add a b)= .error z by simp only[bh,ha]];refine Og ?_;exact ld
 |ok x=>
  obtain⟨hx,hpx⟩:=eL henv ho ha;rw[ha]at ih;cases hb:bh (az l) b with
  |error z=>
   have hz:=cW hb;rw[hb]at ih';rw[show bh (az l) (.bin .add a b)= .error z by simp only[bh,ha,hb]];refine um ?_;exact ld
  |ok y=>
   obtain⟨hy,hpy⟩:=eL henv ho' hb;rw[hb]at ih';have hR:bh (az l) (.bin .add a b)=Br .add x.1 x.2 y.1 y.2:=by simp only[bh,ha,hb]
   rw[hR];show aa Tryz.prog _ _ (cP (ln x.1 x.2 y.1 y.2));have c:=ul (p:=x.2) (p':=y.2) hx hy (by omega);cases hr:ln x.1 x.2 y.1 y.2 with
   |error z=>
    exact zv
   |ok z=>
    exact zv
theorem q9 {a b:Ex} (henv:j5 (az l)) (ho:qh a) (ho':qh b) (hw:iA a+iA b<=1000000) (ih:aa Tryz.prog 39 [dE a,eU l,eT l] (cP (bh (az l) a))) (ih':aa Tryz.prog 39 [dE b,eU l,eT l] (cP (bh (az l) b))):aa Tryz.prog 39 [dE (.bin .sub a b),eU l,eT l] (cP (bh (az l) (.bin .sub a b))):=by
 obtain⟨o1,na1,xs1,nb1,ys1,nm1,n1,cs1,hA⟩:=bO a;obtain⟨o2,na2,xs2,nb2,ys2,nm2,n2,cs2,hB⟩:=bO b;refine Nm ?_;rw[show dE a= .agg (ab o1 na1 xs1 nb1 ys1 nm1 n1 cs1) from congrArg DV.agg hA]at ih;rw[show dE b= .agg (ab o2 na2 xs2 nb2 ys2 nm2 n2 cs2) from congrArg DV.agg hB]at ih';cases ha:bh (az l) a with
 |error z=>
  have hz:=cW ha;rw[ha]at ih;rw[show bh (az l) (.bin .sub a b)= .error z by simp only[bh,ha]];refine Og ?_;exact ld
 |ok x=>
  obtain⟨hx,hpx⟩:=eL henv ho ha;rw[ha]at ih;cases hb:bh (az l) b with
  |error z=>
   have hz:=cW hb;rw[hb]at ih';rw[show bh (az l) (.bin .sub a b)= .error z by simp only[bh,ha,hb]];refine um ?_;exact ld
  |ok y=>
   obtain⟨hy,hpy⟩:=eL henv ho' hb;rw[hb]at ih';have hR:bh (az l) (.bin .sub a b)=Br .sub x.1 x.2 y.1 y.2:=by simp only[bh,ha,hb]
   rw[hR];show aa Tryz.prog _ _ (cP (ln x.1 x.2 (-y.1) y.2));have c:=ul (p:=x.2) (p':=y.2) hx hy.neg (by omega);cases hr:ln x.1 x.2 (-y.1) y.2 with
   |error z=>
    rw[hr]at c;refine um ?_;refine kW ?_;refine kC (ng) ?_;refine kC (c) ?_;exact ax
   |ok z=>
    rw[hr]at c;refine um ?_;refine kW ?_;refine kC (ng) ?_;refine kC (c) ?_;exact ax
theorem qR {a b:Ex} (henv:j5 (az l)) (ho:qh a) (ho':qh b) (hw:iA a+iA b<=1000000) (ih:aa Tryz.prog 39 [dE a,eU l,eT l] (cP (bh (az l) a))) (ih':aa Tryz.prog 39 [dE b,eU l,eT l] (cP (bh (az l) b))):aa Tryz.prog 39 [dE (.bin .mul a b),eU l,eT l] (cP (bh (az l) (.bin .mul a b))):=by
 obtain⟨o1,na1,xs1,nb1,ys1,nm1,n1,cs1,hA⟩:=bO a;obtain⟨o2,na2,xs2,nb2,ys2,nm2,n2,cs2,hB⟩:=bO b;refine Nb ?_;rw[show dE a= .agg (ab o1 na1 xs1 nb1 ys1 nm1 n1 cs1) from congrArg DV.agg hA]at ih;rw[show dE b= .agg (ab o2 na2 xs2 nb2 ys2 nm2 n2 cs2) from congrArg DV.agg hB]at ih';cases ha:bh (az l) a with
 |error z=>
  have hz:=cW ha;rw[ha]at ih;rw[show bh (az l) (.bin .mul a b)= .error z by simp only[bh,ha]];refine Og ?_;exact ld
 |ok x=>
  obtain⟨hx,hpx⟩:=eL henv ho ha;rw[ha]at ih;cases hb:bh (az l) b with
  |error z=>
   have hz:=cW hb;rw[hb]at ih';rw[show bh (az l) (.bin .mul a b)= .error z by simp only[bh,ha,hb]];refine um ?_;exact ld
  |ok y=>
   obtain⟨hy,hpy⟩:=eL henv ho' hb;rw[hb]at ih';have hR:bh (az l) (.bin .mul a b)=Br .mul x.1 x.2 y.1 y.2:=by simp only[bh,ha,hb]
   rw[hR];show aa Tryz.prog _ _ (cP (nY x.1 x.2 y.1 y.2));have c:=ug hx hy (by omega) hpx hpy;cases hr:nY x.1 x.2 y.1 y.2 with
   |error z=>
    exact zv
   |ok z=>
    exact zv
theorem qV {a b:Ex} (henv:j5 (az l)) (ho:qh a) (ho':qh b) (hw:iA a+iA b<=1000000) (ih:aa Tryz.prog 39 [dE a,eU l,eT l] (cP (bh (az l) a))) (ih':aa Tryz.prog 39 [dE b,eU l,eT l] (cP (bh (az l) b))):aa Tryz.prog 39 [dE (.bin .div a b),eU l,eT l] (cP (bh (az l) (.bin .div a b))):=by
 obtain⟨o1,na1,xs1,nb1,ys1,nm1,n1,cs1,hA⟩:=bO a;obtain⟨o2,na2,xs2,nb2,ys2,nm2,n2,cs2,hB⟩:=bO b;refine MW ?_;rw[show dE a= .agg (ab o1 na1 xs1 nb1 ys1 nm1 n1 cs1) from congrArg DV.agg hA]at ih;rw[show dE b= .agg (ab o2 na2 xs2 nb2 ys2 nm2 n2 cs2) from congrArg DV.agg hB]at ih';cases ha:bh (az l) a with
 |error z=>
  have hz:=cW ha;rw[ha]at ih;rw[show bh (az l) (.bin .div a b)= .error z by simp only[bh,ha]];refine Og ?_;exact ld
 |ok x=>
  obtain⟨hx,hpx⟩:=eL henv ho ha;rw[ha]at ih;cases hb:bh (az l) b with
  |error z=>
   have hz:=cW hb;rw[hb]at ih';rw[show bh (az l) (.bin .div a b)= .error z by simp only[bh,ha,hb]];refine um ?_;exact ld
  |ok y=>
   obtain⟨hy,hpy⟩:=eL henv ho' hb;rw[hb]at ih';have hR:bh (az l) (.bin .div a b)=Br .div x.1 x.2 y.1 y.2:=by simp only[bh,ha,hb]
   rw[hR];show aa Tryz.prog _ _ (cP (qQ x.1 x.2 y.1 y.2));have c:=Dq hx hy (by omega) hpx hpy;cases hr:qQ x.1 x.2 y.1 y.2 with
   |error z=>
    exact zv
   |ok z=>
    exact zv
end
theorem cC {l:EL} (hl:l.length<=1000000) (hv:∀x∈l,cZ 400 x.2.1/\jZ x.2.2=true):∀e,qh e->iA e<=1000000->aa Tryz.prog 39 [dE e,eU l,eT l] (cP (bh (az l) e))
 | .num _ _,ho,_=>qS ho
 | .nam _,_,_=>qP hl
 | .neg a,ho,hw=>qX (cC hl hv a ho hw)
 | .bin .add a b,ho,hw=>by
  have hw':iA a+iA b+1<=1000000:=hw;exact qN (jA hv) ho.1 ho.2 (by omega) (cC hl hv a ho.1 (by omega)) (cC hl hv b ho.2 (by omega))
 | .bin .sub a b,ho,hw=>by
  have hw':iA a+iA b+1<=1000000:=hw;exact q9 (jA hv) ho.1 ho.2 (by omega) (cC hl hv a ho.1 (by omega)) (cC hl hv b ho.2 (by omega))
 | .bin .mul a b,ho,hw=>by
  have hw':iA a+iA b+1<=1000000:=hw;exact qR (jA hv) ho.1 ho.2 (by omega) (cC hl hv a ho.1 (by omega)) (cC hl hv b ho.2 (by omega))
 | .bin .div a b,ho,hw=>by
  have hw':iA a+iA b+1<=1000000:=hw;exact qV (jA hv) ho.1 ho.2 (by omega) (cC hl hv a ho.1 (by omega)) (cC hl hv b ho.2 (by omega))
section
variable {P:Program} {T:TypeId->Option Ty} {n:Nat} {ops:Array Oper} {id:Nat} {draw:Bool} {K:AS->Prop} {s:AS} {k:Nat} {o:Oper} {os:List Oper} {fps:List FP}
theorem NQ {x y:Operand} {ts:Array TypeId} {a b m:Int} (hm:max a b=m) (h1:gd ops s o=some true) (h2:o.op= .call ⟨.builtin .max,#[x,y],ts⟩) (h7:s.ev x= .d (dN .i64 a)) (h8:s.ev y= .d (dN .i64 b))
 (h3:aH n o.dst=true) (h4:eS draw ops (aw ops o ⟨.d (dN .i64 m),none⟩ []) k fps=true) (h:ak P T n ops id draw K (k+1) os (s.eff o.dst ⟨.d (dN .i64 m),none⟩) (aw ops o ⟨.d (dN .i64 m),none⟩ []::fps)):ak P T n ops id draw K k (o::os) s fps:=by
 subst hm;refine .run h1 (.gen fun s2 ht _=>?_) h3 h4 h;have hx:=(an ht (x:=x) (by simp[h2,Op.operands,Call.operands])).trans h7;have hy:=(an ht (x:=y) (by simp[h2,Op.operands,Call.operands])).trans h8;refine ai fun n S0 w0 g a' w hM=>⟨.int .i64 (max a b),w,?_,Below.refl _ _,AV.M.val rfl⟩
 have hm:(Builtin.max2 (.int .i64 a) (.int .i64 b)).run P w= .ok (.int .i64 (max a b)) w:=by
  have e:max a b=if b > a then b else a:=by split <;>omega
  rw[e];rfl
 simp[execOp,h2,resolve,invoke,builtin,Builtin.max_,bc hM hx,bc hM hy,Sem.run_bind,hm]
end
theorem dq {p:Rx->Prop} (h:∀op na xs nb ys nm args,(∀y∈args,p y)->p (.mk op na xs nb ys nm args)):∀x,p x
 | .mk op na xs nb ys nm args=>h op na xs nb ys nm args (fun y hy=>dq h y)
decreasing_by
 have:=List.sizeOf_lt_of_mem hy
 simp
 omega
theorem bz (x:Rx):∃o na xs nb ys nm n cs,aR x=ab o na xs nb ys nm n cs:=by
 exact Oi
mutual
def gL:Rx->Nat
 | .mk _ _ _ _ _ _ args=>eB args+1
def eB:List Rx->Nat
 | []=>0
 |x::r=>gL x+eB r
end
mutual
def pY:Rx->Nat->Nat
 | .mk _ _ _ _ _ _ args,m=>Bt args 1 m
def Bt:List Rx->Nat->Nat->Nat
 | [],n,_=>n
 |y::r,n,m=>if n<=m then Bt r (n+pY y (m-n)) m else n
end
theorem zx:∀{l:List Rx} {n m:Nat},m<n->Bt l n m=n
 | [],n,m,_=>rfl
 |y::r,n,m,h=>by rw[Bt,if_neg (by omega)]
theorem Kc {l:List Rx} {i:Nat} (h:i<l.length) {n m:Nat} (hn:n<=m):Bt (l.drop i) n m=Bt (l.drop (i+1)) (n+pY l[i] (m-n)) m:=by
 rw[List.drop_eq_getElem_cons h,Bt,if_pos hn]
theorem pC:∀(x:Rx) (m:Nat),1<=pY x m/\pY x m<=m+1/\(pY x m<=m->pY x m=gL x):=by
 refine dq fun op na xs nb ys nm args ih m=>?_
 have key:∀(l:List Rx),(∀y∈l,∀m,1<=pY y m/\pY y m<=m+1/\(pY y m<=m->pY y m=gL y))-> ∀n,1<=n->n<=m+1->1<=Bt l n m/\Bt l n m<=m+1/\(Bt l n m<=m->Bt l n m=n+eB l):=by
  intro l
  induction l with
  |nil=>intro _ n h1 h2;exact⟨h1,h2,fun _=>rfl⟩
  |cons y r ihr=>
   intro h n h1 h2
   by_cases hn:n<=m
   ·rw[Bt,if_pos hn]
    obtain⟨a1,a2,a3⟩:=h y (by simp) (m-n);obtain⟨b1,b2,b3⟩:=ihr (fun z hz=>h z (by simp[hz])) (n+pY y (m-n)) (by omega) (by omega);refine⟨b1,b2,fun hle=>?_⟩;rw[b3 hle,eB]
    by_cases hm:n+pY y (m-n)<=m
    ·rw[a3 (by omega)];omega
    ·rw[zx (by omega)]at hle;omega
   ·rw[Bt,if_neg hn]
    exact⟨h1,h2,fun h=>absurd h hn⟩
 rw[pY,gL];obtain⟨c1,c2,c3⟩:=key args ih 1 (Nat.le_refl _) (by omega);exact⟨c1,c2,fun h=>by rw[c3 h];omega⟩
theorem Kf:∀(x:Rx),j0 x-> ∀m:Nat,m<=1000000->aa Tryz.prog 72 [dR x,dN .i64 m] (.one (dN .i64 (pY x m))):=by
 refine dq fun op na xs nb ys nm args ih hx m hm=>?_
 obtain⟨_,_,_,_,_,hlen,hargs⟩:=hx;show aa Tryz.prog _ [.agg (ab op na xs nb ys nm args.length (db args)),_] _;have ht0:=(pC (.mk op na xs nb ys nm args) m).2.1;rw[pY]at ht0 ⊢;generalize ht:Bt args 1 m=t at ht0;refine kV func72 ?_
 refine aq (Nat × Nat) (fun s=>s.1<=args.length/\1<=s.2/\s.2<=m+1/\Bt (args.drop s.1) s.2 m=t) (fun s=>⟨[(1, .d (dN .i64 m)),(2, .box 0 0),(4, .d (dN .i64 0)),(5, .d (dN .i64 s.2)),(6, .d (dN .i64 s.1))],[(0,some (ab op na xs nb ys nm args.length (db args)))]⟩) (fun s=>args.length-s.1) (0,1) ⟨Nat.zero_le _,Nat.le_refl _,by dsimp only;omega,ht⟩
  kw ?_
 rintro⟨i,n⟩ ⟨hi,h1,h2,hd⟩;dsimp only at hi h1 h2 hd ⊢;refine kI ?_
 refine kO4 ?_
 by_cases hlt:i<args.length
 ·refine kT ?_
  refine kO3 ?_
  by_cases hn:n<=m
  ·refine kT ?_
   obtain⟨o1,na1,xs1,nb1,ys1,nm1,n1,cs1,hA⟩:=bz args[i];have hat:∀(j:Nat) (a:AV),(ab o1 na1 xs1 nb1 ys1 nm1 n1 cs1)[j]? =some a->(db args)[i*7+j]? =some a:=fun j a h=>fq args i args[i] (by simp[hlt]) j a (by rw[hA];exact h)
   have c:=ih args[i] (List.getElem_mem hlt) (hargs _ (List.getElem_mem hlt)) (m-n) (by omega);rw[show dR args[i]= .agg (ab o1 na1 xs1 nb1 ys1 nm1 n1 cs1) from congrArg DV.agg hA]at c;obtain⟨k1,k2,_⟩:=pC args[i] (m-n);have hstep:=Kc hlt hn;generalize pY args[i] (m-n)=k at *;refine M7 ?_
   refine kO3 ?_
   refine kJ ((m-n:Nat)) ?_;refine kQ (c) ?_;exact⟨(i+1,n+k),⟨hlt,by dsimp only;omega,by dsimp only;omega,by dsimp only;rw[<- hstep];exact hd⟩,by dsimp only;omega,weak ⟨rfl,rfl,rfl,ae (by omega) (by omega),ae (by omega) (by omega),trivial⟩ ⟨rfl,trivial⟩ rfl⟩
  ·refine kE ?_
   refine kW ?_;rw[<- hd,zx (by omega)];exact cw (T:=TT) rfl rfl
 ·refine kE ?_
  refine kW ?_;rw[<- hd,List.drop_eq_nil_of_le (by omega),Bt];exact cw (T:=TT) rfl rfl
mutual
def mE:Rx->Bool
 | .mk _ _ xs _ ys nm args=>mO args && (decide (xs.length<=8) && decide (ys.length<=8) && decide (nm.length<=60))
def mO:List Rx->Bool
 | []=>true
 |y::r=>mE y && mO r
end
theorem s7:∀{l:List Rx},mO l=true-> ∀y∈l,mE y=true
 |a::l,h,y,hy=>by
  simp only[mO,Bool.and_eq_true]at h
  rcases List.mem_cons.1 hy with rfl|hy
  ·exact h.1
  ·exact s7 h.2 y hy
theorem yS:∀{l:List Rx},(∀(q:Nat) (y:Rx),l[q]? =some y->mE y=true)->mO l=true
 | [],_=>rfl
 |a::l,h=>by
  simp only[mO,Bool.and_eq_true]
  exact⟨h 0 a rfl,yS fun q y hq=>h (q+1) y (by simpa using hq)⟩
theorem Iv:∀(x:Rx),j0 x->aa Tryz.prog 73 [dR x] (.one (dB (mE x))):=by
 refine dq fun op na xs nb ys nm args ih hx=>?_
 obtain⟨_,_,_,_,_,hlen,hargs⟩:=hx;have hB:=aS nm;refine CK ?_;refine kV func73 ?_
 refine aq Nat (fun i=>i<=args.length/\ ∀(q:Nat) y,q<i->args[q]? =some y->mE y=true) (fun i=>⟨[(1, .box 0 0),(2, .d (dB false)),(3, .d (dN .i64 i))],[(0,some (ab op na xs nb ys nm args.length (db args)))]⟩) (fun i=>args.length-i) 0 ⟨Nat.zero_le _,fun q y h=>absurd h (Nat.not_lt_zero _)⟩
  kw ?_
 rintro i ⟨hi,hq⟩;refine kI ?_
 refine kO4 ?_
 by_cases hlt:i<args.length
 ·refine kT ?_
  obtain⟨o1,na1,xs1,nb1,ys1,nm1,n1,cs1,hA⟩:=bz args[i];have hx:args[i]? =some args[i]:=by simp[hlt]
  have hat:∀(j:Nat) (a:AV),(ab o1 na1 xs1 nb1 ys1 nm1 n1 cs1)[j]? =some a->(db args)[i*7+j]? =some a:=fun j a h=>fq args i args[i] hx j a (by rw[hA];exact h)
  have c:=ih args[i] (List.getElem_mem hlt) (hargs _ (List.getElem_mem hlt));rw[show dR args[i]= .agg (ab o1 na1 xs1 nb1 ys1 nm1 n1 cs1) from congrArg DV.agg hA]at c;refine M7 ?_;refine kO ?_;cases hb:mE args[i]
  ·rw[hb]at c
   refine kQ (c) ?_
   rw[show mE (.mk op na xs nb ys nm args)=false by
    rw[mE,Bool.and_eq_false_iff];refine .inl ?_;cases h:mO args
    ·rfl
    ·rw[s7 h _ (List.getElem_mem hlt)]at hb;cases hb]
   exact cw (T:=TT) rfl rfl
  ·exact OI
 ·refine kE ?_
  have hall:mO args=true:=yS fun q y h=>hq q y (by have:=(List.getElem?_eq_some_iff.1 h).1;omega) h
  rw[mE,hall,Bool.true_and];refine jR ?_;refine kI ?_
  refine kO5 ?_
  by_cases l1:xs.length<=8
  ·refine kT ?_
   iterate 6 refine kO ?_
   by_cases l2:ys.length<=8
   ·refine kT ?_
    refine kO5 ?_
    by_cases l3:nm.length<=60
    ·refine kT ?_
     refine kW ?_;rw[decide_eq_true l1,decide_eq_true l2,decide_eq_true l3];exact cw (T:=TT) rfl rfl
    ·refine kE ?_
     refine kW ?_;rw[decide_eq_true l1,decide_eq_true l2,decide_eq_false l3];exact cw (T:=TT) rfl rfl
   ·refine kE ?_
    refine kW ?_;rw[decide_eq_true l1,decide_eq_false l2];exact cw (T:=TT) rfl rfl
  ·refine kE ?_
   refine kW ?_;rw[decide_eq_false l1];exact cw (T:=TT) rfl rfl
mutual
def AP:Rx->Nat
 | .mk _ _ _ _ _ _ args=>me args+1
def me:List Rx->Nat
 | []=>0
 |y::r=>max (AP y) (me r)
end
theorem JH:∀x,AP x<=gL x:=by
 refine dq fun op na xs nb ys nm args ih=>?_
 have key:∀l:List Rx,(∀y∈l,AP y<=gL y)->me l<=eB l:=by
  intro l
  induction l with
  |nil=>intro _;exact Nat.le_refl _
  |cons y r ihr=>
   intro h;have h1:=h y (by simp);have h2:=ihr fun z hz=>h z (by simp[hz])
   rw[me,eB];omega
 rw[AP,gL];have:=key args ih;omega
theorem jB:∀{l:List Rx} {y:Rx},y∈l->gL y<=eB l
 |a::l,y,h=>by
  rw[eB];rcases List.mem_cons.1 h with rfl|h
  ·omega
  ·have:=jB h;omega
theorem yw:∀{l:List Rx} {y:Rx},y∈l->AP y<=me l
 |a::l,y,h=>by
  rw[me];rcases List.mem_cons.1 h with rfl|h
  ·omega
  ·have:=yw h;omega
theorem zR:∀(x:Rx),j0 x->gL x<=1000000->aa Tryz.prog 118 [dR x] (.one (dN .i64 (AP x))):=by
 refine dq fun op na xs nb ys nm args ih hx hs=>?_
 have hd0:=JH (.mk op na xs nb ys nm args);obtain⟨_,_,_,_,_,hlen,hargs⟩:=hx;rw[gL]at hs;rw[AP,gL]at hd0;refine CK ?_;refine kV func118 ?_
 refine aq (Nat × Nat) (fun s=>s.1<=args.length/\s.2<=me args/\max s.2 (me (args.drop s.1))=me args) (fun s=>⟨[(1, .box 0 0),(2, .d (dN .i64 0)),(3, .d (dN .i64 s.2)),(4, .d (dN .i64 s.1))],[(0,some (ab op na xs nb ys nm args.length (db args)))]⟩) (fun s=>args.length-s.1) (0,0) ⟨Nat.zero_le _,Nat.zero_le _,Nat.zero_max _⟩
  kw ?_
 rintro⟨i,d⟩ ⟨hi,h1,h2⟩;dsimp only at hi h1 h2 ⊢;refine kI ?_
 refine kO4 ?_
 by_cases hlt:i<args.length
 ·refine kT ?_
  obtain⟨o1,na1,xs1,nb1,ys1,nm1,n1,cs1,hA⟩:=bz args[i];have hx:args[i]? =some args[i]:=by simp[hlt]
  have hat:∀(j:Nat) (a:AV),(ab o1 na1 xs1 nb1 ys1 nm1 n1 cs1)[j]? =some a->(db args)[i*7+j]? =some a:=fun j a h=>fq args i args[i] hx j a (by rw[hA];exact h)
  have hm:=List.getElem_mem hlt;have hsz:=jB hm;have hdp:=yw hm;have c:=ih args[i] hm (hargs _ hm) (by omega);rw[show dR args[i]= .agg (ab o1 na1 xs1 nb1 ys1 nm1 n1 cs1) from congrArg DV.agg hA]at c;rw[List.drop_eq_getElem_cons hlt,me]at h2;generalize AP args[i]=k at *;refine M7 ?_;refine kO ?_;refine kC (c) ?_;refine NQ (a:=d) (b:=k) (m:=(max d k:Nat)) (by omega) rfl rfl rfl rfl rfl rfl ?_;refine kW ?_;exact⟨(i+1,max d k),⟨hlt,by dsimp only;omega,by dsimp only;omega⟩,by dsimp only;omega,weak ⟨rfl,rfl,rfl,ae (by omega) (by omega),trivial⟩ ⟨rfl,trivial⟩ rfl⟩
 ·exact Nn
section
open Go.ChangeShapes Go.WideShapes Go.ChangeAt Go.RowKit Go.Joins
def vK {H:Type}:Nat->DataW H->Option (List AV)
 |0,_=>none
 |n+1,d=>match d with
  | .lit (.bool b)=>some [.val (.bool b)]
  | .lit (.int k i)=>some [.val (.int k i)]
  | .lit (.string l)=>some [.val (.string ⟨l.toArray⟩)]
  | .nil=>some [.sl 0 []]
  | .slice es _=>match je (vK n) es with
   |some rows=>some [.sl rows.length rows.flatten]
   |none=>none
  | .agg es=>match je (vK n) es with
   |some ps=>some ps.flatten
   |none=>none
  |_=>none
theorem y9 {α β:Type} {f g:α->Option β}:∀{xs:List α} {ys zs:List β},(∀x∈xs,∀y z,f x=some y->g x=some z->y=z)->je f xs=some ys->je g xs=some zs->ys=zs
 | [],ys,zs,_,h,k=>by simp only[je,Option.some.injEq]at h k;rw[<- h,<- k]
 |x::xs,ys,zs,hfg,h,k=>by
  simp only[je]at h k
  cases h1:f x with
  |none=>rw[h1]at h;simp at h
  |some y=>
   cases h2:je f xs with
   |none=>rw[h1,h2]at h;simp at h
   |some ys'=>
    cases k1:g x with
    |none=>rw[k1]at k;simp at k
    |some z=>
     cases k2:je g xs with
     |none=>rw[k1,k2]at k;simp at k
     |some zs'=>
      rw[h1,h2]at h;rw[k1,k2]at k
      simp only[Option.some.injEq]at h k
      rw[<- h,<- k,hfg x (by simp) y z h1 k1,y9 (fun x hx=>hfg x (by simp[hx])) h2 k2]
theorem D7 {H:Type}:∀(n m:Nat) (d:DataW H) (cs cs':List AV),vK n d=some cs->vK m d=some cs'->cs=cs'
 |0,_,_,_,_,h,_=>by simp[vK]at h
 |_+1,0,_,_,_,_,h=>by simp[vK]at h
 |n+1,m+1,d,cs,cs',h,h'=>by
  have ih:=D7 (H:=H) n m;unfold vK at h h'
  split at h
  ·simp_all
  ·simp_all
  ·simp_all
  ·simp_all
  ·exact MX
  ·exact MX
  ·cases h
theorem ry {α β:Type} {f:α->Option β}:∀{xs:List α} {ys:List β},xs.length=ys.length->(∀(i:Nat) (x:α) (y:β),xs[i]? =some x->ys[i]? =some y->f x=some y)->je f xs=some ys
 | [],[],_,_=>rfl
 | [],_::_,h,_=>by cases h
 |_::_,[],h,_=>by cases h
 |x::xs,y::ys,h,hf=>by
  simp only[je,hf 0 x y rfl rfl,ry (xs:=xs) (ys:=ys) (by simpa using h) (fun i x y h1 h2=>hf (i+1) x y (by simpa using h1) (by simpa using h2))]
def x7 (P:Program) (L:List TypeId):Bool:=L.all fun t=>match P.underlying t with
 |some .bool=>true
 |some (.int _)=>true
 |some .string=>true
 |some (.slice e)=>L.elem e
 |some (.struct fs)=>(fs.toList.all fun f=>L.elem f.type) && og P 0 (P.cellsOf t) fs.toList
 |some (.array n e)=>L.elem e && Nat.beq (n*P.cellsOf e) (P.cellsOf t)
 |_=>false
theorem Ey {w:World} {sz:Nat}:∀(n:Nat) (vs:List Value) (ps:List (List AV)),vs.length=n*sz->ps.length=n->(∀i p,ps[i]? =some p->CM (fun _=>False) w p ((vs.drop (i*sz)).take sz))->CM (fun _=>False) w ps.flatten vs
 |0,vs,ps,h,hp,_=>by
  have h1:vs=[]:=List.eq_nil_of_length_eq_zero (by simpa using h);have h2:ps=[]:=List.eq_nil_of_length_eq_zero hp;subst h1 h2;exact CM.nil _ _
 |n+1,vs,[],_,hp,_=>by cases hp
 |n+1,vs,p::ps,h,hp,hc=>by
  have h0:=hc 0 p rfl;rw[Nat.zero_mul,List.drop_zero]at h0
  have hr:=Ey (w:=w) (sz:=sz) n (vs.drop sz) ps (by rw[List.length_drop,h,Nat.add_mul];omega) (by simpa using hp) (fun i q hq=>by
   have:=hc (i+1) q (by simpa using hq);rw[List.drop_drop,show sz+i*sz=(i+1)*sz by rw[Nat.add_mul];omega];exact this)
  rw[List.flatten_cons];have:=h0.append hr
  rwa[List.take_append_drop]at this
theorem vH {P:Program} {w:World} {vs:List Value}:∀(fs:List Field) (off:Nat) (ps:List (List AV)),og P off vs.length fs=true->ps.length=fs.length ->
 (∀(i:Nat) (f:Field) (p:List AV),fs[i]? =some f->ps[i]? =some p->CM (fun _=>False) w p ((vs.drop f.offset).take (P.cellsOf f.type)))->CM (fun _=>False) w ps.flatten (vs.drop off)
 | [],off,[],h,_,_=>by
  have:=Nat.eq_of_beq_eq_true h;subst this;rw[List.drop_length];exact CM.nil _ _
 | [],_,_::_,_,h,_=>by cases h
 |_::_,_,[],_,h,_=>by cases h
 |f::r,off,p::ps,h,hl,hf=>by
  simp only[og,Bool.and_eq_true]at h
  have ho:=Nat.eq_of_beq_eq_true h.1;have h1:=hf 0 f p rfl rfl;have h3:=vH r _ ps h.2 (by simpa using hl) (fun i g q hg hq=>hf (i+1) g q (by simpa using hg) (by simpa using hq));rw[ho]at h1;rw[List.flatten_cons];have:=h1.append h3
  rwa[<- List.drop_drop,List.take_append_drop]at this
section
variable {H:Type} {enc:TypeId × Value->H} {W:World} {P:Program} {held:Bool}
theorem L3 {L:List TypeId} (hL:x7 P L=true):∀(n:Nat) (t:TypeId) (vs:List Value) (x:DataW H × List MemPlace),t∈L->DataW.trod enc P W 0 (fun _=>true) held n t vs=some x ->
 ∃cs,CM (fun _=>False) W cs vs/\vK n x.1=some cs:=by
 intro n
 induction n with
 |zero=>intro t vs x _ h;simp[DataW.trod]at h
 |succ n ih=>
  intro t vs x ht h;have hp:=List.all_eq_true.1 hL t ht;cases hu:P.underlying t with
  |none=>rw[hu]at hp;simp at hp
  |some d=>
   rw[hu]at hp;cases d with
   |bool=>
    obtain⟨b,rfl,rfl⟩:=DataW.trod_bool hu h;exact⟨_,CM.cons (.val rfl) (CM.nil _ _),rfl⟩
   |int k=>
    obtain⟨i,rfl,rfl,h1⟩:=DataW.trod_int hu h;exact⟨_,CM.cons (.val rfl) (CM.nil _ _),rfl⟩
   |string=>
    obtain⟨s,rfl,rfl,h1⟩:=DataW.trod_string hu h;exact⟨_,CM.cons (.val rfl) (CM.nil _ _),by simp[vK]⟩
   |slice e=>
    have he:e∈L:=by simpa using hp
    rcases DataW.trod_slice hu h with⟨rfl,rfl⟩| ⟨a,len,cap,elems,rest,m,hm,rfl,rfl,_,hlc,hcm,hel,hget,_,_⟩
    ·exact⟨_,CM.cons (.emp (Nat.le_refl _) (by omega) (fun _=>rfl)) (CM.nil _ _),rfl⟩
    ·obtain rfl:m=n:=by omega
     have hrow:∀i,i<len-> ∃(r:List AV) (us:List Value),W.cells? 0 (a.add (i*P.cellsOf e)) (P.cellsOf e)=some us/\CM (fun _=>False) W r us/\ ∀y,elems[i]? =some y->vK m y.1=some r:=by
      intro i hi;have h1:=hget i hi;have h2:elems[i]? =some elems[i]:=by simp
      rw[h2]at h1;obtain⟨us,h3,h4⟩:=Option.bind_eq_some_iff.1 h1;obtain⟨r,h5,h6⟩:=ih e us _ he h4;exact⟨r,us,h3,h5,fun y hy=>by rw[h2]at hy;cases hy;exact h6⟩
     have hrows:∀k,k<=len-> ∃rows:List (List AV),rows.length=k/\ ∀i r,rows[i]? =some r-> ∃us:List Value,W.cells? 0 (a.add (i*P.cellsOf e)) (P.cellsOf e)=some us/\CM (fun _=>False) W r us/\ ∀y,elems[i]? =some y->vK m y.1=some r:=by
      exact Rq
     obtain⟨rows,hl,hr⟩:=hrows len (Nat.le_refl _)
     have hmap:je (vK m) (elems.map (·.1))=some rows:=by
      refine ry (by simp[hel,hl]) (fun i y r hy h2=>?_);rw[List.getElem?_map]at hy;cases hz:elems[i]? with
      |none=>rw[hz]at hy;cases hy
      |some z=>
       rw[hz]at hy
       simp only[Option.map_some,Option.some.injEq]at hy
       obtain⟨_,_,_,h5⟩:=hr i r h2;rw[<- hy];exact h5 z hz
     have hsz:∀r∈rows,r.length=P.cellsOf e:=by
      exact Oj
     refine⟨[.sl len rows.flatten],CM.cons ?_ (CM.nil _ _),by simp only[vK,hmap,hl]⟩;exact N2
   |struct fs=>
    simp only[Bool.and_eq_true]at hp
    obtain⟨xs,m,hm,rfl,hlen,hxl,hget⟩:=DataW.trod_struct hu h;obtain rfl:m=n:=by omega
    have htile:=hp.2;rw[<- hlen]at htile
    have hpart:∀k,k<=xs.length-> ∃ps:List (List AV),ps.length=k/\ ∀(i:Nat) (p:List AV) (f:Field),ps[i]? =some p->fs[i]? =some f->CM (fun _=>False) W p ((vs.drop f.offset).take (P.cellsOf f.type))/\ ∀y:DataW H × List MemPlace,xs[i]? =some y->vK m y.1=some p:=by
     intro k
     induction k with
     |zero=>intro _;exact⟨[],rfl,fun i p f h=>by simp at h⟩
     |succ k ihk=>
      intro hk;obtain⟨ps,h1,h2⟩:=ihk (by omega);have hkf:fs[k]? =some (fs[k]'(by omega)):=by simp
      have h3:=hget k _ hkf;have h4:xs[k]? =some xs[k]:=by simp
      rw[h4]at h3;have hfL:fs[k].type∈L:=by have:=List.all_eq_true.1 hp.1 fs[k] (by simp);simpa using this
      obtain⟨p,h5,h6⟩:=ih _ _ _ hfL h3;refine⟨ps++[p],by simp[h1],fun i q f hq hf=>?_⟩
      by_cases hi:i<ps.length
      ·rw[List.getElem?_append_left hi]at hq;exact h2 i q f hq hf
      ·have hil:=(List.getElem?_eq_some_iff.1 hq).1
       simp at hil
       have:i=k:=by omega
       subst this;rw[List.getElem?_append_right (by omega),h1,Nat.sub_self]at hq
       simp at hq
       subst hq;rw[hkf]at hf;cases hf;exact⟨h5,fun y hy=>by rw[h4]at hy;cases hy;exact h6⟩
    obtain⟨ps,h1,h2⟩:=hpart xs.length (Nat.le_refl _);refine⟨ps.flatten,?_,?_⟩
    ·have:=vH (w:=W) (vs:=vs) fs.toList 0 ps htile (by rw[h1,hxl];simp) (fun i f p hf hp=>(h2 i p f hp (by simpa using hf)).1)
     rwa[List.drop_zero]at this
    ·have hmap:je (vK m) (xs.map (·.1))=some ps:=by
      refine ry (by simp[h1]) (fun i y p hy hpi=>?_);rw[List.getElem?_map]at hy;cases hz:xs[i]? with
      |none=>rw[hz]at hy;cases hy
      |some z=>
       rw[hz]at hy
       simp only[Option.map_some,Option.some.injEq]at hy
       have hil:i<fs.size:=by rw[<- hxl];exact(List.getElem?_eq_some_iff.1 hz).1
       rw[<- hy];exact(h2 i p fs[i] hpi (by simp[hil])).2 z hz
     simp only[vK,hmap]
   |array k e=>
    simp only[Bool.and_eq_true]at hp
    have he:e∈L:=by simpa using hp.1
    have hke:=Nat.eq_of_beq_eq_true hp.2;unfold DataW.trod at h;rw[hu]at h
    simp only at h
    have hr:∃xs:List (DataW H × List MemPlace),x.1= .agg (xs.map (·.1))/\vs.length=P.cellsOf t/\(List.range k).mapM (fun i=>DataW.trod enc P W 0 (fun _=>true) held n e ((vs.drop (i*P.cellsOf e)).take (P.cellsOf e)))=some xs:=by
     split at h
     ·rename_i hl
      obtain⟨xs,h1,h2⟩:=Option.map_eq_some_iff.1 h;exact⟨xs,by rw[<- h2],hl,h1⟩
     ·cases h
    obtain⟨xs,hx,hlen,hmm⟩:=hr;obtain⟨h1,h2⟩:=yV hmm;rw[List.length_range]at h1
    have hpart:∀j,j<=k-> ∃ps:List (List AV),ps.length=j/\ ∀(i:Nat) (p:List AV),ps[i]? =some p->CM (fun _=>False) W p ((vs.drop (i*P.cellsOf e)).take (P.cellsOf e))/\ ∀y:DataW H × List MemPlace,xs[i]? =some y->vK n y.1=some p:=by
     intro j
     induction j with
     |zero=>intro _;exact⟨[],rfl,fun i p h=>by simp at h⟩
     |succ j ihj=>
      intro hj;obtain⟨ps,h3,h4⟩:=ihj (by omega);obtain⟨y,h5,h6⟩:=h2 j j (List.getElem?_range (by omega));obtain⟨p,h7,h8⟩:=ih _ _ _ he h6;refine⟨ps++[p],by simp[h3],fun i q hq=>?_⟩
      by_cases hi:i<ps.length
      ·rw[List.getElem?_append_left hi]at hq;exact h4 i q hq
      ·have hil:=(List.getElem?_eq_some_iff.1 hq).1
       simp at hil
       have:i=j:=by omega
       subst this;rw[List.getElem?_append_right (by omega),h3,Nat.sub_self]at hq
       simp at hq
       subst hq;exact⟨h7,fun z hz=>by rw[h5]at hz;cases hz;exact h8⟩
    obtain⟨ps,h3,h4⟩:=hpart k (Nat.le_refl _);refine⟨ps.flatten,Ey k vs ps (by rw[hlen,<- hke]) h3 (fun i p hp=>(h4 i p hp).1),?_⟩
    have hmap:je (vK n) (xs.map (·.1))=some ps:=by
     refine ry (by simp[h3,<- h1]) (fun i y p hy hpi=>?_);rw[List.getElem?_map]at hy;cases hz:xs[i]? with
     |none=>rw[hz]at hy;cases hy
     |some z=>
      rw[hz]at hy
      simp only[Option.map_some,Option.some.injEq]at hy
      rw[<- hy];exact(h4 i p hpi).2 z hz
    rw[hx]
    simp only[vK,hmap]
   |_=>simp at hp
end
end
section
open Go.ChangeShapes Go.WideShapes Go.ChangeAt Go.RowKit Go.Joins
theorem jQ {P:Program} {W:World} {name:String} {d:DataW Unit}:∀{laid:List (String × DataW Unit)} {ps:List MemPlace},DataW.LaidVars P W laid ps->(name,d)∈laid ->
 ∃g t cs fuel p,P.globalNamed name=some g/\(P.globals[g]?).map (·.type)=some t/\W.var? P name=some cs/\DataW.trod (fun _=>()) P W 0 (fun _=>true) false fuel t cs.toList=some (d,p)
 | [],_,_,h=>by cases h
 |(n,d')::rest,ps,h,hm=>by
  obtain⟨g,t,cs,fuel,p,q,h1,h2,h3,h4,h5,_⟩:=h;rcases List.mem_cons.1 hm with e|e
  ·cases e
   exact⟨g,t,cs,fuel,p,h1,h2,h3,h4⟩
  ·exact jQ h5 e
theorem Gx:Tryz.prog.cellsOf 148=1:=by kernel_rfl
theorem Lu:Tryz.prog.globalNamed "internal/strconv.uint64pow10" =some 3:=by kernel_rfl
theorem Mp:(Tryz.prog.globals[3]?).map (·.type)=some 270:=by kernel_rfl
theorem Ms:Tryz.prog.cellsOf 270=20:=by kernel_rfl
theorem EY {P:Program} {W:World} {laid:List (String × DataW Unit)} {ps:List MemPlace} (hv:DataW.LaidVars P W laid ps) {name:String} {d:DataW Unit} (hm:(name,d)∈laid) {g t:Nat} (hg:P.globalNamed name=some g) (ht:(P.globals[g]?).map (·.type)=some t)
 {L:List TypeId} (hL:x7 P L=true) (htL:t∈L) {n:Nat} {cs:List AV} (hav:vK n d=some cs) {S:Nat->Prop} (hS:S=fun _=>False):TV.M S (fun _=>0) ⟨[],[]⟩ W (.rp cs) (.pointer (some ⟨g,0,none⟩)):=by
 subst hS;obtain⟨g',t',c0,fuel,p,h1,h2,h3,h4⟩:=jQ hv hm;obtain rfl:=Option.some.inj (hg.symm.trans h1);obtain rfl:=Option.some.inj (ht.symm.trans h2);obtain⟨cs',hc,ha⟩:=L3 hL fuel _ _ _ htL h4;have e:=D7 _ _ _ _ _ ha hav;subst e;unfold World.var? at h3;rw[hg]at h3
 simp only[Option.bind_some]at h3
 split at h3
 ·rename_i c1 e1 f1 hb
  cases h3;refine⟨g,0,fun i=>c0.getD i undef,rfl,fun h=>h,(Array.getElem?_eq_some_iff.1 hb).1,fun i a hi=>?_,fun i a hi=>?_⟩
  ·have hl:i<c0.size:=by have:=(List.getElem?_eq_some_iff.1 hi).1;rw[hc.1]at this;simpa using this
   rw[Nat.zero_add]
   simp[World.cell?,hb,hl]
  ·have hl:i<c0.size:=by have:=(List.getElem?_eq_some_iff.1 hi).1;rw[hc.1]at this;simpa using this
   exact hc.2 i a _ hi (by simp[hl])
 ·cases h3
theorem Ba {α:Type} {g:Nat} {c:α} {r:List (Nat × α)} {k:Nat} {x:α} (h:am ((g,c)::r) k=some x):(g=k/\c=x)∨am r k=some x:=by
 by_cases e:g=k
 ·subst e;rw[ah]at h;exact .inl ⟨rfl,Option.some.inj h⟩
 ·rw[av _ _ e]at h;exact .inr h
theorem Ma:Tryz.prog.globalNamed "setsquare/unit.units" =some 1:=by kernel_rfl
theorem Lf:(Tryz.prog.globals[1]?).map (·.type)=some 175:=by kernel_rfl
theorem Mk:x7 Tryz.prog [175,176,9,2]=true:=by kernel_rfl
theorem Cs:Tryz.prog.globalNamed "setsquare/formula.operands" =some 0:=by kernel_rfl
theorem CR:(Tryz.prog.globals[0]?).map (·.type)=some 172:=by kernel_rfl
theorem CL:x7 Tryz.prog [172,3]=true:=by kernel_rfl
theorem lN {laid:List (String × DataW Unit)} (hp:(laid.all fun x=>x.2.handleName?.isNone)=true) (hm:("internal/strconv.uint64pow10",Rows.laid_internal_strconv_uint64pow10)∈laid)
 (hm1:("setsquare/unit.units",Rows.laid_setsquare_unit_units)∈laid)
 (hm3:("setsquare/formula.operands",Rows.laid_setsquare_formula_operands)∈laid)
 {W:World} (h:laidMetH Tryz.prog laid W):dt (fun _=>False) W:=by
 rw[MakeChecks.laidMetH_plain _ _ _ hp]at h;obtain⟨ps,hv,_⟩:=h;obtain⟨g,t,cs,fuel,p,h1,h2,h3,h4⟩:=jQ hv hm;obtain rfl:=Option.some.inj (Lu.symm.trans h1);obtain rfl:=Option.some.inj (Mp.symm.trans h2);have hd:(Rows.laid_internal_strconv_uint64pow10:DataW Unit)=Lib.tabData .u64 Lib.pow10Tab:=rfl;rw[hd]at h4
 have ht:Lib.TabIs Tryz.prog W "internal/strconv.uint64pow10" .u64 Lib.pow10Tab:=by
  unfold Lib.TabIs;rw[h3,<- Lib.cells_of_tab underlying270 underlying148 Gx Ms h4]
 refine⟨Lib.tabBelow_of_tabIs ht,fun _ h=>h.elim,fun k cs h=>?_⟩;unfold GT at h;rcases Ba h with⟨rfl,rfl⟩|h
 ·exact EY hv hm1 Ma Lf Mk (by simp) (n:=4) rfl rfl
 rcases Ba h with⟨rfl,rfl⟩|h
 ·exact EY hv hm3 Cs CR CL (by simp) (n:=4) rfl rfl
 cases h
end
def pw:Rat->Nat->Rat
 |q,0=>q
 |q,k+1=>pw q k*((10:Int):Rat)
theorem ym {n:Int} (h:n.natAbs<4294967296):cZ 1 (n:Rat):=⟨Sz.small h,Sz.small (z:=1) (by decide)⟩
theorem Jg {q:Rat} {n:Nat} (h:cZ n q):∀k,cZ (n+k) (pw q k)
 |0=>h
 |k+1=>by
  have:=cZ.mul (Jg h k) (ym (n:=10) (by decide))
  rwa[Nat.add_assoc]at this
def x9 (k:Nat) (t:List UInt8):List UInt8:=List.replicate (k+1-t.length) 48++t
def oY (k:Nat) (t:List UInt8):List UInt8:=if 0<k then(x9 k t).take ((x9 k t).length-k)++[46]++(x9 k t).drop ((x9 k t).length-k)else x9 k t
def qp (q:Rat):Nat->Nat->Option (List UInt8)
 |0,_=>none
 |n+1,k=>if((pw q k).den:Int)=1 then(if(oY k (fmt (pw q k).num)).length<=40 then some (oY k (fmt (pw q k).num))else none)else qp q n (k+1)
def ja (q:Rat):Option (List UInt8):=if Q5 q<0 then none else qp q 41 0
def nt (na:Bool) (xs:List Nat) (nb:Bool) (ys:List Nat):Option (List UInt8):=if gh na xs nb ys then ja (Rat.divInt (ar na xs) (ar nb ys))else none
theorem qt (q:Rat):∀n k,∃K,k<=K/\K<=k+n/\(∀j,k<=j->j<K-> ¬((pw q j).den:Int)=1)/\((K=k+n/\qp q n k=none)∨(K<k+n/\((pw q K).den:Int)=1/\qp q n k=if(oY K (fmt (pw q K).num)).length<=40 then some (oY K (fmt (pw q K).num))else none))
 |0,k=>⟨k,Nat.le_refl _,Nat.le_refl _,fun j h1 h2=>by omega, .inl ⟨rfl,rfl⟩⟩
 |n+1,k=>by
  by_cases h:((pw q k).den:Int)=1
  ·exact⟨k,Nat.le_refl _,by omega,fun j h1 h2=>by omega, .inr ⟨by omega,h,by rw[qp,if_pos h]⟩⟩
  ·obtain⟨K,h1,h2,h3,h4⟩:=qt q n (k+1)
   refine⟨K,by omega,by omega,fun j hj hj2=>?_,?_⟩
   ·by_cases e:j=k
    ·subst e;exact h
    ·exact h3 j (by omega) hj2
   ·rw[qp,if_neg h]
    exact N8
theorem tH {q:Rat} (h:¬Q5 q<0):∃K,K<=41/\(∀j,j<K-> ¬((pw q j).den:Int)=1)/\((K=41/\ja q=none)∨(K<=40/\((pw q K).den:Int)=1/\ja q=if(oY K (fmt (pw q K).num)).length<=40 then some (oY K (fmt (pw q K).num))else none)):=by
 obtain⟨K,h1,h2,h3,h4⟩:=qt q 41 0;refine⟨K,by omega,fun j hj=>h3 j (Nat.zero_le _) hj,?_⟩;rw[ja,if_neg h];exact N8
theorem G0 (k:Nat) (t:List UInt8):(x9 k t).length=max (k+1) t.length:=by
 unfold x9
 simp
 omega
theorem Jc (k:Nat) (t:List UInt8) (h:0<k):(oY k t).length=max (k+1) t.length+1:=by
 have:=G0 k t;unfold oY;rw[if_pos h]
 simp only[List.length_append,List.length_take,List.length_drop,List.length_cons,List.length_nil]
 omega
theorem qj {q:Rat} {n:Nat} (sq:cZ n q) (hn:n<=900):∃t,aa Tryz.prog 244 [dQ q] (.tup [dL t,dB (ja q).isSome])/\ ∀u,ja q=some u->t=u:=by
 have cv:aa Tryz.prog 155 [dQ q] (.one (dB true)):=x4 q sq (by omega)
 by_cases hneg:Q5 q<0
 ·have h0:ja q=none:=by rw[ja,if_pos hneg]
  refine⟨[],?_,fun u h=>by rw[h0]at h;cases h⟩;rw[h0];refine kU func244 ?_;refine uQ ?_;refine kC (sI q) ?_;refine kB true ?_ ?_
  ·exact decide_eq_true hneg
  exact ax
 ·obtain⟨K,k1,k2,k3⟩:=tH hneg
  have main:∀t b,(K=41->t=[]/\b=false)->(K<=40->t=oY K (fmt (pw q K).num)/\b=decide (t.length<=40))->aa Tryz.prog 244 [dQ q] (.tup [dL t,dB b]):=by
   intro t b g1 g2;refine kU func244 ?_;refine uQ ?_;refine kC (sI q) ?_;refine kB false ?_ ?_
   ·exact decide_eq_false hneg
   refine Nf ?_;refine KV ?_
   refine aq Nat (fun k=>k<=K) (fun k=>⟨[(1, .box 0 0),(2, .d (dL [])),(3, .d (dB false)),(4, .box 3001 0),(5, .box 4001 0),(6, .box 5001 0),(7, .d (dN .i64 k))],[(0,some (aQ q)),(3001,some (aQ ((10:Int):Rat))),(4001,some (aZ 1)),(5001,some (aQ (pw q k)))]⟩) (fun k=>41-k) 0 (Nat.zero_le _)
    kw ?_
   intro k hk;have sk:=Jg sq k;refine kI ?_;refine kO ?_
   by_cases h40:k<=40
   ·refine kT ?_
    refine kW ?_;have hcs:=Ji (pw q k).den 1
    by_cases hd1:((pw q k).den:Int)=1
    ·have hkK:k=K:=by
      rcases Nat.lt_or_ge k K with h|h
      ·exact absurd hd1 (k2 k h)
      ·omega
     rw[decide_eq_true hd1]at hcs;obtain⟨rfl,rfl⟩:=g2 (by omega);subst hkK;refine kQ (hcs) ?_;have hlen:(fmt (pw q k).num).length<=10*(n+k)+2:=Eu sk.1;refine aj (mo (eG.of_lt sk.1 (by omega))) rfl rfl rfl rfl rfl rfl rfl ?_;unfold oY x9;generalize fmt (pw q k).num=u at *;refine kW ?_
     refine aq Nat (fun j=>j<=k+1-u.length) (fun j=>⟨[(2, .d (dL [])),(3, .d (dB false)),(7, .d (dN .i64 k)),(8, .d (dL (List.replicate j 48++u)))],[]⟩) (fun j=>k+1-u.length-j) 0 (Nat.zero_le _)
      kw ?_
     intro j hj;have hB:(Bs (List.replicate j 48++u)).size=j+u.length:=by rw[aS];simp
     refine kI ?_
     refine kO3 ?_
     by_cases hjk:j+u.length<=k
     ·refine kT ?_
      refine kW ?_;refine aC rfl rfl rfl rfl rfl rfl rfl (jr (a:=[48]) (b:=List.replicate j 48++u) (by simp;omega)) ?_;refine kW ?_;exact⟨j+1,by omega,by omega,weak ⟨rfl,rfl,rfl,rfl,trivial⟩ trivial rfl⟩
     ·refine kE ?_
      obtain rfl:j=k+1-u.length:=by omega
      have hwl:(List.replicate (k+1-u.length) 48++u).length=k+1-u.length+u.length:=by simp
      generalize hwd:List.replicate (k+1-u.length) 48++u=w at *;refine jR ?_;refine kI ?_;refine kO ?_
      by_cases hk0:0<k
      ·rw[if_pos hk0]
       refine Ie ?_;refine Au ?_;refine R8 ?_;generalize hz:w.take (w.length-k)++[46]++w.drop (w.length-k)=z;have hzB:=aS z;refine F8 ?_;refine m4 (v':= .bool (decide (z.length<=40))) rfl rfl rfl rfl ?_ ?_
       ·exact HX
       exact ax
      ·rw[if_neg hk0]
       refine kE ?_;refine kN ?_;refine bM (T:=TT) ?_;refine eQ (T:=TT) rfl ?_;refine kI ?_
       refine kO3 ?_
       refine m4 (v':= .bool (decide (w.length<=40))) rfl rfl rfl rfl ?_ ?_
       ·exact HX
       exact ax
    ·rw[decide_eq_false hd1]at hcs
     refine kQ (hcs) ?_;refine aj (lT sk (ym (n:=10) (by decide)) (by omega) (q:=pw q (k+1)) rfl) rfl rfl rfl rfl rfl rfl rfl ?_;refine kW ?_
     exact⟨k+1,by
      rcases Nat.lt_or_ge k K with h|h
      ·exact h
      ·obtain rfl:k=K:=by omega
       rcases k3 with⟨e,_⟩| ⟨_,k3,_⟩
       ·omega
       ·exact absurd k3 hd1,by omega,weak ⟨rfl,rfl,rfl,rfl,rfl,rfl,ae (by omega) (by omega),trivial⟩ ⟨rfl,rfl,rfl,rfl,trivial⟩ rfl⟩
   ·refine kE ?_
    obtain⟨rfl,rfl⟩:=g1 (by omega);exact ax
  rcases k3 with⟨e,h0⟩| ⟨e,h1,h2⟩
  ·exact HY
  ·exact Ru
def ot (c:UInt8):List Tk->Option (List Tk)
 |t::r=>if t.1=4/\t.2.1=[c]then some r else none
 | []=>none
end Go.Proofs.YtmkggcjajcdlcaaGreatDoor
