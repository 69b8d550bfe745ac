/- Parts of a proof: contracts of the functions that the laws reach. -/
import Derived.Test.YtmkggcjajcdlcaaGreatDoorVZ12
set_option maxHeartbeats 100000000
set_option linter.all false
open Go.Proofs.Tryz
namespace Go.Proofs.YtmkggcjajcdlcaaGreatDoor
open Go.RowKit
theorem Qg (xs:List Nat):Ng (aW xs)=true:=by
 unfold aW Ng
 simp[dh]
theorem JY (x:QR):SP (fM x)=true:=by
 cases x with
 |error e=>rfl
 |ok y=>
  have h:∀q:Rat,(j7 q y.2).all Ng=true:=fun q=>by
   show([AV.val _,aW _,AV.val _,aW _,AV.val _].all Ng)=true
   simp only[List.all_cons,List.all_nil,Qg]
   rfl
  show(PC (.agg (j7 y.1 y.2)) && (PC (dN .i64 0) && true))=true;rw[show PC (.agg (j7 y.1 y.2))=true from h y.1];rfl
theorem NZ {a b:Nat} {ca cb:List AV} (ha:bR a=false) (hb:bR b=false):∀j cs,(sB [(a,ca),(b,cb)]).bx j=some cs->bR j=false:=fun j cs h=>by
 have e:=cw.1 h
 by_cases h1:j=a
 ·rw[h1];exact ha
 ·by_cases h2:j=b
  ·rw[h2];exact hb
  ·rw[show aw [(a,ca),(b,cb)]=[(a,some ca),(b,some cb)] from rfl,aq _ _ (fun h=>h1 h.symm),aq _ _ (fun h=>h2 h.symm)]at e;cases e
theorem Pd (env:EL) (n:L8) (v:Rat × Int):oi 1 (au (env.map (·.1))) (pG env n) [.val (vL n)]=au ((iN env n v).map (·.1)):=by
 unfold oi iN;rw[Nat.mul_one]
 simp[au,List.map_take,List.map_drop]
theorem NU (env:EL) (n:L8) (v:Rat × Int):oi 5 (kp env) (pG env n) (j7 v.1 v.2)=kp (iN env n v):=by
 unfold oi iN;rw[zp,wX,Kr,kp,List.append_assoc]
theorem yM (l:List L8):a8 (au l)=true:=jO fun b hb=>by
 unfold au at hb;obtain⟨x,_,rfl⟩:=List.mem_map.1 hb;rfl
theorem OY {env:EL} {i:Nat} (h:env.length=i):gt env= .leaf (.sl i (au (env.map (·.1)))):=by
 rw[vm];unfold iZ;rw[List.length_map,h]
abbrev PB (l:Tb) (o:List L8) (i:Nat) (RN RV:List AV):AS:=⟨[(0, .d (bX l)),(23, .d (iZ o)),(24, .d (dN .i64 o.length)),(25, .d (dN .i64 i)),(7,gV 5001 1 9 i),(8,gV 5002 5 50 i)],[(5001,gX RN i),(5002,gX RV i)]⟩
theorem Jl {l:Tb} {o:List L8} {i:Nat} {a a' b b':List AV} (h1:a=a') (h2:b=b'):PB l o i a b=PB l o i a' b':=by rw[h1,h2]
theorem jL (l:Tb) (hs:mg l) (hl:l.length<=500) (hvs:(bI l).2=0->IF l):aa Tryz.prog 35 [bX l] (Nj (wQ l)):=by
 have co:=lP l hs (by omega)
 by_cases h0:(bI l).2=0
 case neg=>
  rw[FW h0];generalize(bI l).2=z at *;generalize(bI l).1=o at *;refine kV func35 ?_;refine kC (co) ?_;refine Ru ?_;refine Q2 ?_;exact aD
 have hV:=hvs h0;obtain⟨o,ho⟩:∃o,(bI l).1=o:=⟨_,rfl⟩;obtain⟨hok,ht,hn⟩:=mE (l:=l) (o:=o) (by rw[<- ho,<- h0]);have hf:=hok.fx_of hs;have hvv:wQ l=pE l o []:=by unfold wQ;rw[if_pos h0,ho]
 rw[hvv];rw[h0,ho]at co;obtain⟨R,hR⟩:∃R,pE l o []=R:=⟨_,rfl⟩;rw[hR];clear hvv hvs h0 ho;refine kV func35 ?_;refine kQ (co) ?_;refine ay (Nat × EL) (fun x=>x.1<=o.length/\u6 l (o.take x.1) x.2/\x.2.length=x.1/\pE l (o.drop x.1) x.2=R) (fun x=>PB l o x.1 (au (x.2.map (·.1))) (kp x.2)) (fun x=>o.length-x.1) (0,[]) ⟨Nat.zero_le _,by simpa using u6.nil l,rfl,hR⟩ kw ?_;rintro⟨i,env⟩ ⟨hi,hI,hel,hg⟩;dsimp only at hi hI hel hg ⊢;have hnm:=OY hel;have hvl:ip env= .leaf (.sl i (kp env)):=by unfold ip;rw[hel]
 have hlN:(au (env.map (·.1))).length=i*1:=by rw[dK,List.length_map,hel,Nat.mul_one]
 have hlV:(kp env).length=i*5:=by rw[CH,hel]
 have hoN:=yM (env.map (·.1));have hoV:=CQ env
 by_cases hil:i<o.length
 case neg=>
  rw[List.drop_of_length_le (by omega),pE]at hg;subst hg;unfold PB;refine kI ?_;refine Cz ?_;refine bV ((i8 (q:=7) (J:=5001) (m:=i) (cs:=au (env.map (·.1))) (fun h=>by rw[List.eq_nil_of_length_eq_zero (hel.trans h)];rfl) rfl rfl).tr (i8 (q:=8) (J:=5002) (m:=i) (cs:=kp env) (fun h=>by rw[List.eq_nil_of_length_eq_zero (hel.trans h)];rfl) rfl rfl)) rfl ?_;refine N0 ?_;show RV.tup _=RV.tup [gt env,ip env,_];rw[hnm,hvl];rfl
 obtain⟨nm,hx⟩:∃x,o[i]? =some x:=⟨o[i],by simp[hil]⟩;obtain⟨p,hp,hpn,hfx,hnd,hdep⟩:=ht.at hok hf hx;obtain⟨k,hk⟩:=List.getElem?_of_mem hp;have hkl:=(List.getElem?_eq_some_iff.1 hk).1;have cf:=ia l nm (by omega);rw[show gH l nm=(k:Nat) by unfold gH;rw[<- hpn,hok.fd hk,if_pos hkl]]at cf;obtain⟨e1,e2,e3⟩:=O8 hs hok hp;have ce:=dD hI.so (l:=env) (by omega) (fun x hx=>hV.hv _ _ (hI.hv x hx)) (jD p.2) e1 e2;rw[show dE (jD p.2)=dR p.2 from congrArg dR e3]at ce;rw[show o.drop i=nm::o.drop (i+1) by obtain⟨h,e⟩:=List.getElem?_eq_some_iff.1 hx;rw[List.drop_eq_getElem_cons h,e],pE,hfx]at hg;have hne:∀y∈env,y.1≠nm:=fun y hy e=>hnd ((hI.ky nm).2 ⟨y.2,by rw[<- e];exact hy⟩)
 have cb:=RY env hI.so (by omega) nm hne;have hps:=uX env nm;have hIs:= @u6.step l (o.take i) env hI p (by rw[hpn];exact hnd);have hIh:=fun x=> @u6.has l (o.take i) env hI p hp x hdep
 obtain⟨o1,na1,xs1,nb1,ys1,nm1,n1,cs1,hA,hB⟩:=aX p;have hat:∀(j:Nat) (a:AV),(bl p.1 o1 na1 xs1 nb1 ys1 nm1 n1 cs1)[j]? =some a->(bY l)[k*8+j]? =some a:=fun j a h=>cY l k p hk j a (by rw[hB];exact h)
 rw[show dR p.2= .agg (ab o1 na1 xs1 nb1 ys1 nm1 n1 cs1) from congrArg DV.agg hA]at ce;have hwd:=JY (b7 (bu env) (jD p.2));have hins:=Pd env nm;have hivs:=NU env nm
 have hnext:∀x:Rat × Int,b7 (bu env) (jD p.2)= .ok x->u6 l (o.take (i+1)) (iN env nm x):=fun x hev=>by
  have hI':=hIs (hIh x hev);rw[hpn,<- bE hx]at hI';exact hI'
 have hnl:∀x:Rat × Int,(iN env nm x).length=i+1:=fun x=>by rw[FI,hel]
 clear hIs hIh hI hdep hnd hne;rw[hnm]at ce cb;rw[hvl]at ce;rw[hel]at hps;cases i with
 |zero=>
  rw[show au (env.map (·.1))=[] by rw[List.eq_nil_of_length_eq_zero hel];rfl]at ce cb hins;rw[show kp env=[] by rw[List.eq_nil_of_length_eq_zero hel];rfl]at ce hivs
  unfold PB;refine Qj ?_;refine Ga ?_;cases hev:b7 (bu env) (jD p.2)with
  |error z=>
   have hz:=fa hev;rw[hev]at ce hg hwd;dsimp only at hg;subst hg;refine kQ (ce) ?_;refine ft (T:=TT) rfl ?_ ?_
   ·exact bne_iff_ne.2 hz
   exact aD
  |ok x=>
   rw[hev]at ce hg hwd;dsimp only at hg;have hI':=hnext x hev;have hins:=hins x;have hivs:=hivs x;have hnl:=hnl x;rw[show pG env nm=0 by omega]at cb hins hivs;refine kQ (ce) ?_;refine kC (cb) ?_;refine Nk ?_;refine pJ ((IM [.val (vL nm)] rfl rfl).swap 902 13003 rfl) rfl rfl rfl rfl rfl ⟨rfl,trivial⟩ rfl rfl rfl rfl ?_
   refine kO3 ?_
   refine wZ 13008 (cs:=j7 x.1 x.2) ac rfl rfl rfl rfl rfl rfl rfl rfl rfl rfl rfl rfl rfl ?_;refine pJ (((IU (j7 x.1 x.2) rfl rfl).swap 902 13008 rfl).swap 1003 1013 rfl) rfl rfl rfl rfl rfl ⟨rfl,trivial⟩ rfl rfl rfl rfl ?_;refine kW ?_;refine⟨(0+1,iN env nm x),⟨hil,hI',hnl,hg⟩,by dsimp only;omega,Eq.mpr (congrArg (bi _) (Jl (i:=0+1) hins.symm hivs.symm)) ?_⟩;exact bi.tr (b:=⟨[(7, .own 1003 (0+1) 1 9),(8, .own 1013 (0+1) 5 50),(0, .d (bX l)),(23, .d (iZ o)),(24, .d (dN .i64 o.length)),(25, .d (dN .i64 (0+1:Nat)))],[(1003,some _),(1013,some _)]⟩) (weak ⟨rfl,rfl,rfl,rfl,rfl,ak (by omega) (by omega),trivial⟩ ⟨rfl,rfl,trivial⟩ rfl) (((aA (q:=7) (j:=1003) (j':=5001) rfl rfl rfl rfl).tr (aA (q:=8) (j:=1013) (j':=5002) rfl rfl rfl rfl)).tr kw)
 |succ i=>
  skip
  unfold PB;refine Qj ?_;refine Ga ?_;cases hev:b7 (bu env) (jD p.2)with
  |error z=>
   have hz:=fa hev;rw[hev]at ce hg hwd;dsimp only at hg;subst hg;refine Fr ?_;refine ft (T:=TT) rfl ?_ ?_
   ·exact bne_iff_ne.2 hz
   exact aD
  |ok x=>
   rw[hev]at ce hg hwd;dsimp only at hg;have hI':=hnext x hev;have hins:=hins x;have hivs:=hivs x;have hnl:=hnl x
   skip
   refine Fr ?_;refine gT ((cb.rd (ts:=[.own 5001 (i+1) 1 9, .d (dL nm)]) (b:=[(5001,au (env.map (·.1)))]) rfl rfl)) rfl rfl rfl rfl rfl ⟨rfl,trivial⟩ rfl rfl rfl rfl ?_;refine Nk ?_;refine pJ (((JS (m:=i+1) (i:=pG env nm) (x:=[.val (vL nm)]) hps (by omega) (by omega) hlN rfl hoN rfl).swap 901 5001 rfl).swap 902 13003 rfl) rfl rfl rfl rfl rfl ⟨rfl,rfl,trivial⟩ rfl rfl rfl rfl ?_
   refine kO3 ?_
   refine wZ 13008 (cs:=j7 x.1 x.2) ac rfl rfl rfl rfl rfl rfl rfl rfl rfl rfl rfl rfl rfl ?_;refine pJ ((((Lb (m:=i+1) (i:=pG env nm) (x:=j7 x.1 x.2) hps (by omega) (by omega) hlV rfl hoV rfl).swap 901 5002 rfl).swap 902 13008 rfl).swap 1003 1013 rfl) rfl rfl rfl rfl rfl ⟨rfl,rfl,trivial⟩ rfl rfl rfl rfl ?_;refine kW ?_;refine⟨(i+1+1,iN env nm x),⟨hil,hI',hnl,hg⟩,by dsimp only;omega,Eq.mpr (congrArg (bi _) (Jl (i:=i+1+1) hins.symm hivs.symm)) ?_⟩
   exact bi.tr (b:=⟨[(7, .own 1003 (i+1+1) 1 9),(8, .own 1013 (i+1+1) 5 50),(0, .d (bX l)),(23, .d (iZ o)),(24, .d (dN .i64 o.length)),(25, .d (dN .i64 (i+1+1:Nat)))],[(1003,some _),(1013,some _)]⟩) (weak ⟨rfl,rfl,rfl,rfl,rfl,ak (by omega) (by omega),trivial⟩ ⟨rfl,rfl,trivial⟩ rfl) (((aA (q:=7) (j:=1003) (j':=5001) rfl rfl rfl rfl).tr (aA (q:=8) (j:=1013) (j':=5002) rfl rfl rfl rfl)).tr kw)
section
variable {P:Program} {T:TypeId->Option Ty} {n:Nat} {ops:Array Oper} {id:Nat} {draw:Bool} {K:AS->Prop} {s s1:AS} {k:Nat} {o:Oper} {os:List Oper} {fps:List FP}
theorem Qd {Q:AX->AS->Prop} (hw:bi s s1) (h:gk P T n (.region id ops draw) Q s1):gk P T n (.region id ops draw) Q s:=Dm _ (.one hw) (fun _ e=>e ▸ h)
theorem Po {x:Operand} {d j m q e:Nat} {cs:List AV} (h0:draw=false) (h1:gd ops s o=some true) (ho:o.op= .assign x) (hd:o.dst=some d) (h3:aF n o.dst=true) (hx:s.ev x= .own j m q e) (hj:s.bx j=some cs) (h:∀c,m<=c->c<=9223372036854775807->am P T n ops id draw K (k+1) os ⟨(d, .vs j 0 m c q e)::s.t,s.b⟩ (ar ops o ⟨.junk,none⟩ []::fps)):am P T n ops id draw K k (o::os) s fps:=by
 refine .alt (fun s'=>∃c,m<=c/\c<=9223372036854775807/\s'=⟨(d, .vs j 0 m c q e)::s.t,s.b⟩) h0 h1 (fun S0 w0 g a w K Q hM hK=>?_) (by rintro s' ⟨c,a1,a2,rfl⟩;exact h c a1 a2);refine l9 (s:=s) (.inr ho) n S0 w0 g a w K Q hM (dH h3) fun g' a' w' h2=>?_
 have h5:s.eff o.dst ⟨s.ev x,none⟩=⟨(d, .own j m q e)::s.t,s.b⟩:=by rw[hd,hx];rfl
 rw[h5]at h2;obtain⟨s1,⟨c,c1,c2,rfl⟩,g2,h4⟩:=oW (s:=⟨(d, .own j m q e)::s.t,s.b⟩) d (show _=TV.own j m q e from by simp[AS.tv,ah]) hj n S0 w0 a' w' ⟨g',h2⟩;obtain⟨g3,h6⟩:=xo n S0 w0 a' w' ⟨g2,h4⟩;exact hK _ ⟨c,c1,c2,rfl⟩ g3 a' w' h6
end
def To (p m c:Nat):List L8->TV
 | []=> .d (.leaf (.sl 0 []))
 |_::_=> .vs 7002 p m c 1 9
def Tl (Y:List AV):List L8->Option (List AV)
 | []=>none
 |_::_=>some Y
def Am (Y:List AV) (p:Nat) (l:List L8):Prop:=∃X:List AV,X.length=p/\Y=X++au l
theorem tJ (l:List L8) (x:L8):au (l++[x])=au l++[.val (vL x)]:=by rw[jF];rfl
theorem Am.app {Y:List AV} {l:List L8} {x:L8} {p m:Nat} (h:Am Y p l) (hm:m=l.length):Am (aB Y ((p+m)*1) [.val (vL x)]) p (l++[x])/\(p+m)*1<=Y.length:=by
 obtain⟨X,hp,rfl⟩:=h;have h:= @fK (X++au l) [] [.val (vL x)] ((p+m)*1) (by rw[List.length_append,dK,hp,hm,Nat.mul_one]);rw[List.append_nil]at h;refine⟨⟨X,hp,?_⟩,by rw[List.length_append,dK,hp,hm,Nat.mul_one];exact Nat.le_refl _⟩;rw[h,tJ,List.drop_nil,List.append_nil,List.append_assoc]
theorem Am.grow {Y:List AV} {l:List L8} {x:L8} {p m:Nat} (h:Am Y p l) (hm:m=l.length):Am ((Y.drop (p*1)).take (m*1)++[.val (vL x)]) 0 (l++[x])/\a8 ((Y.drop (p*1)).take (m*1))=true:=by
 obtain⟨X,hp,rfl⟩:=h;subst hm hp;rw[Nat.mul_one,Nat.mul_one,List.drop_left,List.take_of_length_le (Nat.le_of_eq (dK l))];exact⟨⟨[],rfl,by rw[tJ];rfl⟩,yM l⟩
theorem Am.at {Y:List AV} {l:List L8} {a:L8} {p:Nat} (h:Am Y p (a::l)):Y[(p+0)*1]? =some (.val (vL a)):=by
 obtain⟨X,hp,rfl⟩:=h;subst hp;rw[Nat.mul_one,Nat.add_zero,List.getElem?_append_right (Nat.le_refl _),Nat.sub_self];rfl
theorem Am.next {Y:List AV} {l:List L8} {a:L8} {p:Nat} (h:Am Y p (a::l)):Am Y (p+1) l:=by
 obtain⟨X,hp,rfl⟩:=h;exact⟨X++[.val (vL a)],by rw[List.length_append,hp];rfl,by rw[List.append_assoc];rfl⟩
theorem t7.len {l:Tb} {n:L8} {out td:List L8} (h:t7 l n out td):out.length<=l.length:=by
 exact MW
theorem t7.add {l:Tb} {n a:L8} {out r:List L8} (h:t7 l n out (a::r)) {p:Pm} (hp:p∈l) (h1:a∈eu p.2) (h2:p.1 ∉ out):t7 l n (out++[p.1]) (a::(r++[p.1]))/\2*(l.length-(out++[p.1]).length)+(r++[p.1]).length<=2*(l.length-out.length)+r.length:=by
 obtain⟨out',r',e,h3,_,_,h4⟩:=h.step hp;rw[SD,if_pos ⟨h1,h2⟩]at e
 simp only[List.cons_append,Prod.mk.injEq,List.cons.injEq,true_and]at e
 obtain⟨rfl,rfl⟩:=e;exact⟨h3,h4⟩
abbrev Se (l:Tb) (O:List L8) (Y:List AV) (p m c i:Nat):AS:=⟨(7,li 7001 O)::[(0, .d (bX l)),(8, .vs 7002 p m c 1 9),(26, .d (bX l)),(27, .d (dN .i64 l.length)),(28, .d (dN .i64 i))],(7001,mq O)::[(7002,some Y)]⟩
theorem pv (l:Tb) (n:L8) (hs:mg l) (hl:l.length<=500):aa Tryz.prog 31 [bX l,dL n] (.one (iZ (lj l n))):=by
 have cf:=oz l n hs (by omega);rcases zV l n with⟨h1,h2,_⟩| ⟨h1,h2,_⟩| ⟨h1,hf,h2,_⟩
 ·rw[h2]at cf
  rw[show lj l n=[] by unfold lj;rw[if_neg fun h=>h1 h.1]];generalize ie l=z at *;refine kV func31 ?_;refine kC (cf) ?_;refine Ru ?_;exact Tx
 ·have hnf:¬0<=gH l n:=fun hf=>by
   unfold K8 at h2;rw[if_pos h1,if_neg (by omega)]at h2
   injection h2 with _ h3
   cases h3
  rw[h2]at cf;rw[show lj l n=[] by unfold lj;rw[if_neg fun h=>hnf h.2]];refine kV func31 ?_;refine kC (cf) ?_;exact aD
 rw[h2]at cf
 have hdn:lj l n=DR l n:=by
  unfold lj gH;rw[if_pos ⟨h1,by rw[if_pos hf];omega⟩]
 rw[hdn];have hD:∀O,t7 l n O []->(O.mergeSort fun x y=>decide (x<=y))=DR l n:=fun O hB=>JM hB (pL l n) (fun x=>mX)
 generalize DR l n=D at *;have hby:∀k,k<=2000->k*16<=140737488355328:=fun k hk=>by omega
 clear h1 h2 hdn;refine kV func31 ?_;refine kC (cf) ?_
 iterate 3 refine kG ?_
 refine kO ?_;refine wZ 7002 (cs:=[.val (vL n)]) ac rfl rfl rfl rfl rfl rfl rfl rfl rfl rfl rfl rfl rfl ?_;refine Po rfl rfl rfl rfl rfl rfl rfl fun c0 k1 k2=>?_
 refine P9 ?_;refine ay (List L8 × List L8 × List AV × Nat × Nat × Nat) (fun x=>t7 l n x.1 x.2.1/\Am x.2.2.1 x.2.2.2.1 x.2.1/\x.2.2.2.2.1=x.2.1.length/\x.2.1.length<=x.2.2.2.2.2/\x.2.2.2.2.2<=9223372036854775807/\2*(l.length-x.1.length)+x.2.1.length<=2*l.length+1) (fun x=>⟨[(7,li 7001 x.1),(0, .d (bX l)),(8,To x.2.2.2.1 x.2.2.2.2.1 x.2.2.2.2.2 x.2.1)],[(7001,mq x.1),(7002,Tl x.2.2.1 x.2.1)]⟩) (fun x=>2*(l.length-x.1.length)+x.2.1.length) ([],[n],[.val (vL n)],0,1,c0) ⟨t7.start l n,⟨[],rfl,rfl⟩,rfl,k1,k2,by simp⟩ kw ?_;rintro⟨O,td,Y,p,m,c⟩ ⟨hB,hT,hm,hc1,hc2,hmu⟩;dsimp only at hB hT hm hc1 hc2 hmu ⊢;cases td with
 |nil=>
  have hsort:=hD O hB;have hO:=hB.len;cases O with
  |nil=>
   refine kW ?_;refine kC (x8) ?_;refine N0 ?_;rw[<- hsort,List.mergeSort_nil];rfl
  |cons b O=>
   have hms:((b::O).mergeSort fun x y=>decide (x<=y)).length=(b::O).length:=List.length_mergeSort _;have cs:=(C4 (l:=b::O) (by omega)).swap 901 7001 rfl;rw[hsort]at cs hms;refine kW ?_;refine kD (cs) ?_;refine P9 ?_;refine bV (a7 (q:=7) rfl rfl) rfl ?_;refine N0 ?_;show RV.one (.leaf (.sl (b::O).length (au D)))=RV.one (iZ D);unfold iZ;rw[hms]
 |cons a r=>
 have hOl:=hB.len;have hm1:m=r.length+1:=hm;refine kI ?_
 refine kO2 ?_
 refine kX ?_;refine ay (Nat × List L8 × List L8 × List AV × Nat × Nat × Nat) (fun y=>y.1<=l.length/\t7 l n y.2.1 (a::y.2.2.1)/\Am y.2.2.2.1 y.2.2.2.2.1 (a::y.2.2.1)/\y.2.2.2.2.2.1=y.2.2.1.length+1/\(∀q∈l.take y.1,a∈eu q.2->q.1∈y.2.1)/\y.2.2.1.length+1<=y.2.2.2.2.2.2/\y.2.2.2.2.2.2<=9223372036854775807/\2*(l.length-y.2.1.length)+y.2.2.1.length<=2*(l.length-O.length)+r.length) (fun y=>Se l y.2.1 y.2.2.2.1 y.2.2.2.2.1 y.2.2.2.2.2.1 y.2.2.2.2.2.2 y.1) (fun y=>l.length-y.1) (0,O,r,Y,p,m,c) ⟨Nat.zero_le _,hB,hT,hm1,by simp,hc1,hc2,Nat.le_refl _⟩ (by cases O<;>first|exact weak ⟨rfl,rfl,rfl,rfl,rfl,rfl,trivial⟩ ⟨rfl,trivial⟩ rfl|exact weak ⟨rfl,rfl,rfl,rfl,rfl,rfl,trivial⟩ ⟨rfl,rfl,trivial⟩ rfl) ?_;clear hB hT hm hm1 hc1 hc2 Y p m c
 rintro⟨i,O1,r1,Y,p,m,c⟩ ⟨hi,hB,hT,hm,hpr,hc1,hc2,hmu1⟩;dsimp only at hi hB hT hm hpr hc1 hc2 hmu1 ⊢;have hO1:=hB.len
 by_cases hil:i<l.length
 case neg=>
  have hBn:=hB.next fun q hq=>hpr q (by rw[List.take_of_length_le (by omega)];exact hq)
  have hTn:=hT.next;unfold Se;cases r1 with
  |nil=>
   refine HE ?_;refine Cy (i:=1) ac hm.symm rfl rfl rfl rfl rfl rfl rfl rfl rfl ?_;refine kW ?_;exact⟨(O1,[],[],0,0,0),⟨hBn,⟨[],rfl,rfl⟩,rfl,Nat.le_refl _,by dsimp only;omega,by dsimp only[List.length_nil,List.length_cons]at *;omega⟩,by dsimp only[List.length_nil,List.length_cons]at *;omega,by cases O1<;>first|exact weak ⟨rfl,rfl,rfl,trivial⟩ trivial rfl|exact weak ⟨rfl,rfl,rfl,trivial⟩ ⟨rfl,trivial⟩ rfl⟩
  |cons b r2=>
   refine HE ?_;refine jQ (i:=1) ac (show 1<=m by omega) (show 1<c by dsimp only[List.length_nil,List.length_cons]at *;omega) rfl rfl rfl rfl rfl rfl rfl rfl rfl ?_;refine kW ?_;exact⟨(O1,b::r2,Y,p+1,m-1,c-1),⟨hBn,hTn,by dsimp only[List.length_nil,List.length_cons]at *;omega,by dsimp only[List.length_nil,List.length_cons]at *;omega,by dsimp only;omega,by dsimp only[List.length_nil,List.length_cons]at *;omega⟩,by dsimp only[List.length_nil,List.length_cons]at *;omega,by cases O1<;>first|exact weak ⟨rfl,rfl,rfl,trivial⟩ ⟨rfl,trivial⟩ rfl|exact weak ⟨rfl,rfl,rfl,trivial⟩ ⟨rfl,rfl,trivial⟩ rfl⟩
 obtain⟨q,hx⟩:∃q,l[i]? =some q:=⟨l[i],by simp[hil]⟩;have hq:=List.mem_of_getElem? hx;have cu:=tI q a (hs q hq).2;have cc:=dX O1 q.1 (by omega);obtain⟨o1,na1,xs1,nb1,ys1,nm1,n1,cs1,hA,hQ⟩:=aX q;have hat:∀(j:Nat) (a:AV),(bl q.1 o1 na1 xs1 nb1 ys1 nm1 n1 cs1)[j]? =some a->(bY l)[i*8+j]? =some a:=fun j a h=>cY l i q hx j a (by rw[hQ];exact h)
 rw[show sv q= .agg (bl q.1 o1 na1 xs1 nb1 ys1 nm1 n1 cs1) from congrArg DV.agg hQ]at cu;have hta:=hT.at
 have hp1:(decide (a∈eu q.2)=true->q.1∈O1)-> ∀z∈l.take (i+1),a∈eu z.2->z.1∈O1:=fun h z hz haz=>by
  rw[bE hx]at hz;rcases List.mem_append.1 hz with hz|hz
  ·exact hpr z hz haz
  ·rw[List.mem_singleton.1 hz]at haz ⊢;exact h (decide_eq_true haz)
 have hadd:decide (a∈eu q.2)=true->decide (q.1∈O1)=false->_:=fun h1 h2=>hB.add hq (of_decide_eq_true h1) (of_decide_eq_false h2)
 have hmem:decide (q.1∈O1)=true->q.1∈O1:=of_decide_eq_true
 have hp2:∀z∈l.take (i+1),a∈eu z.2->z.1∈O1++[q.1]:=fun z hz haz=>by
  rw[bE hx]at hz;rcases List.mem_append.1 hz with hz|hz
  ·exact List.mem_append_left _ (hpr z hz haz)
  ·rw[List.mem_singleton.1 hz];simp
 have hTa:=fun x=> @Am.app Y (a::r1) x p m hT hm
 have hTg:=fun x=> @Am.grow Y (a::r1) x p m hT hm
 have hml:m<=1500:=by dsimp only[List.length_cons]at *;omega
 generalize decide (a∈eu q.2)=b1 at *;generalize decide (q.1∈O1)=b2 at *;have hall:b1=false∨(b1=true/\b2=true)∨(b1=true/\b2=false):=by cases b1<;>cases b2<;>simp
 cases O1 with
 |nil=>
  unfold Se;rcases hall with rfl| ⟨rfl,rfl⟩| ⟨rfl,rfl⟩
  ·refine PI ?_
   refine kW ?_;exact⟨(i+1,[],r1,Y,p,m,c),⟨hil,hB,hT,hm,hp1 (fun h=>by cases h),hc1,hc2,hmu1⟩,by dsimp only;omega,weak ⟨rfl,rfl,rfl,rfl,rfl,ak (by omega) (by omega),trivial⟩ ⟨rfl,trivial⟩ rfl⟩
  ·refine PI ?_
   refine kO4 ?_
   refine kQ (cc) ?_;exact⟨(i+1,[],r1,Y,p,m,c),⟨hil,hB,hT,hm,hp1 (fun _=>hmem rfl),hc1,hc2,hmu1⟩,by dsimp only;omega,weak ⟨rfl,rfl,rfl,rfl,rfl,ak (by omega) (by omega),trivial⟩ ⟨rfl,trivial⟩ rfl⟩
  ·obtain⟨hB2,hmu2⟩:=hadd rfl rfl
   obtain⟨hT2,hpl⟩:=hTa q.1;obtain⟨hT3,hob⟩:=hTg q.1;refine PI ?_
   refine kO4 ?_
   refine kQ (cc) ?_;refine u5 7003 (m1:=([]:List L8).length) (m2:=1) ac (by decide) (hby _ (by omega)) rfl rfl rfl rfl rfl rfl rfl rfl rfl rfl (.nil rfl rfl) rfl rfl rfl rfl ?_;refine kW ?_
   by_cases hroom:m+1<=c
   ·refine MI ?_
    refine⟨(i+1,([])++[q.1],r1++[q.1],aB Y ((p+m)*1) [.val (vL q.1)],p,m+1,c),⟨hil,hB2,hT2,by simp[hm],hp2,by simp;omega,hc2,by dsimp only at *;omega⟩,by dsimp only;omega,Eq.mpr (congrArg (bi _) (ju [(0, .d (bX l)),(8, .vs 7002 p (m+1) c 1 9),(26, .d (bX l)),(27, .d (dN .i64 l.length)),(28, .d (dN .i64 (i+1:Nat)))] [(7002,some (aB Y ((p+m)*1) [.val (vL q.1)]))] 7 7001 ([]) q.1 [])) ?_⟩
    exact bi.trans (b:=⟨[(7, .own 7003 (([]:List L8).length+1) 1 9),(0, .d (bX l)),(8, .vs 7002 p (m+1) c 1 9),(26, .d (bX l)),(27, .d (dN .i64 l.length)),(28, .d (dN .i64 (i+1:Nat)))],[(7003,some ((au ([])).take (([]:List L8).length*1)++[.val (vL q.1)])),(7002,some (aB Y ((p+m)*1) [.val (vL q.1)]))]⟩) (weak ⟨rfl,rfl,rfl,rfl,rfl,ak (by omega) (by omega),trivial⟩ ⟨rfl,rfl,trivial⟩ rfl) ((aA (q:=7) (j:=7003) (j':=7001) rfl rfl rfl rfl).trans kw)
   ·refine Lz ?_
    refine P9 ?_;refine Qd (bi.trans (b:=⟨[(7, .own 7003 (([]:List L8).length+1) 1 9),(0, .d (bX l)),(8, .own 7004 (m+1) 1 9),(26, .d (bX l)),(27, .d (dN .i64 l.length)),(28, .d (dN .i64 i))],[(7003,some ((au ([])).take (([]:List L8).length*1)++[.val (vL q.1)])),(7004,some ((Y.drop (p*1)).take (m*1)++[.val (vL q.1)]))]⟩) kw ((aA (q:=7) (j:=7003) (j':=7001) rfl rfl rfl rfl).trans (aA (q:=8) (j:=7004) (j':=7002) rfl rfl rfl rfl))) ?_;refine mJ 8 rfl rfl fun c1 k3 k4=>?_
    refine bz (T:=TT) rfl ?_;refine kW ?_;refine⟨(i+1,([])++[q.1],r1++[q.1],(Y.drop (p*1)).take (m*1)++[.val (vL q.1)],0,m+1,c1),⟨hil,hB2,hT3,by simp[hm],hp2,by simp;omega,k4,by dsimp only at *;omega⟩,by dsimp only;omega,Eq.mpr (congrArg (bi _) (ju [(0, .d (bX l)),(8, .vs 7002 0 (m+1) c1 1 9),(26, .d (bX l)),(27, .d (dN .i64 l.length)),(28, .d (dN .i64 (i+1:Nat)))] [(7002,some ((Y.drop (p*1)).take (m*1)++[.val (vL q.1)]))] 7 7001 ([]) q.1 [])) ?_⟩;exact mU
 |cons b O1=>
  unfold Se;rcases hall with rfl| ⟨rfl,rfl⟩| ⟨rfl,rfl⟩
  ·refine PI ?_
   refine kW ?_;exact⟨(i+1,(List.cons b O1),r1,Y,p,m,c),⟨hil,hB,hT,hm,hp1 (fun h=>by cases h),hc1,hc2,hmu1⟩,by dsimp only;omega,weak ⟨rfl,rfl,rfl,rfl,rfl,ak (by omega) (by omega),trivial⟩ ⟨rfl,rfl,trivial⟩ rfl⟩
  ·refine PI ?_
   refine LX ?_;exact⟨(i+1,(List.cons b O1),r1,Y,p,m,c),⟨hil,hB,hT,hm,hp1 (fun _=>hmem rfl),hc1,hc2,hmu1⟩,by dsimp only;omega,weak ⟨rfl,rfl,rfl,rfl,rfl,ak (by omega) (by omega),trivial⟩ ⟨rfl,rfl,trivial⟩ rfl⟩
  ·obtain⟨hB2,hmu2⟩:=hadd rfl rfl
   obtain⟨hT2,hpl⟩:=hTa q.1;obtain⟨hT3,hob⟩:=hTg q.1;refine PI ?_;refine LX ?_;refine u5 7003 (m1:=((List.cons b O1):List L8).length) (m2:=1) ac (by decide) (hby _ (by omega)) rfl rfl rfl rfl rfl rfl rfl rfl rfl rfl (.own rfl rfl) rfl rfl rfl rfl ?_;refine kW ?_
   by_cases hroom:m+1<=c
   ·refine MI ?_
    refine⟨(i+1,((List.cons b O1))++[q.1],r1++[q.1],aB Y ((p+m)*1) [.val (vL q.1)],p,m+1,c),⟨hil,hB2,hT2,by simp[hm],hp2,by simp;omega,hc2,by dsimp only at *;omega⟩,by dsimp only;omega,Eq.mpr (congrArg (bi _) (ju [(0, .d (bX l)),(8, .vs 7002 p (m+1) c 1 9),(26, .d (bX l)),(27, .d (dN .i64 l.length)),(28, .d (dN .i64 (i+1:Nat)))] [(7002,some (aB Y ((p+m)*1) [.val (vL q.1)]))] 7 7001 ((List.cons b O1)) q.1 [])) ?_⟩
    exact bi.trans (b:=⟨[(7, .own 7003 (((List.cons b O1):List L8).length+1) 1 9),(0, .d (bX l)),(8, .vs 7002 p (m+1) c 1 9),(26, .d (bX l)),(27, .d (dN .i64 l.length)),(28, .d (dN .i64 (i+1:Nat)))],[(7003,some ((au ((List.cons b O1))).take (((List.cons b O1):List L8).length*1)++[.val (vL q.1)])),(7002,some (aB Y ((p+m)*1) [.val (vL q.1)]))]⟩) (weak ⟨rfl,rfl,rfl,rfl,rfl,ak (by omega) (by omega),trivial⟩ ⟨rfl,rfl,trivial⟩ rfl) ((aA (q:=7) (j:=7003) (j':=7001) rfl rfl rfl rfl).trans kw)
   ·refine Lz ?_
    refine P9 ?_;refine Qd (bi.trans (b:=⟨[(7, .own 7003 (((List.cons b O1):List L8).length+1) 1 9),(0, .d (bX l)),(8, .own 7004 (m+1) 1 9),(26, .d (bX l)),(27, .d (dN .i64 l.length)),(28, .d (dN .i64 i))],[(7003,some ((au ((List.cons b O1))).take (((List.cons b O1):List L8).length*1)++[.val (vL q.1)])),(7004,some ((Y.drop (p*1)).take (m*1)++[.val (vL q.1)]))]⟩) kw ((aA (q:=7) (j:=7003) (j':=7001) rfl rfl rfl rfl).trans (aA (q:=8) (j:=7004) (j':=7002) rfl rfl rfl rfl))) ?_;refine mJ 8 rfl rfl fun c1 k3 k4=>?_
    refine bz (T:=TT) rfl ?_;refine kW ?_;refine⟨(i+1,((List.cons b O1))++[q.1],r1++[q.1],(Y.drop (p*1)).take (m*1)++[.val (vL q.1)],0,m+1,c1),⟨hil,hB2,hT3,by simp[hm],hp2,by simp;omega,k4,by dsimp only at *;omega⟩,by dsimp only;omega,Eq.mpr (congrArg (bi _) (ju [(0, .d (bX l)),(8, .vs 7002 0 (m+1) c1 1 9),(26, .d (bX l)),(27, .d (dN .i64 l.length)),(28, .d (dN .i64 (i+1:Nat)))] [(7002,some ((Y.drop (p*1)).take (m*1)++[.val (vL q.1)]))] 7 7001 ((List.cons b O1)) q.1 [])) ?_⟩;exact mU
theorem SI:aa Tryz.prog 166 [dL [98]] (yJ (.ok [(1,[98],0),(0,[],1)])):=by
 have w0:aa Tryz.prog 116 [dL [98],dN .i64 0] (.one (dN .i64 1)):=cU [98] 0 (by decide) (by decide);have hB:(Bs [98]).size=1:=aT [98];refine Gq ?_;refine eR 2 ?_;refine aL ⟨[(0, .d (dL [98])),(2, .nil),(3, .d (dN .i64 0)),(4, .d (dN .i64 0)),(5, .nil),(6, .d (dN .i64 0))],[]⟩ kw ?_;refine OB ?_;refine bQ ac (i:=0) (c:=98) rfl rfl rfl rfl rfl rfl rfl rfl rfl ?_
 refine kO4 ?_
 refine bQ ac (i:=0) (c:=98) rfl rfl rfl rfl rfl rfl rfl rfl rfl ?_;refine kW ?_;refine kQ (w0) ?_;refine m0 ac (l:=[98]) (i:=0) (j:=1) (by decide) (by decide) rfl rfl rfl rfl rfl rfl rfl rfl rfl ?_;refine RJ ?_;refine aL ⟨[(0, .d (dL [98])),(2, .nil),(3, .d (dN .i64 0)),(4, .d (dN .i64 0)),(5, .own 13002 1 3 166),(6, .d (dN .i64 1))],[(13002,some (iB [(1,[98],0)]))]⟩ kw ?_;refine GU ?_;refine jw ?_;refine kI ?_
 refine kO2 ?_
 refine nu (v':= .int .i64 ((1:Nat))) rfl rfl rfl rfl ?_ ?_
 ·exact congrArg (Value.int .i64) (by rw[hB])
 refine kO2 ?_
 refine cK 15002 (m1:=1) (m2:=1) ac (by decide) (by decide) rfl rfl rfl rfl rfl rfl rfl rfl rfl rfl rfl (.own rfl rfl) rfl rfl rfl ?_;refine OL ?_;exact aD
theorem Sp:aa Tryz.prog 166 [dL [50,32,109,109]] (yJ (.ok [(2,[50],0),(1,[109,109],2),(0,[],4)])):=by
 have w0:aa Tryz.prog 116 [dL [50,32,109,109],dN .i64 0] (.one (dN .i64 0)):=cU [50,32,109,109] 0 (by decide) (by decide);have n0:aa Tryz.prog 235 [dL [50,32,109,109],dN .i64 0] (.one (dN .i64 1)):=eL [50,32,109,109] 0 (by decide) (by decide) (r:=1) rfl;have w2:aa Tryz.prog 116 [dL [50,32,109,109],dN .i64 2] (.one (dN .i64 4)):=cU [50,32,109,109] 2 (by decide) (by decide);have hB:(Bs [50,32,109,109]).size=4:=aT _;refine Gq ?_;refine eR 4 ?_;refine aL ⟨[(0, .d (dL [50,32,109,109])),(2, .nil),(3, .d (dN .i64 0)),(4, .d (dN .i64 0)),(5, .nil),(6, .d (dN .i64 0))],[]⟩ kw ?_;refine OB ?_;refine bQ ac (i:=0) (c:=50) rfl rfl rfl rfl rfl rfl rfl rfl rfl ?_
 refine kO4 ?_
 refine bQ ac (i:=0) (c:=50) rfl rfl rfl rfl rfl rfl rfl rfl rfl ?_;refine kW ?_;refine kQ (w0) ?_;refine kQ (n0) ?_;refine m0 ac (l:=[50,32,109,109]) (i:=0) (j:=1) (by decide) (by decide) rfl rfl rfl rfl rfl rfl rfl rfl rfl ?_;refine RJ ?_;refine aL ⟨[(0, .d (dL [50,32,109,109])),(2, .nil),(3, .d (dN .i64 0)),(4, .d (dN .i64 0)),(5, .own 13002 1 3 166),(6, .d (dN .i64 1))],[(13002,some (iB [(2,[50],0)]))]⟩ kw ?_;refine OB ?_;refine Ma ?_;refine aL ⟨[(0, .d (dL [50,32,109,109])),(2, .nil),(3, .d (dN .i64 0)),(4, .d (dN .i64 0)),(5, .own 13002 1 3 166),(6, .d (dN .i64 2))],[(13002,some (iB [(2,[50],0)]))]⟩ kw ?_;refine OB ?_;refine bQ ac (i:=2) (c:=109) rfl rfl rfl rfl rfl rfl rfl rfl rfl ?_
 refine kO4 ?_
 refine bQ ac (i:=2) (c:=109) rfl rfl rfl rfl rfl rfl rfl rfl rfl ?_;refine kW ?_;refine kQ (w2) ?_;refine m0 ac (l:=[50,32,109,109]) (i:=2) (j:=4) (by decide) (by decide) rfl rfl rfl rfl rfl rfl rfl rfl rfl ?_;refine Rt ?_;refine aL ⟨[(0, .d (dL [50,32,109,109])),(2, .nil),(3, .d (dN .i64 0)),(4, .d (dN .i64 0)),(5, .own 13003 2 3 166),(6, .d (dN .i64 4))],[(13003,some (iB [(2,[50],0),(1,[109,109],2)]))]⟩ kw ?_;refine GU ?_;refine jw ?_;refine kI ?_
 refine kO2 ?_
 refine nu (v':= .int .i64 ((4:Nat))) rfl rfl rfl rfl ?_ ?_
 ·exact congrArg (Value.int .i64) (by rw[hB])
 refine kO2 ?_
 refine cK 15002 (m1:=2) (m2:=1) ac (by decide) (by decide) rfl rfl rfl rfl rfl rfl rfl rfl rfl rfl rfl (.own rfl rfl) rfl rfl rfl ?_;refine OL ?_;exact aD
theorem QO:aa Tryz.prog 236 [dL [51,32,42,32,97],dN .i64 2] (.tup [dN .i64 2,dL []]):=by
 have hB:(Bs [51,32,42,32,97]).size=5:=aT _;exact Mv
theorem SF:aa Tryz.prog 166 [dL [51,32,42,32,97]] (yJ (.ok [(2,[51],0),(4,[42],2),(1,[97],4),(0,[],5)])):=by
 have w0:aa Tryz.prog 116 [dL [51,32,42,32,97],dN .i64 0] (.one (dN .i64 0)):=cU [51,32,42,32,97] 0 (by decide) (by decide);have n0:aa Tryz.prog 235 [dL [51,32,42,32,97],dN .i64 0] (.one (dN .i64 1)):=eL [51,32,42,32,97] 0 (by decide) (by decide) (r:=1) rfl;have w2:aa Tryz.prog 116 [dL [51,32,42,32,97],dN .i64 2] (.one (dN .i64 2)):=cU [51,32,42,32,97] 2 (by decide) (by decide);have n2:aa Tryz.prog 235 [dL [51,32,42,32,97],dN .i64 2] (.one (dN .i64 2)):=eL [51,32,42,32,97] 2 (by decide) (by decide) (r:=2) rfl;have y2:aa Tryz.prog 237 [dN .u8 42] (.one (dB true)):=lA 42;have w4:aa Tryz.prog 116 [dL [51,32,42,32,97],dN .i64 4] (.one (dN .i64 5)):=cU [51,32,42,32,97] 4 (by decide) (by decide)
 have hB:(Bs [51,32,42,32,97]).size=5:=aT _;refine Gq ?_;refine eR 6 ?_;refine aL ⟨[(0, .d (dL [51,32,42,32,97])),(2, .nil),(3, .d (dN .i64 0)),(4, .d (dN .i64 0)),(5, .nil),(6, .d (dN .i64 0))],[]⟩ kw ?_;refine OB ?_;refine Ds ?_;refine m0 ac (l:=[51,32,42,32,97]) (i:=0) (j:=1) (by decide) (by decide) rfl rfl rfl rfl rfl rfl rfl rfl rfl ?_;refine RJ ?_;refine aL ⟨[(0, .d (dL [51,32,42,32,97])),(2, .nil),(3, .d (dN .i64 0)),(4, .d (dN .i64 0)),(5, .own 13002 1 3 166),(6, .d (dN .i64 1))],[(13002,some (iB [(2,[51],0)]))]⟩ kw ?_;refine OB ?_;refine Ma ?_;refine aL ⟨[(0, .d (dL [51,32,42,32,97])),(2, .nil),(3, .d (dN .i64 0)),(4, .d (dN .i64 0)),(5, .own 13002 1 3 166),(6, .d (dN .i64 2))],[(13002,some (iB [(2,[51],0)]))]⟩ kw ?_;refine Mw ?_;refine kC (QO) ?_
 refine kW ?_;refine Q4 ?_;refine kQ (y2) ?_;refine m0 ac (l:=[51,32,42,32,97]) (i:=2) (j:=3) (by decide) (by decide) rfl rfl rfl rfl rfl rfl rfl rfl rfl ?_;refine Rt ?_;refine aL ⟨[(0, .d (dL [51,32,42,32,97])),(2, .nil),(3, .d (dN .i64 0)),(4, .d (dN .i64 0)),(5, .own 13003 2 3 166),(6, .d (dN .i64 3))],[(13003,some (iB [(2,[51],0),(4,[42],2)]))]⟩ kw ?_;refine OB ?_;refine bQ ac (i:=3) (c:=32) rfl rfl rfl rfl rfl rfl rfl rfl rfl ?_;refine kW ?_;refine aL ⟨[(0, .d (dL [51,32,42,32,97])),(2, .nil),(3, .d (dN .i64 0)),(4, .d (dN .i64 0)),(5, .own 13003 2 3 166),(6, .d (dN .i64 4))],[(13003,some (iB [(2,[51],0),(4,[42],2)]))]⟩ kw ?_;refine OB ?_;refine bQ ac (i:=4) (c:=97) rfl rfl rfl rfl rfl rfl rfl rfl rfl ?_
 refine kO4 ?_
 refine bQ ac (i:=4) (c:=97) rfl rfl rfl rfl rfl rfl rfl rfl rfl ?_;refine kW ?_;refine kQ (w4) ?_;refine m0 ac (l:=[51,32,42,32,97]) (i:=4) (j:=5) (by decide) (by decide) rfl rfl rfl rfl rfl rfl rfl rfl rfl ?_;refine MB ?_;refine aL ⟨[(0, .d (dL [51,32,42,32,97])),(2, .nil),(3, .d (dN .i64 0)),(4, .d (dN .i64 0)),(5, .own 13004 3 3 166),(6, .d (dN .i64 5))],[(13004,some (iB [(2,[51],0),(4,[42],2),(1,[97],4)]))]⟩ kw ?_;refine GU ?_;refine jw ?_;refine pd ?_;refine OL ?_;exact aD
theorem P0:aa Tryz.prog 236 [dL [51,32,42,32,119],dN .i64 2] (.tup [dN .i64 2,dL []]):=by
 have hB:(Bs [51,32,42,32,119]).size=5:=aT _;exact Mv
theorem SC:aa Tryz.prog 166 [dL [51,32,42,32,119]] (yJ (.ok [(2,[51],0),(4,[42],2),(1,[119],4),(0,[],5)])):=by
 have w0:aa Tryz.prog 116 [dL [51,32,42,32,119],dN .i64 0] (.one (dN .i64 0)):=cU [51,32,42,32,119] 0 (by decide) (by decide);have n0:aa Tryz.prog 235 [dL [51,32,42,32,119],dN .i64 0] (.one (dN .i64 1)):=eL [51,32,42,32,119] 0 (by decide) (by decide) (r:=1) rfl;have w2:aa Tryz.prog 116 [dL [51,32,42,32,119],dN .i64 2] (.one (dN .i64 2)):=cU [51,32,42,32,119] 2 (by decide) (by decide);have n2:aa Tryz.prog 235 [dL [51,32,42,32,119],dN .i64 2] (.one (dN .i64 2)):=eL [51,32,42,32,119] 2 (by decide) (by decide) (r:=2) rfl;have y2:aa Tryz.prog 237 [dN .u8 42] (.one (dB true)):=lA 42;have w4:aa Tryz.prog 116 [dL [51,32,42,32,119],dN .i64 4] (.one (dN .i64 5)):=cU [51,32,42,32,119] 4 (by decide) (by decide)
 have hB:(Bs [51,32,42,32,119]).size=5:=aT _;refine Gq ?_;refine eR 6 ?_;refine aL ⟨[(0, .d (dL [51,32,42,32,119])),(2, .nil),(3, .d (dN .i64 0)),(4, .d (dN .i64 0)),(5, .nil),(6, .d (dN .i64 0))],[]⟩ kw ?_;refine OB ?_;refine Ds ?_;refine m0 ac (l:=[51,32,42,32,119]) (i:=0) (j:=1) (by decide) (by decide) rfl rfl rfl rfl rfl rfl rfl rfl rfl ?_;refine RJ ?_;refine aL ⟨[(0, .d (dL [51,32,42,32,119])),(2, .nil),(3, .d (dN .i64 0)),(4, .d (dN .i64 0)),(5, .own 13002 1 3 166),(6, .d (dN .i64 1))],[(13002,some (iB [(2,[51],0)]))]⟩ kw ?_;refine OB ?_;refine Ma ?_;refine aL ⟨[(0, .d (dL [51,32,42,32,119])),(2, .nil),(3, .d (dN .i64 0)),(4, .d (dN .i64 0)),(5, .own 13002 1 3 166),(6, .d (dN .i64 2))],[(13002,some (iB [(2,[51],0)]))]⟩ kw ?_;refine Mw ?_;refine kC (P0) ?_
 refine kW ?_;refine Q4 ?_;refine kQ (y2) ?_;refine m0 ac (l:=[51,32,42,32,119]) (i:=2) (j:=3) (by decide) (by decide) rfl rfl rfl rfl rfl rfl rfl rfl rfl ?_;refine Rt ?_;refine aL ⟨[(0, .d (dL [51,32,42,32,119])),(2, .nil),(3, .d (dN .i64 0)),(4, .d (dN .i64 0)),(5, .own 13003 2 3 166),(6, .d (dN .i64 3))],[(13003,some (iB [(2,[51],0),(4,[42],2)]))]⟩ kw ?_;refine OB ?_;refine bQ ac (i:=3) (c:=32) rfl rfl rfl rfl rfl rfl rfl rfl rfl ?_;refine kW ?_;refine aL ⟨[(0, .d (dL [51,32,42,32,119])),(2, .nil),(3, .d (dN .i64 0)),(4, .d (dN .i64 0)),(5, .own 13003 2 3 166),(6, .d (dN .i64 4))],[(13003,some (iB [(2,[51],0),(4,[42],2)]))]⟩ kw ?_;refine OB ?_;refine bQ ac (i:=4) (c:=119) rfl rfl rfl rfl rfl rfl rfl rfl rfl ?_
 refine kO4 ?_
 refine bQ ac (i:=4) (c:=119) rfl rfl rfl rfl rfl rfl rfl rfl rfl ?_;refine kW ?_;refine kQ (w4) ?_;refine m0 ac (l:=[51,32,42,32,119]) (i:=4) (j:=5) (by decide) (by decide) rfl rfl rfl rfl rfl rfl rfl rfl rfl ?_;refine MB ?_;refine aL ⟨[(0, .d (dL [51,32,42,32,119])),(2, .nil),(3, .d (dN .i64 0)),(4, .d (dN .i64 0)),(5, .own 13004 3 3 166),(6, .d (dN .i64 5))],[(13004,some (iB [(2,[51],0),(4,[42],2),(1,[119],4)]))]⟩ kw ?_;refine GU ?_;refine jw ?_;refine pd ?_;refine OL ?_;exact aD
theorem J8:aa Tryz.prog 308 [dL [50]] (.tup [dQ ((2:Int):Rat),dN .i64 0]):=by
 have hB:(Bs [50]).size=1:=aT _;have c1:=nF [50];rw[FR (fun c hc=>by cases List.mem_singleton.1 hc;decide) (by decide),if_pos (LQ 50 (by decide) (by decide))]at c1;have cd:=nw (t:=[50]) (by decide);have cm:=qY (k:=1) (n:=2) (d:=1) (q:=((2:Int):Rat)) (Sz.small (by decide)) (Sz.small (by decide)) (by decide) (by decide) rfl;refine kU func308 ?_;refine Qm ?_;refine kE ?_;refine kG ?_;refine kO ?_;refine aO rfl rfl rfl rfl rfl rfl rfl (f6 (a:=[50]) (b:=[]) (by simp)) ?_
 refine kO2 ?_
 refine bQ ac (l:=[50]) (i:=0) rfl rfl rfl rfl rfl rfl rfl rfl rfl ?_;refine kW ?_;refine kQ (cd) ?_;refine H4 ac (l:=[50]) (l':=[50]) (i:=1) rfl (by decide) rfl rfl rfl rfl rfl rfl rfl rfl ?_;refine kC (c1) ?_;refine Lv ?_;refine F4 ac (l:=[50]) (l':=[]) (i:=1) rfl (by decide) rfl rfl rfl rfl rfl rfl rfl rfl ?_;refine Mo ?_;exact aD
theorem Dk:aa Tryz.prog 308 [dL [51]] (.tup [dQ ((3:Int):Rat),dN .i64 0]):=by
 have hB:(Bs [51]).size=1:=aT _;have c1:=nF [51];rw[FR (fun c hc=>by cases List.mem_singleton.1 hc;decide) (by decide),if_pos (LQ 51 (by decide) (by decide))]at c1;have cd:=nw (t:=[51]) (by decide);have cm:=qY (k:=1) (n:=3) (d:=1) (q:=((3:Int):Rat)) (Sz.small (by decide)) (Sz.small (by decide)) (by decide) (by decide) rfl;refine kU func308 ?_;refine Qm ?_;refine kE ?_;refine kG ?_;refine kO ?_;refine aO rfl rfl rfl rfl rfl rfl rfl (f6 (a:=[51]) (b:=[]) (by simp)) ?_
 refine kO2 ?_
 refine bQ ac (l:=[51]) (i:=0) rfl rfl rfl rfl rfl rfl rfl rfl rfl ?_;refine kW ?_;refine kQ (cd) ?_;refine H4 ac (l:=[51]) (l':=[51]) (i:=1) rfl (by decide) rfl rfl rfl rfl rfl rfl rfl rfl ?_;refine kC (c1) ?_;refine Lv ?_;refine F4 ac (l:=[51]) (l':=[]) (i:=1) rfl (by decide) rfl rfl rfl rfl rfl rfl rfl rfl ?_;refine Mo ?_;exact aD
theorem SE:fmt 3=[51]:=by
 unfold fmt;rw[if_neg (by decide),if_neg (by decide)];show []++mc 3=_;rw[ek (by decide)];show []++(mc 0++[dg 3])=_;rw[ef];rfl
theorem R7:gm ((3:Int):Rat)=some [51]:=by
 unfold gm;rw[if_neg (by decide),pe,if_pos (by rfl),show(pw ((3:Int):Rat) 0).num=3 from rfl,SE];rfl
theorem Sf (z:Int) (h:z.natAbs<4294967296):dy 1 (z:Rat):=⟨Sz.small h,Sz.small (by show(1:Int).natAbs<_;decide)⟩
theorem Ah {z:Int} (h:z.natAbs<4294967296) {u:List UInt8} (hd:gm (z:Rat)=some u):∃t,aa Tryz.prog 244 [dQ (z:Rat)] (.tup [dL t,dB true]):=by
 obtain⟨t,c,_⟩:=pk (Sf z h) (by decide);rw[hd]at c;exact⟨t,c⟩
abbrev tk (fid:FuncId) (xs:List TV) (ts:List Tk) (e:Ex) (r:List Tk):Prop:=bw Tryz.prog fid (.box 900 0::xs) [(900,zz ts 0 0 0)] (.v (.one (dE e))) [(900,zz r 0 0 0)]
section
variable {s tx:List UInt8} {q:Rat} (cp:aa Tryz.prog 308 [dL s] (.tup [dQ q,dN .i64 0])) (cd:aa Tryz.prog 244 [dQ q] (.tup [dL tx,dB true])) (p:Nat)
include cp cd
theorem Lo (x:List UInt8) (pu:Nat) (r:List Tk):tk 295 [.d (.agg (Mf (2,s,p)))] ((1,x,pu)::r) (.num q x) r:=by
 refine Fm ?_;refine kZ (eC (1,x,pu) r 0 0 0) ?_;refine kZ (eC (1,x,pu) r 0 0 0) ?_;refine Dy (m:=((1,x,pu)::r).length) (i:=1) (q:=3) ac (by rw[mR];exact Nat.le_refl _) (by simp) rfl rfl rfl rfl rfl rfl rfl rfl ?_;exact Qn
theorem BZ (u:Tk) (r:List Tk) (hu:u.1≠1):tk 295 [.d (.agg (Mf (2,s,p)))] (u::r) (.num q []) (u::r):=by
 refine Fm ?_;refine kD (eC u r 0 0 0) ?_;refine kO ?_;refine kE ?_;exact Qn
end
theorem vN (x:List UInt8) (p:Nat) (r:List Tk):tk 275 [] ((1,x,p)::r) (.nam x) r:=by
 refine bf ac fo func275 rfl rfl rfl rfl rfl (j6) ?_;refine kW ?_;refine kZ (gP 40 (1,x,p) r 0 0 rfl) ?_;refine kZ (eC (1,x,p) r 0 0 0) ?_;refine Dy (m:=((1,x,p)::r).length) (i:=1) (q:=3) ac (by rw[mR];exact Nat.le_refl _) (by simp) rfl rfl rfl rfl rfl rfl rfl rfl ?_;exact Qn
theorem vz {x:List UInt8} {p:Nat} {ts r:List Tk} {e:Ex} (cy:tk 295 [.d (.agg (Mf (2,x,p)))] ts e r):tk 275 [] ((2,x,p)::ts) e r:=by
 obtain⟨o1,na1,xs1,nb1,ys1,nm1,n1,cs1,hA⟩:=dC e;unfold tk at cy ⊢;rw[show dE e= .agg (ab o1 na1 xs1 nb1 ys1 nm1 n1 cs1) from congrArg DV.agg hA]at cy ⊢;refine bf ac fo func275 rfl rfl rfl rfl rfl (j6) ?_;refine kW ?_;refine kZ (gP 40 (2,x,p) ts 0 0 rfl) ?_;refine kZ (eC (2,x,p) ts 0 0 0) ?_;refine Dy (m:=((2,x,p)::ts).length) (i:=1) (q:=3) ac (by rw[mR];exact Nat.le_refl _) (by simp) rfl rfl rfl rfl rfl rfl rfl rfl ?_;refine kW ?_;refine kD (cy) ?_;exact Qn
theorem iY {t:Tk} {ts r:List Tk} {e:Ex} (h:el 45 (t::ts)=none) (cy:tk 275 [] (t::ts) e r):tk 168 [.d (dN .i64 3)] (t::ts) e r:=by
 obtain⟨o1,na1,xs1,nb1,ys1,nm1,n1,cs1,hA⟩:=dC e;unfold tk at cy ⊢;rw[show dE e= .agg (ab o1 na1 xs1 nb1 ys1 nm1 n1 cs1) from congrArg DV.agg hA]at cy ⊢
 have cu:bw Tryz.prog 238 [.box 900 0] [(900,zz (t::ts) 0 0 0)] (.v (.one (.agg (ab o1 na1 xs1 nb1 ys1 nm1 n1 cs1)))) [(900,zz r 0 0 0)]:=by
  refine bf ac fo func238 rfl rfl rfl rfl rfl (j6) ?_;refine kW ?_;refine kZ (gP 45 t ts 0 0 h) ?_;refine kD (cy) ?_;exact Qn
 refine HX ?_;refine kD (cu) ?_;exact Qn
def rQ (nn:Int) (c1 c2:List AV):AS:=⟨[(0, .box 900 0),(1, .d (dN .i64 nn)),(4, .box 0 0),(5, .box 3004 0)],[(0,some (ab 0 false [] false [] [] 0 [])),(3004,some c1),(900,some c2)]⟩
theorem vp {ts:List Tk} {e:Ex} {t:Tk} {r:List Tk} (c0:tk 168 [.d (dN .i64 2)] ts e (t::r)) (h1:el 43 (t::r)=none) (h2:el 45 (t::r)=none):tk 168 [.d (dN .i64 1)] ts e (t::r):=by
 obtain⟨o1,na1,xs1,nb1,ys1,nm1,n1,cs1,hA⟩:=dC e;unfold tk at c0 ⊢;rw[show dE e= .agg (ab o1 na1 xs1 nb1 ys1 nm1 n1 cs1) from congrArg DV.agg hA]at c0 ⊢;refine HX ?_;refine kZ (c0) ?_;refine eR 1 ?_;refine aL (rQ 1 (ab o1 na1 xs1 nb1 ys1 nm1 n1 cs1) (zz (t::r) 0 0 0)) kw ?_;unfold rQ;refine kW ?_;refine kZ (gP 43 t r 0 0 h1) ?_;refine kD (gP 45 t r 0 0 h2) ?_;exact Qn
theorem Df {ts:List Tk} {e:Ex} {t:Tk} {r:List Tk} (c0:tk 168 [.d (dN .i64 3)] ts e (t::r)) (h1:el 42 (t::r)=none) (h2:el 47 (t::r)=none):tk 168 [.d (dN .i64 2)] ts e (t::r):=by
 obtain⟨o1,na1,xs1,nb1,ys1,nm1,n1,cs1,hA⟩:=dC e;unfold tk at c0 ⊢;rw[show dE e= .agg (ab o1 na1 xs1 nb1 ys1 nm1 n1 cs1) from congrArg DV.agg hA]at c0 ⊢;refine HX ?_;refine kZ (c0) ?_;refine eR 1 ?_;refine aL (rQ 2 (ab o1 na1 xs1 nb1 ys1 nm1 n1 cs1) (zz (t::r) 0 0 0)) kw ?_;exact M1
theorem GC {ts:List Tk} {e e2:Ex} {p:Nat} {r2:List Tk} {t:Tk} {r:List Tk} (c0:tk 168 [.d (dN .i64 3)] ts e ((4,[42],p)::r2)) (cy:tk 168 [.d (dN .i64 3)] r2 e2 (t::r)) (h1:el 42 (t::r)=none) (h2:el 47 (t::r)=none):tk 168 [.d (dN .i64 2)] ts (.bin .mul e e2) (t::r):=by
 obtain⟨o1,na1,xs1,nb1,ys1,nm1,n1,cs1,hA⟩:=dC e;obtain⟨o2,na2,xs2,nb2,ys2,nm2,n2,cs2,hA2⟩:=dC e2;have hbin:=rg .mul e e2;rw[hA,hA2]at hbin;unfold tk at c0 cy ⊢;rw[show dE e= .agg (ab o1 na1 xs1 nb1 ys1 nm1 n1 cs1) from congrArg DV.agg hA]at c0;rw[show dE e2= .agg (ab o2 na2 xs2 nb2 ys2 nm2 n2 cs2) from congrArg DV.agg hA2]at cy;rw[show dE (.bin .mul e e2)= .agg _ from congrArg DV.agg hbin];refine HX ?_;refine kZ (c0) ?_;refine eR 2 ?_;refine aL (rQ 2 (ab o1 na1 xs1 nb1 ys1 nm1 n1 cs1) (zz ((4,[42],p)::r2) 0 0 0)) kw ?_;unfold rQ;refine kW ?_;refine kZ (IG 42 p r2 0 0) ?_;refine kZ (cy) ?_;refine aL (rQ 2 (ab 6 false [] false [] [] 2 (ab o1 na1 xs1 nb1 ys1 nm1 n1 cs1++ab o2 na2 xs2 nb2 ys2 nm2 n2 cs2)) (zz (t::r) 0 0 0)) kw ?_
 exact M1
theorem nG {s:List UInt8} {t0:Tk} {r0:List Tk} {e:Ex} {p:Nat} (c1:aa Tryz.prog 166 [dL s] (yJ (.ok (t0::r0)))) (cs:tk 168 [.d (dN .i64 1)] (t0::r0) e [(0,[],p)]) (hw:jN (rx e)) (hsz:gr (rx e)<=120) (hd:yS (rx e)<=40):aa Tryz.prog 104 [dL s] (.tup [dE e,dN .i64 0,dN .i64 0]):=by
 have c1:aa Tryz.prog 166 [dL s] (.tup [.leaf (.sl (t0::r0).length (iB (t0::r0))),dN .i64 0,dN .i64 0]):=c1;have cf0:=(eC t0 r0 0 0 0).ren0 2002 rfl rfl rfl;have cs:=cs.ren1 2002 rfl rfl rfl;have cn:=(eC (0,[],p) [] 0 0 0).ren0 2002 rfl rfl rfl;have cd:=yh (rx e) hw (by omega);obtain⟨o1,na1,xs1,nb1,ys1,nm1,n1,cs1,hA⟩:=dC e;have hE:dE e= .agg (ab o1 na1 xs1 nb1 ys1 nm1 n1 cs1):=congrArg DV.agg hA;rw[hE]at cs ⊢;rw[show dR (rx e)= .agg (ab o1 na1 xs1 nb1 ys1 nm1 n1 cs1) from congrArg DV.agg hA]at cd;refine kU func104 ?_;refine iD ?_;refine kQ (c1) ?_;refine kZ (cf0) ?_;refine kZ (cs) ?_;refine kZ (cn) ?_;refine kC (cd) ?_;refine kE ?_;exact aD
def sx:Ex:= .num ((2:Int):Rat) [109,109]
def tc:Ex:= .bin .mul (.num ((3:Int):Rat) []) (.nam [97])
def uf:Ex:= .nam [98]
def wS:Ex:= .bin .mul (.num ((3:Int):Rat) []) (.nam [119])
theorem se {n:Nat} (h:n<4294967296):(digs n).length<=8:=Nat.le_trans (aV (k:=1) (by simpa using h)) (by decide)
theorem Dq {e:Ex} (h1:lz e) (h2:jN (rx e)) (h4:yS (rx e)<=40) (hlt:mD (rx e)=true) (hsz:gr (rx e)<=120):pA (rx e)/\pT (rx e)=0/\lz e:=by
 refine⟨⟨h2,hlt,hsz⟩,?_,h1⟩;unfold pT;rw[if_pos (vV e h1),if_pos h4]
theorem Bh (v:Rat) (u:List UInt8) (hu:u.length<=60):jN (rx (.num v u)):= .mk (by decide) (by decide) (av _) (av _) (by omega) (by simp) (fun x hx=>by cases hx)
theorem zQ (u:List UInt8) (hu:u.length<=60):jN (rx (.nam u)):= .mk (by decide) (by decide) oH oH (by omega) (by simp) (fun x hx=>by cases hx)
theorem Q9:jN (rx sx):=Bh _ _ (by decide)
theorem RA:jN (rx uf):=zQ _ (by decide)
theorem SA:lz sx:=⟨by rw[SZ];rfl,(Sf 2 (by decide)).mono (by decide), .inr (by decide)⟩
theorem Pu:pA (rx sx)/\pT (rx sx)=0/\lz sx:=Dq SA Q9 (by decide) (by
 have h1:(digs 2).length<=8:=se (by decide);have h2:(digs 1).length<=8:=se (by decide)
 simp[sx,rx,mD,mf]
 exact⟨h1,h2⟩) (by simp[sx,rx,gr,ej])
theorem GJ:pA (rx uf)/\pT (rx uf)=0/\lz uf:=Dq (show mh [98]=true by decide) RA (by decide) (by
 have h2:(digs 0).length<=8:=se (by decide)
 simp[uf,rx,mD,mf]) (by simp[uf,rx,gr,ej])
theorem Ss:aa Tryz.prog 104 [dL [50,32,109,109]] (.tup [dE sx,dN .i64 0,dN .i64 0]):=by
 obtain⟨t,cd⟩:=Ah (z:=2) (by decide) SZ;exact nG Sp (vp (Df (iY rfl (vz (Lo J8 cd _ _ _ _))) rfl rfl) rfl rfl) Q9 (by simp[sx,rx,gr,ej]) (by decide)
theorem SU:aa Tryz.prog 104 [dL [98]] (.tup [dE uf,dN .i64 0,dN .i64 0]):=nG SI (vp (Df (iY rfl (vN _ _ _)) rfl rfl) rfl rfl) RA (by simp[uf,rx,gr,ej]) (by decide)
theorem Rr:jN (rx tc):= .mk (by decide) (by decide) oH oH (by decide) (by simp) (fun x hx=>by
 rcases List.mem_cons.1 hx with rfl|hx
 ·exact Bh _ _ (by decide)
 ·cases List.mem_singleton.1 hx;exact zQ _ (by decide))
theorem SH:lz tc:=⟨⟨by rw[R7];rfl,(Sf 3 (by decide)).mono (by decide), .inl rfl⟩,(by decide:mh [97]=true)⟩
theorem Lp:pA (rx tc)/\pT (rx tc)=0/\lz tc:=Dq SH Rr (by decide) (by
 have h1:(digs 3).length<=8:=se (by decide);have h2:(digs 1).length<=8:=se (by decide)
 simp[tc,rx,mD,mf]
 exact⟨h1,h2⟩) (by simp[tc,rx,gr,ej])
theorem SJ:aa Tryz.prog 104 [dL [51,32,42,32,97]] (.tup [dE tc,dN .i64 0,dN .i64 0]):=by
 obtain⟨t,cd⟩:=Ah (z:=3) (by decide) R7;exact nG SF (vp (GC (iY rfl (vz (BZ Dk cd _ _ _ (by decide)))) (iY rfl (vN _ _ _)) rfl rfl) rfl rfl) Rr (by simp[tc,rx,gr,ej]) (by decide)
theorem QU:jN (rx wS):= .mk (by decide) (by decide) oH oH (by decide) (by simp) (fun x hx=>by
 rcases List.mem_cons.1 hx with rfl|hx
 ·exact Bh _ _ (by decide)
 ·cases List.mem_singleton.1 hx;exact zQ _ (by decide))
theorem Sq:lz wS:=⟨⟨by rw[R7];rfl,(Sf 3 (by decide)).mono (by decide), .inl rfl⟩,(by decide:mh [119]=true)⟩
theorem QA:pA (rx wS)/\pT (rx wS)=0/\lz wS:=Dq Sq QU (by decide) (by
 have h1:(digs 3).length<=8:=se (by decide);have h2:(digs 1).length<=8:=se (by decide)
 simp[wS,rx,mD,mf]
 exact⟨h1,h2⟩) (by simp[wS,rx,gr,ej])
theorem Sv:aa Tryz.prog 104 [dL [51,32,42,32,119]] (.tup [dE wS,dN .i64 0,dN .i64 0]):=by
 obtain⟨t,cd⟩:=Ah (z:=3) (by decide) R7;exact nG SC (vp (GC (iY rfl (vz (BZ Dk cd _ _ _ (by decide)))) (iY rfl (vN _ _ _)) rfl rfl) rfl rfl) QU (by simp[wS,rx,gr,ej]) (by decide)
theorem FK:eu (rx sx)=[]:=by simp[sx,rx,eu,fG,gh]
theorem Bo:eu (rx tc)=[[97]]:=by rfl
theorem Qo:eu (rx uf)=[[98]]:=by rfl
def iA:Tb:=[([97],rx sx),([98],rx tc)]
theorem Rn:mh [97]=true:=by decide
theorem QG:mh [98]=true:=by decide
theorem Q6:mh [119]=true:=by decide
theorem jW:mg iA:=fun p hp=>by
 rcases List.mem_cons.1 hp with rfl|hp
 ·exact⟨by decide,Pu.1⟩
 ·rcases List.mem_cons.1 hp with rfl|hp
  ·exact⟨by decide,Lp.1⟩
  ·cases hp
theorem qu:ie iA=0:=by
 simp[ie,xH,iA,Pu.2.1,Lp.2.1,Rn,QG,b5]
theorem Ob:oS iA:=nW qu
theorem Cm:bI iA=([[97],[98]],0):=by
 have h1:sA iA []=[97]:=by simp[sA,iA,jr,pH,pC,FK,Bo]
 have h2:sA iA [[97]]=[98]:=by simp[sA,iA,jr,pH,pC,FK,Bo]
 have h3:f7 iA iA.length []=some [[97],[98]]:=by
  show f7 iA 2 []=_;rw[f7,h1,if_neg (by decide),f7];show(if sA iA [[97]]=[]then none else f7 iA 0 ([[97]]++[sA iA [[97]]]))=_;rw[h2,if_neg (by decide)];rfl
 unfold bI;rw[if_pos qu,if_pos (by simp[iA,pC,FK,Bo]),h3]
theorem OM:PE [109,109]=some ((1:Int):Rat):=by rfl
def SY:EL:=[([97],(((2:Int):Rat)*((1:Int):Rat),1)),([98],(((3:Int):Rat)*(((2:Int):Rat)*((1:Int):Rat)),1))]
theorem Iy:wQ iA= .ok SY:=by
 unfold wQ;rw[Cm,if_pos rfl];have f1:Jr iA [97]=rx sx:=by simp[Jr,iA,b5]
 have f2:Jr iA [98]=rx tc:=by simp[Jr,iA,b5]
 have e1:b7 (bu []) sx= .ok (((2:Int):Rat)*((1:Int):Rat),1):=by
  rw[sx,b7,if_neg (by decide),OM]
 have e2:b7 (bu [([97],(((2:Int):Rat)*((1:Int):Rat),1))]) tc= .ok (((3:Int):Rat)*(((2:Int):Rat)*((1:Int):Rat)),1):=by
  simp[tc,b7,bu,Fh,vd]
  rfl
 simp only[pE,f1,f2,vW Pu.2.2,vW Lp.2.2,e1]
 rw[show iN [] [97] (((2:Int):Rat)*((1:Int):Rat),1)=[([97],(((2:Int):Rat)*((1:Int):Rat),1))] from rfl,e2];rfl
theorem Lh:((3:Int):Rat)*(((2:Int):Rat)*((1:Int):Rat))=((6:Int):Rat):=by kernel_rfl
theorem O2:oS iA->Ju iA:=fun h=>h.fx_of jW
theorem Qa:IF iA:=by
 refine⟨jW,by decide,fun n x h=>?_⟩;obtain⟨_,_,_,hk,hv,_⟩:=AO O2 Iy;obtain⟨u,hu⟩:=(hk n).2 h.mem;have:x=u:=h.fn Ob (hv _ hu);subst this;have h1:dy 1 ((1:Int):Rat):=⟨Sz.small (by show(1:Int).natAbs<_;decide),Sz.small (by show(1:Int).natAbs<_;decide)⟩;have h2:dy 1 ((2:Int):Rat):=⟨Sz.small (by show(2:Int).natAbs<_;decide),Sz.small (by show(1:Int).natAbs<_;decide)⟩;have h3:dy 1 ((3:Int):Rat):=⟨Sz.small (by show(3:Int).natAbs<_;decide),Sz.small (by show(1:Int).natAbs<_;decide)⟩;rcases List.mem_cons.1 hu with e|hu
 ·cases e;exact⟨(h2.mul h1).mono (by decide),rfl⟩
 ·rcases List.mem_cons.1 hu with e|hu
  ·cases e;exact⟨(h3.mul (h2.mul h1)).mono (by decide),rfl⟩
  ·cases hu
theorem Pg:Qu iA (rx uf)= .tup [sX ((6:Int):Rat) 1,dN .i64 0]:=by
 unfold Qu;rw[if_pos GJ.2.1,Iy];dsimp only;rw[vW GJ.2.2,show b7 (bu SY) uf= .ok (((6:Int):Rat),1) by rw[<- Lh];rfl];rfl
def H5:Tb:=[([97],rx uf),([98],rx tc)]
theorem N6:zO iA ([97],rx uf)=([],9):=by
 have hs:dP iA ([97],rx uf)=H5:=by simp[dP,iA,b5,H5]
 have hv:ie H5=0:=by simp[ie,xH,H5,GJ.2.1,Lp.2.1,Rn,QG,b5]
 have ho:bI H5=([],9):=by
  have h1:sA H5 []=[]:=by simp[sA,H5,jr,pH,pC,Qo,Bo]
  have h3:f7 H5 H5.length []=none:=by
   show f7 H5 2 []=_;rw[f7,if_pos h1]
  unfold bI;rw[if_pos hv,if_pos (by simp[H5,pC,Qo,Bo]),h3]
 unfold zO;rw[hs,ho,if_neg (by decide)]
theorem OP:NT iA [97]=([],14):=by
 unfold NT;rw[if_pos qu]
 simp[iA,b5,Bo]
theorem Ow:Lg iA [97] [119]=([([119],lG [97] [119] (rx sx)),([98],rx wS)],0):=by
 have h:lG [97] [119] (rx tc)=rx wS:=by simp[tc,wS,rx,lG,DX]
 unfold Lg;rw[if_pos qu]
 simp[iA,b5,Q6,Oz,h]
theorem Oy:lj iA [97]=[[98]]:=by
 have hd:DR iA [97]=[[98]]:=by
  refine nh (pL _ _) (List.pairwise_singleton _ _) fun x=>?_
  rw[mX]
  constructor
  ·intro h
   cases h with
   | @base p hp hn=>
    rcases List.mem_cons.1 hp with rfl|hp
    ·rw[FK]at hn;cases hn
    ·rcases List.mem_cons.1 hp with rfl|hp
     ·simp
     ·cases hp
   | @step p y hp hy _=>
    rcases List.mem_cons.1 hp with rfl|hp
    ·rw[FK]at hy;cases hy
    ·rcases List.mem_cons.1 hp with rfl|hp
     ·simp
     ·cases hp
  ·intro h
   rw[List.mem_singleton.1 h];exact .base (p:=([98],rx tc)) (by simp[iA]) (by rw[Bo];simp)
 unfold lj;rw[if_pos ⟨qu,by simp[gH,iA,b5]⟩,hd]
theorem oV {x:Rx} (h:pA x):aa Tryz.prog 65 [dR x] (.one (dR x)):=ov x h.wd (by have:=h.sz;omega)
theorem zc (l:Tb) (p:Pm) (hs:mg l) (hp:p.1.length<=60/\pA p.2) (hl:l.length<=500):aa Tryz.prog 22 [bX l,sv p] (FT (zO l p)):=yI l p hs hp hl (fun x hx=>oV (hs x hx).2) (oV hp.2)
theorem DZ (l:Tb) (x:Rx) (hs:mg l) (hx:pA x) (hl:l.length<=500) (hvs:(bI l).2=0->IF l):aa Tryz.prog 27 [bX l,dR x] (Qu l x):=wH l x (jL l hs hl hvs) hs hx hvs
theorem Tn {A B:List AV} (hA:A.length=8):∀(j:Nat) (a:AV),B[j]? =some a->(A++B)[1*8+j]? =some a:=fun j a h=>by
 rw[List.getElem?_append_right (by omega),hA,show 1*8+j-8=j by omega];exact h
theorem fq {s:List UInt8} {e:Ex} (c:aa Tryz.prog 104 [dL s] (.tup [dE e,dN .i64 0,dN .i64 0])):aa Tryz.prog 51 [dL s] (.one (dR (rx e))):=by
 obtain⟨o1,na1,xs1,nb1,ys1,nm1,n1,cs1,hA⟩:=bv (rx e);rw[show dE e= .agg (ab o1 na1 xs1 nb1 ys1 nm1 n1 cs1) from congrArg DV.agg hA]at c;rw[show dR (rx e)= .agg (ab o1 na1 xs1 nb1 ys1 nm1 n1 cs1) from congrArg DV.agg hA];refine kV func51 ?_;refine kC (c) ?_;exact aD
theorem vc:aa Tryz.prog 12 [] (.one (dB true)):=by
 have ca:=fq Ss;have cb:=fq SJ;have cc:=fq SU;have cd:=fq Sv;have cO:=lP iA jW (by decide);have cE:=DZ iA (rx uf) jW GJ.1 (by decide) (fun _=>Qa);have cS:=zc iA ([97],rx uf) jW ⟨by decide,GJ.1⟩ (by decide);have cR:=xP iA [97] jW (by decide);have cN:=y3 iA [97] [119] jW (by decide) (by decide);have cD:=pv iA [97] jW (by decide);have cQ:=sK (rx wS) QA.1.lw (rx wS) QA.1.lw;rw[GF]at cQ;rw[Cm]at cO;rw[Pg]at cE;rw[N6]at cS;rw[OP]at cR;rw[Ow]at cN;rw[Oy]at cD;have e1:=nX [[97],[98]] (by decide);have e2:=nX [[98]] (by decide);have cF:=iz 6 (by decide) (by decide) (q:=((6:Int):Rat)) rfl
 have cM:=oI (k:=1) (a:=((6:Int):Rat)) (b:=((6:Int):Rat)) (p:=1) (p':=1) ⟨Sz.small (by show(6:Int).natAbs<_;decide),Sz.small (by show(1:Int).natAbs<_;decide)⟩ (by decide) (t:=true) (by simp);obtain⟨o1,na1,xs1,nb1,ys1,nm1,n1,cs1,h1⟩:=bv (rx sx);obtain⟨o2,na2,xs2,nb2,ys2,nm2,n2,cs2,h2⟩:=bv (rx tc);obtain⟨o3,na3,xs3,nb3,ys3,nm3,n3,cs3,h3⟩:=bv (rx uf);obtain⟨o4,na4,xs4,nb4,ys4,nm4,n4,cs4,h4⟩:=bv (rx wS);obtain⟨o5,na5,xs5,nb5,ys5,nm5,n5,cs5,h5⟩:=bv (lG [97] [119] (rx sx))
 have hT:bX iA= .leaf (.sl 2 (bl [97] o1 na1 xs1 nb1 ys1 nm1 n1 cs1++bl [98] o2 na2 xs2 nb2 ys2 nm2 n2 cs2)):=by
  show DV.leaf (.sl 2 ((.val (vL [97])::aR (rx sx))++((.val (vL [98])::aR (rx tc))++[])))=_;rw[h1,h2,List.append_nil];rfl
 have hN:bX [([119],lG [97] [119] (rx sx)),([98],rx wS)]= .leaf (.sl 2 (bl [119] o5 na5 xs5 nb5 ys5 nm5 n5 cs5++bl [98] o4 na4 xs4 nb4 ys4 nm4 n4 cs4)):=by
  show DV.leaf (.sl 2 ((.val (vL [119])::aR (lG [97] [119] (rx sx)))++((.val (vL [98])::aR (rx wS))++[])))=_;rw[h5,h4,List.append_nil];rfl
 have hP:sv ([97],rx uf)= .agg (bl [97] o3 na3 xs3 nb3 ys3 nm3 n3 cs3):=by
  show DV.agg (.val (vL [97])::aR (rx uf))=_;rw[h3];rfl
 unfold FT at cN;dsimp only at cN;rw[hT]at cO cE cS cR cN cD;rw[hN]at cN;rw[hP]at cS;rw[show dR (rx sx)= .agg (ab o1 na1 xs1 nb1 ys1 nm1 n1 cs1) from congrArg DV.agg h1]at ca;rw[show dR (rx tc)= .agg (ab o2 na2 xs2 nb2 ys2 nm2 n2 cs2) from congrArg DV.agg h2]at cb;rw[show dR (rx uf)= .agg (ab o3 na3 xs3 nb3 ys3 nm3 n3 cs3) from congrArg DV.agg h3]at cc cE;rw[show dR (rx wS)= .agg (ab o4 na4 xs4 nb4 ys4 nm4 n4 cs4) from congrArg DV.agg h4]at cd cQ;clear h1 h2 h3 h4 h5 hT hN hP;refine kV func12 ?_;refine kC (ca) ?_;refine kO ?_;refine kQ (cb) ?_;refine kQ (cO) ?_;refine kC (cc) ?_;refine kQ (cE) ?_;refine kC (cc) ?_;refine kO ?_;refine kQ (cS) ?_;refine kQ (cR) ?_;refine kQ (cN) ?_;refine kQ (e1) ?_;refine kC (cF) ?_
 refine kO ?_;refine kQ (cM) ?_;refine kC (cD) ?_;refine kO ?_;refine kQ (e2) ?_;refine bP (i:=1) (cs':=bl [98] o4 na4 xs4 nb4 ys4 nm4 n4 cs4) (by decide) (Tn rfl) (Nat.zero_lt_succ 7) rfl rfl rfl rfl rfl rfl rfl rfl ?_
 refine kO2 ?_
 refine kC (cd) ?_;refine kC (cQ) ?_;exact aD
section
open Go.ChangeShapes Go.WideShapes Go.ChangeAt Go.RowKit Go.Joins
def Rj (l:Tb):Prop:=∀p∈l,p.1.length<=9223372036854775807/\jN p.2
def NX:List TypeId:=[43,41,38,36,4,34,133,3,9,39,22]
theorem tX:uH Tryz.prog NX=true:=by kernel_rfl
set_option maxRecDepth 100000 in
theorem wT {n:Nat} {cs:List AV} (h:Sh Tryz.prog n 43 cs):∃p:Pm,cs=ve p/\p.1.length<=9223372036854775807/\jN p.2:=by
 cases n with
 |zero=>exact h.elim
 |succ n=>
  simp only[Sh,underlying43,List.forall_mem_cons,List.not_mem_nil,false_imp_iff,implies_true,and_true]at h
  obtain⟨hl,h0,h1⟩:=h;rw[show Tryz.prog.cellsOf 43=8 by kernel_rfl]at hl;rw[show Tryz.prog.cellsOf 9=1 by kernel_rfl]at h0;rw[show Tryz.prog.cellsOf 41=7 by kernel_rfl]at h1
  match cs,hl with
  | [c0,c1,c2,c3,c4,c5,c6,c7],_=>
   obtain⟨nm,e0,hn⟩:=ug h0;obtain⟨x,e1,hx⟩:=KR n _ h1;have e0:[c0]=[.val (vL nm)]:=e0;have e1:[c1,c2,c3,c4,c5,c6,c7]=aR x:=e1;refine⟨(nm,x),?_,hn,hx⟩;show [c0,c1,c2,c3,c4,c5,c6,c7]= .val (vL nm)::aR x;rw[<- e1]
   simp at e0
   rw[e0]
set_option maxRecDepth 100000 in
theorem NQ {n:Nat} {cs:List AV} (h:Sh Tryz.prog n 22 cs):∃l:Tb,cs=[.sl l.length (bY l)]/\Rj l:=by
 cases n with
 |zero=>exact h.elim
 |succ n=>
  simp only[Sh,underlying22]at h
  obtain⟨rows,e,_,hr⟩:=h
  have key:∀rows:List (List AV),(∀r∈rows,Sh Tryz.prog n 43 r/\r.length=Tryz.prog.cellsOf 43)-> ∃l:Tb,rows.length=l.length/\rows.flatten=bY l/\Rj l:=by
   intro rows
   induction rows with
   |nil=>intro _;exact⟨[],rfl,rfl,fun x hx=>by cases hx⟩
   |cons r rows ihr=>
    intro hr;obtain⟨l,k1,k2,k3⟩:=ihr (fun r hm=>hr r (by simp[hm]));obtain⟨p,k4,k5,k6⟩:=wT (hr r (by simp)).1;refine⟨p::l,by simp[k1],by rw[List.flatten_cons,k2,k4];rfl,fun y hy=>?_⟩;rcases List.mem_cons.1 hy with rfl|hy
    ·exact⟨k5,k6⟩
    ·exact k3 y hy
  obtain⟨l,k1,k2,k3⟩:=key rows hr;exact⟨l,by rw[e,k1,k2],k3⟩
set_option maxRecDepth 100000 in
theorem zS {H:Type} {enc:TypeId × Value->H} {W:World} {r:Reach} {b0:Nat} {v:Value} {d:DataW H} {p:List MemPlace} (hv:Value.okWide Tryz.prog W r b0 43 v) (h:DataW.Trod enc Tryz.prog W 0 (fun _=>true) true 43 v d p):
 ∃q:Pm,DV.M (fun _=>False) W (sv q) v/\q.1.length<=9223372036854775807/\jN q.2:=by
 obtain⟨n,cs,h1,h2⟩:=xu tX (by decide) underlying43 hv h;obtain⟨q,rfl,h3⟩:=wT h2;exact⟨q,h1,h3⟩
set_option maxRecDepth 100000 in
theorem Fu {H:Type} {enc:TypeId × Value->H} {W:World} {r:Reach} {b0:Nat} {v:Value} {d:DataW H} {p:List MemPlace} (hv:Value.okWide Tryz.prog W r b0 22 v) (h:DataW.Trod enc Tryz.prog W 0 (fun _=>true) true 22 v d p):
 ∃l:Tb,DV.M (fun _=>False) W (bX l) v/\Rj l:=by
 obtain⟨A,n,c,rfl⟩:=okWide_slice underlying22 hv;obtain⟨n,cs,h1,h2⟩:=C8 tX (by decide) h;obtain⟨l,rfl,h3⟩:=NQ h2;exact⟨l,h1.2 0 _ _ rfl rfl,h3⟩
end
theorem JA {P:Program} {f:FuncId} {l:Tb} {ds:List DV} {r:RV} (hent:∀args w,(callFunc f args).run P w= .ok (.enter f args) w) (h:l.length<=9223372036854775807->aa P f (bX l::ds) r):aa P f (bX l::ds) r:=
 ⟨hent,fun S w vs hS hv=>by
  match vs,hv with
  |v::vs,⟨h1,h2⟩=>
   have hl:l.length<=9223372036854775807:=by
    have h1:AV.M S w (.sl l.length (bY l)) v:=h1;generalize bY l=cs at h1;generalize l.length=m at h1 ⊢;cases h1 with
    |emp a b _=>omega
    |sl f a b _ _ _ _=>omega
   exact(h hl).calls S w _ hS ⟨h1,h2⟩⟩
theorem BR {l:Tb} (hw:Rj l) (h:Fk l=true):mg l/\l.length<=220/\((bI l).2=0->IF l):=by
 obtain⟨h1,_,h3,h4⟩:=Jb (fun p hp=>(hw p hp).2) h;refine⟨h1,by omega,fun h0=>?_⟩;rcases h4 with h4|h4
 ·exact IF.of h1 h3 h4 h0
 ·exfalso
  unfold bI ie at h0;rw[if_pos h4.1,if_neg (by decide)]at h0;cases h0
theorem JC {p:Pm} (hp:p.1.length<=9223372036854775807/\jN p.2) (h:Fk [p]=true):p.1.length<=60/\pA p.2:=
 (BR (l:=[p]) (fun q hq=>by rw[List.mem_singleton.1 hq];exact hp) h).1 p (by simp)
theorem GP {l:Tb} {n x:L8} (h:x∈lj l n):wR l n x:=by
 unfold lj at h
 split at h
 ·exact mX.1 h
 ·cases h
theorem Gz (l:Tb) (n:L8):(lj l n).length<=l.length:=by
 have hnd:(lj l n).Nodup:=by
  unfold lj
  split
  ·exact List.nodup_iff_pairwise_ne.2 ((pL l n).imp fun {a b} hab e=>by rw[e,gQ]at hab;cases hab)
  ·exact List.nodup_nil
 have:=gD (b:=l.map (·.1)) hnd fun x hx=>by
  obtain⟨p,hp,e⟩:=(GP hx).mem;exact List.mem_map.2 ⟨p,hp,e⟩
 simpa using this
end Go.Proofs.YtmkggcjajcdlcaaGreatDoor
