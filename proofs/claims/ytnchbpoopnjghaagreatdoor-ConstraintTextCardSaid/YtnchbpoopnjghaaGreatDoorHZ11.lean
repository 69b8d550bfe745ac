/- Parts of a proof: contracts of the functions that the laws reach. -/
import Derived.Test.YtnchbpoopnjghaaGreatDoorHZ10
set_option maxHeartbeats 100000000
set_option linter.all false
open Go.Proofs.Tryz
namespace Go.Proofs.YtnchbpoopnjghaaGreatDoor
open Go.RowKit
def rT (m z:Int):Bool:=decide (0<=z) && decide (z<m)
def Qi:List Int->Bool
 | [p,q,r,s]=>!decide (p=q) && (!decide (r=s) && (!(decide (p=r) && decide (q=s)) && !(decide (p=s) && decide (q=r))))
 |_=>false
def xm (b:Bool) (s:Int):Bool:=if b=true then decide (s=1) || decide (s= -1)else decide (s=0)
def De (c:Cn) (P Q:Int):Bool:=match pL c.k with
 |none=>false
 |some r=>(decide ((c.ps.length:Int)=r.p) && c.ps.all (rT P)) && ((decide ((c.cs.length:Int)=r.c) && c.cs.all (rT Q)) && (decide ((c.vs.length:Int)=r.n) && (c.vs.all (fun x=>decide (iI x=0)) && (xm r.s c.s &&
  (if 5<=c.k/\c.k<=8 then Qi c.ps else decide c.ps.Nodup && decide c.cs.Nodup)))))
theorem mn {c:Cn} {r:Kd} (h:pL c.k=some r) (P Q:Int):De c P Q=((decide ((c.ps.length:Int)=r.p) && c.ps.all (rT P)) && ((decide ((c.cs.length:Int)=r.c) && c.cs.all (rT Q)) && (decide ((c.vs.length:Int)=r.n) && (c.vs.all (fun x=>decide (iI x=0)) && (xm r.s c.s &&
 (if 5<=c.k/\c.k<=8 then Qi c.ps else decide c.ps.Nodup && decide c.cs.Nodup)))))):=by unfold De;rw[h]
theorem ti {c:Cn} (h:pL c.k=none) (P Q:Int):De c P Q=false:=by unfold De;rw[h]
def f9 (k:Int):List UInt8:=if k=17 then [111,117,116,115,105,100,101]else [108,101,102,116]
def gw (k:Int):List UInt8:=if k=17 then [105,110,115,105,100,101]else [114,105,103,104,116]
def lz (z:Int):List UInt8:=112::fmt z
def og (z:Int):List UInt8:=99::fmt z
def oN (c:Cn):List (List UInt8):=if c.s=1 then [f9 c.k]else if c.s= -1 then [gw c.k]else []
def xJ (r:Kd) (c:Cn):List (List UInt8):=r.nm::(c.ps.map lz++c.cs.map og++oN c)
def xl (ts:List (List UInt8)):List UInt8:=if ts=[]then []else [32,61,32]++Lib.join ts [44,32]
def pD (r:Kd) (c:Cn) (ts:List (List UInt8)):List UInt8:=Lib.join (xJ r c) [32]++xl ts
def mj (x:UInt8) (w:List UInt8):Option Int:=match w with
 | []=>none
 |c::t=>if c=x then(match Lib.atoiAll t with| .ok v=>some v|_=>none)else none
def sS (k:Int) (c:Cn) (w:List UInt8):Cn:=match mj 112 w with
 |some n=>{ c with ps:=c.ps++[n] }
 |none=>match mj 99 w with
  |some n=>{ c with cs:=c.cs++[n] }
  |none=>if w=f9 k then { c with s:=1 }else if w=gw k then { c with s:= -1 }else c
def RO:Nat->List UInt8->Int
 |n,[]=>n
 |n,c::r=>if dt c=false∨1000<n then -1 else RO (10*n+dv c) r
def KR (c:Cn) (w:List UInt8):Cn:=if w=f9 0∨w=f9 17 then { c with s:=1 }else if w=gw 0∨w=gw 17 then { c with s:= -1 }else match w with
 | []=>c
 |x::t=>if x=112 then { c with ps:=c.ps++[RO 0 t] }else if x=99 then { c with cs:=c.cs++[RO 0 t] }else c
def II (k:Int):Cn:=⟨k,[],[],[],0⟩
def Vp:List (List UInt8)->Cn
 | []=>II 0
 |n::r=>r.foldl (sS (tB n)) (II (tB n))
def UH:List (List UInt8)->Cn
 | []=>II 0
 |n::r=>r.foldl KR (II (tB n))
theorem wZ:∀(l:List UInt8) (a:Nat),a<=l.foldl (fun a c=>10*a+dv c) a
 | [],_=>Nat.le_refl _
 |c::l,a=>by have:=wZ l (10*a+dv c);simp only[List.foldl_cons];omega
theorem Co:∀(l:List UInt8) (a:Nat),(∀c∈l,eg c)->l.foldl (fun a c=>10*a+dv c) a<1000->Lib.parseUint10 a l= .ok (l.foldl (fun a c=>10*a+dv c) a)
 | [],_,_,_=>rfl
 |c::l,a,hd,h=>by
  have hc:=hd c (by simp);have h1:=wZ l (10*a+dv c)
  simp only[List.foldl_cons]at h ⊢
  have e:a*10+(c.toNat-48)=10*a+dv c:=by unfold dv;omega
  have hc':48<=c.toNat/\c.toNat<=57:=hc;rw[Lib.parseUint10,if_pos hc',if_neg (by omega),e,if_neg (by omega)];exact Co l _ (fun x hx=>hd x (by simp[hx])) h
theorem Dw:∀(l:List UInt8) (a:Nat),(∀c∈l,eg c)->l.foldl (fun a c=>10*a+dv c) a<1000->RO a l=(l.foldl (fun a c=>10*a+dv c) a:Nat)
 | [],_,_,_=>rfl
 |c::l,a,hd,h=>by
  have hc:=mS.2 (hd c (by simp));have h1:=wZ l (10*a+dv c)
  simp only[List.foldl_cons]at h ⊢
  rw[RO,if_neg (by rw[hc];simp;omega)];exact Dw l _ (fun x hx=>hd x (by simp[hx])) h
theorem oD {z:Int} (h0:0<=z) (h1:z<200):Lib.atoiAll (fmt z)= .ok z/\RO 0 (fmt z)=z:=by
 obtain⟨n,rfl⟩:=Int.eq_ofNat_of_zero_le h0;rw[qe];have hd:=mN n;have hn:=zq n;have hne:=(Ee n).1;generalize i7 n=u at *;unfold num at hn;refine⟨?_,by rw[Dw u 0 hd (by omega),hn]⟩;cases u with
 |nil=>exact absurd rfl hne
 |cons c r=>
  have hc:=hd c (by simp);unfold eg at hc;have hp:=Co (c::r) 0 hd (by omega);rw[hn]at hp;unfold Lib.atoiAll
  simp only
  rw[if_neg (by omega)];unfold Lib.parseMag;rw[if_neg (by simp),hp]
  simp only
  rw[if_neg (by omega),if_neg (by omega),if_neg (by omega)]
theorem yp {x:UInt8} {z:Int} (h0:0<=z) (h1:z<200):mj x (x::fmt z)=some z:=by
 unfold mj
 simp only[if_true]
 rw[(oD h0 h1).1]
theorem iG {x y:UInt8} (t:List UInt8) (h:y≠x):mj x (y::t)=none:=by
 unfold mj
 simp only[if_neg h]
theorem yg (k:Int):∀(l:List Int) (c:Cn),(∀z∈l,0<=z/\z<200)->(l.map lz).foldl (sS k) c={ c with ps:=c.ps++l }
 | [],c,_=>by simp
 |z::l,c,h=>by
  have hz:=h z (by simp);rw[List.map_cons,List.foldl_cons,yg k l _ fun y hy=>h y (by simp[hy])];unfold sS lz;rw[yp hz.1 hz.2]
  simp
theorem xT (k:Int):∀(l:List Int) (c:Cn),(∀z∈l,0<=z/\z<200)->(l.map og).foldl (sS k) c={ c with cs:=c.cs++l }
 | [],c,_=>by simp
 |z::l,c,h=>by
  have hz:=h z (by simp);rw[List.map_cons,List.foldl_cons,xT k l _ fun y hy=>h y (by simp[hy])];unfold sS og;rw[iG _ (by decide),yp hz.1 hz.2]
  simp
theorem Qz {z:Int} (c:Cn) (h:0<=z/\z<200):KR c (lz z)={ c with ps:=c.ps++[z] }:=by
 have hne:∀(a b:List UInt8),(112:UInt8)::a≠108::b/\(112:UInt8)::a≠111::b/\(112:UInt8)::a≠114::b/\(112:UInt8)::a≠105::b:=fun a b=>by simp
 unfold KR lz;rw[if_neg (by simp[f9]),if_neg (by simp[gw])]
 simp only[if_true]
 rw[(oD h.1 h.2).2]
theorem QE {z:Int} (c:Cn) (h:0<=z/\z<200):KR c (og z)={ c with cs:=c.cs++[z] }:=by
 unfold KR og;rw[if_neg (by simp[f9]),if_neg (by simp[gw])]
 simp only
 rw[if_neg (by decide),if_pos trivial,(oD h.1 h.2).2]
theorem yZ:∀(l:List Int) (c:Cn),(∀z∈l,0<=z/\z<200)->(l.map lz).foldl KR c={ c with ps:=c.ps++l }
 | [],c,_=>by simp
 |z::l,c,h=>by
  rw[List.map_cons,List.foldl_cons,yZ l _ fun y hy=>h y (by simp[hy]),Qz _ (h z (by simp))]
  simp
theorem ya:∀(l:List Int) (c:Cn),(∀z∈l,0<=z/\z<200)->(l.map og).foldl KR c={ c with cs:=c.cs++l }
 | [],c,_=>by simp
 |z::l,c,h=>by
  rw[List.map_cons,List.foldl_cons,ya l _ fun y hy=>h y (by simp[hy]),QE _ (h z (by simp))]
  simp
theorem Ej:mZ.length=17:=rfl
theorem Qv:(mZ.all fun r=>decide ((32:UInt8) ∉ r.nm) && decide ((61:UInt8) ∉ r.nm))=true:=by decide
theorem Gz:((List.range 17).all fun i=>decide (((mZ[i]?).map fun r=>tB r.nm)=some ((i:Int)+1)))=true:=by decide
theorem nz {k:Int} {r:Kd} (h:pL k=some r):1<=k/\k<=17/\mZ[k.toNat-1]? =some r:=by
 unfold pL at h
 split at h
 ·rename_i hk;exact⟨hk.1,hk.2,h⟩
 ·cases h
theorem AB {k:Int} {r:Kd} (h:pL k=some r):tB r.nm=k/\(32:UInt8) ∉ r.nm/\(61:UInt8) ∉ r.nm:=by
 obtain⟨h1,h2,h3⟩:=nz h;have hm:=List.all_eq_true.1 Qv r (List.mem_of_getElem? h3);have hn:=List.all_eq_true.1 Gz (k.toNat-1) (List.mem_range.2 (by omega));rw[h3]at hn
 simp only[Bool.and_eq_true,decide_eq_true_eq]at hm
 simp only[Option.map_some,decide_eq_true_eq,Option.some.injEq]at hn
 exact⟨by omega,hm⟩
structure IJ (d:Cn) (r:Kd) (P Q:Int):Prop where
 k:pL d.k=some r
 pl:(d.ps.length:Int)=r.p
 p:∀z∈d.ps,0<=z/\z<P
 cl:(d.cs.length:Int)=r.c
 c:∀z∈d.cs,0<=z/\z<Q
 vl:(d.vs.length:Int)=r.n
 v:∀x∈d.vs,iI x=0
 s:xm r.s d.s=true
 e:(if 5<=d.k/\d.k<=8 then Qi d.ps else decide d.ps.Nodup && decide d.cs.Nodup)=true
theorem vZ {c:Cn} {P Q:Int}:De c P Q=true↔ ∃r,IJ c r P Q:=by
 cases hk:pL c.k with
 |none=>exact⟨fun h=>(by rw[ti hk]at h;cases h),fun⟨r,h⟩=>(by rw[h.k]at hk;cases hk)⟩
 |some r=>
  rw[mn hk]
  simp only[Bool.and_eq_true,List.all_eq_true,rT]
  exact⟨fun⟨⟨h1,h2⟩,⟨h3,h4⟩,h5,h6,h7,h8⟩=>⟨r,hk,of_decide_eq_true h1,fun z hz=>⟨of_decide_eq_true (h2 z hz).1,of_decide_eq_true (h2 z hz).2⟩,of_decide_eq_true h3,fun z hz=>⟨of_decide_eq_true (h4 z hz).1,of_decide_eq_true (h4 z hz).2⟩,of_decide_eq_true h5,fun x hx=>of_decide_eq_true (h6 x hx),h7,h8⟩,fun⟨r',h⟩=>by
   have:=h.k;rw[hk]at this;cases this;exact⟨⟨decide_eq_true h.pl,fun z hz=>⟨decide_eq_true (h.p z hz).1,decide_eq_true (h.p z hz).2⟩⟩,⟨decide_eq_true h.cl,fun z hz=>⟨decide_eq_true (h.c z hz).1,decide_eq_true (h.c z hz).2⟩⟩,decide_eq_true h.vl,fun x hx=>decide_eq_true (h.v x hx),h.s,h.e⟩⟩
theorem vk {b:Bool} {s:Int} (h:xm b s=true):s=1∨s= -1∨s=0:=by
 unfold xm at h
 split at h
 ·simp at h;omega
 ·simp at h;omega
theorem St (c:Cn) (h:c.s=1∨c.s= -1∨c.s=0) (d:Cn) (hd:d.s=0):(oN c).foldl (sS c.k) d={ d with s:=c.s }:=by
 have h1:∀k,mj 112 (f9 k)=none/\mj 99 (f9 k)=none/\mj 112 (gw k)=none/\mj 99 (gw k)=none/\gw k≠f9 k:=fun k=>by
  unfold f9 gw
  split <;>refine⟨iG _ (by decide),iG _ (by decide),iG _ (by decide),iG _ (by decide),by decide⟩
 obtain⟨a1,a2,a3,a4,a5⟩:=h1 c.k;unfold oN;rcases h with h|h|h
 ·rw[if_pos h]
  simp only[List.foldl_cons,List.foldl_nil,sS,a1,a2,if_true,h]
 ·rw[if_neg (by omega),if_pos h]
  simp only[List.foldl_cons,List.foldl_nil,sS,a3,a4,if_neg a5,if_true,h]
 ·rw[if_neg (by omega),if_neg (by omega),List.foldl_nil,h,<- hd]
theorem So (c:Cn) (h:c.s=1∨c.s= -1∨c.s=0) (d:Cn) (hd:d.s=0):(oN c).foldl KR d={ d with s:=c.s }:=by
 have h1:∀k,(f9 k=f9 0∨f9 k=f9 17)/\ ¬(gw k=f9 0∨gw k=f9 17)/\(gw k=gw 0∨gw k=gw 17):=fun k=>by
  unfold f9 gw
  by_cases hk:k=17
  ·subst hk;decide
  ·simp only[if_neg hk];decide
 obtain⟨a1,a2,a3⟩:=h1 c.k;unfold oN;rcases h with h|h|h
 ·rw[if_pos h]
  simp only[List.foldl_cons,List.foldl_nil,KR,if_pos a1,h]
 ·rw[if_neg (by omega),if_pos h]
  simp only[List.foldl_cons,List.foldl_nil,KR,if_neg a2,if_pos a3,h]
 ·rw[if_neg (by omega),if_neg (by omega),List.foldl_nil,h,<- hd]
theorem DL {c:Cn} {r:Kd} (h:IJ c r 200 200):Vp (xJ r c)={ c with vs:=[] }/\UH (xJ r c)={ c with vs:=[] }:=by
 have hk:=(AB h.k).1;have hs:=vk h.s;unfold xJ Vp UH
 simp only[hk,List.foldl_append]
 rw[yg _ _ _ h.p,xT _ _ _ h.c,St c hs _ rfl,yZ _ _ h.p,ya _ _ h.c,So c hs _ rfl]
 simp[II]
theorem Iu {z:Int} (h:0<=z) {x:UInt8} (hx:¬eg x):x ∉ fmt z:=by
 obtain⟨n,rfl⟩:=Int.eq_ofNat_of_zero_le h;rw[qe];exact Me n hx
theorem Ko {c:Cn} {r:Kd} (h:IJ c r 200 200) {x:UInt8} (hx:x=32∨x=61):∀w∈xJ r c,x ∉ w:=by
 have hn:=(AB h.k).2;have hd:¬eg x:=by rcases hx with rfl|rfl <;>decide
 intro w hw;unfold xJ at hw;rcases List.mem_cons.1 hw with rfl|hw
 ·rcases hx with rfl|rfl
  ·exact hn.1
  ·exact hn.2
 rcases List.mem_append.1 hw with hw|hw
 ·rcases List.mem_append.1 hw with hw|hw
  ·obtain⟨z,hz,rfl⟩:=List.mem_map.1 hw
   intro hm;rcases List.mem_cons.1 hm with rfl|hm
   ·rcases hx with hx|hx<;>cases hx
   ·exact Iu (h.p z hz).1 hd hm
  ·obtain⟨z,hz,rfl⟩:=List.mem_map.1 hw
   intro hm;rcases List.mem_cons.1 hm with rfl|hm
   ·rcases hx with hx|hx<;>cases hx
   ·exact Iu (h.c z hz).1 hd hm
 ·unfold oN f9 gw at hw
  rcases hx with rfl|rfl
  all_goals
   split at hw
   ·rw[List.mem_singleton.1 hw];split <;>decide
   ·split at hw
    ·rw[List.mem_singleton.1 hw];split <;>decide
    ·cases hw
theorem Cu {x:UInt8} {b:List UInt8} (hb:x ∉ b):∀(l:List (List UInt8)),(∀y∈l,x ∉ y)->x ∉ Lib.join l b
 | [],_=>by rw[Lib.join_nil];exact fun h=>by cases h
 | [y],h=>by rw[Lib.join_one];exact h y (by simp)
 |y::z::r,h=>by
  rw[gu,List.mem_append,List.mem_append,not_or,not_or];exact⟨h y (by simp),hb,Cu hb (z::r) fun w hw=>h w (by simp[List.mem_cons.1 hw])⟩
theorem CL {c:Cn} {r:Kd} (h:IJ c r 200 200) (ts:List (List UInt8)):Lib.cut (pD r c ts) [32,61,32]=(Lib.join (xJ r c) [32],Lib.join ts [44,32],!decide (ts=[])):=by
 have hj:=Cu (b:=[32]) (by decide) (xJ r c) (Ko h (.inr rfl));unfold pD xl
 by_cases ht:ts=[]
 ·subst ht
  rw[if_pos rfl,List.append_nil,LY hj];rfl
 ·rw[if_neg ht,Vj hj,decide_eq_false ht]
  rfl
theorem oF {c:Cn} {r:Kd} (h:IJ c r 200 200):Lib.split (Lib.join (xJ r c) [32]) [32]=xJ r c:=mh _ (by unfold xJ;simp) (Ko h (.inl rfl))
theorem xu {ts:List (List UInt8)} (h0:ts≠[]) (h:∀t∈ts,(44:UInt8) ∉ t):Lib.split (Lib.join ts [44,32]) [44,32]=ts:=mh _ h0 h
theorem PI {s:List UInt8} (h:kh s=true):(44:UInt8) ∉ s:=by
 have hs:bQ ir s=s.length:=by
  cases s with
  |nil=>cases h
  |cons c r=>simp only[kh,Bool.and_eq_true,decide_eq_true_eq]at h;exact h.2.2
 intro hm;have:=uE hs 44 hm
 revert this
 decide
theorem TH {t:List UInt8} (h:Rz t):(44:UInt8) ∉ t:=by
 have hd:¬eg (44:UInt8):=by decide
 obtain⟨a,ha,hb⟩:=h;have h1:(44:UInt8) ∉ a:=fun hm=>hd (ha.2.1 _ hm)
 rcases hb with rfl| ⟨b,_,hb,rfl⟩
 ·exact h1
 ·rw[List.mem_append,List.mem_cons]
  rintro(hm|hm|hm)
  ·exact h1 hm
  ·cases hm
  ·exact hd (hb _ hm)
theorem vr {lv n:Nat} {t:List UInt8} (h:(44:UInt8) ∉ t):(44:UInt8) ∉ fS lv n t:=by
 unfold fS
 split
 ·simp only[List.mem_append,List.mem_singleton]
  rintro((hm|hm)|hm)
  ·cases hm
  ·exact h hm
  ·cases hm
 ·exact h
theorem se:∀(e:Ex),f4 e-> ∀n,(44:UInt8) ∉ aH e n
 | .num v u,h,n=>by
  obtain⟨h1,_,h3⟩:=h;obtain⟨t,ht⟩:=Option.isSome_iff_exists.1 h1;have e1:aH (.num v u) n=fS 4 n (t++el u):=by show fS 4 n (tW v++el u)=_;rw[tW,ht];rfl
  rw[e1];refine vr ?_;rw[List.mem_append,not_or];refine⟨TH (jf ht).1,?_⟩;unfold el;rcases h3 with rfl|h3
  ·simp
  ·have:=PI h3
   split
   ·simp
   ·simp only[List.mem_cons,not_or];exact⟨by decide,this⟩
 | .nam s,h,n=>vr (PI h)
 | .neg a,h,n=>by
  show(44:UInt8) ∉ fS 3 n ([45]++aH a 3);refine vr ?_
  simp only[List.mem_append,List.mem_singleton,not_or]
  exact⟨by decide,se a h 3⟩
 | .bin k a b,h,n=>by
  show(44:UInt8) ∉ fS (bO k) n (aH a (bO k)++f8 k++aH b (bO k+1));refine vr ?_
  simp only[List.mem_append,not_or]
  exact⟨⟨se a h.1 _,by cases k<;>decide⟩,se b h.2 _⟩
abbrev PF:=List UInt8->Except (Nat × Int) Ex
def jE (pf:PF):List (List UInt8)->Option (List Ex)
 | []=>some []
 |t::r=>match pf t with
  | .ok e=>(jE pf r).map (e:: ·)
  | .error _=>none
def P0 (pf:PF) (s:List UInt8):Option (Cn × List Ex):=
 (if(Lib.cut s [32,61,32]).2.1=[]then some []else jE pf (Lib.split (Lib.cut s [32,61,32]).2.1 [44,32])).map fun es=>
  ({ Vp (Lib.split (Lib.cut s [32,61,32]).1 [32])with vs:=es.map rx },es)
def UX (pf:PF) (t:List UInt8):Rx:=match pf t with
 | .ok e=>rx e
 | .error _=>z7
def Sq (pf:PF) (s:List UInt8):Cn:={ UH (Lib.split (Lib.cut s [32,61,32]).1 [32])with vs:=if(Lib.cut s [32,61,32]).2.2=true then(Lib.split (Lib.cut s [32,61,32]).2.1 [44,32]).map (UX pf)else [] }
theorem v8 {lv n:Nat} {t:List UInt8} (h:t≠[]):fS lv n t≠[]:=by
 unfold fS
 split
 ·simp
 ·exact h
theorem Kc:∀(e:Ex),f4 e-> ∀n,aH e n≠[]
 | .num v u,h,n=>by
  obtain⟨t,ht⟩:=Option.isSome_iff_exists.1 h.1;have e1:aH (.num v u) n=fS 4 n (t++el u):=by show fS 4 n (tW v++el u)=_;rw[tW,ht];rfl
  rw[e1];have:=qh ht;exact v8 (by simp[this])
 | .nam s,h,n=>v8 fun e=>by
  have h:kh s=true:=h;rw[e]at h;cases h
 | .neg a,h,n=>by
  show fS 3 n ([45]++aH a 3)≠[];exact v8 (by simp)
 | .bin k a b,h,n=>by
  show fS (bO k) n (aH a (bO k)++f8 k++aH b (bO k+1))≠[];exact v8 (by simp[Kc a h.1 _])
theorem MA {b:List UInt8}:∀(l:List (List UInt8)),l≠[]->(∀y∈l,y≠[])->Lib.join l b≠[]
 | [],h,_=>absurd rfl h
 | [y],_,h=>by rw[Lib.join_one];exact h y (by simp)
 |y::z::r,_,h=>by rw[gu];simp[h y (by simp)]
theorem D3 {pf:PF}:∀(es:List Ex),(∀e∈es,pf (aH e 0)= .ok e)->jE pf (es.map fun e=>aH e 0)=some es
 | [],_=>rfl
 |e::r,h=>by
  rw[List.map_cons,jE,h e (by simp),D3 r fun x hx=>h x (by simp[hx])];rfl
theorem Fe {pf:PF} {c:Cn} {r:Kd} (h:IJ c r 200 200) {es:List Ex} (hv:c.vs=es.map rx) (hf:∀e∈es,f4 e) (hp:∀e∈es,pf (aH e 0)= .ok e):
 P0 pf (pD r c (es.map fun e=>aH e 0))=some (c,es)/\Sq pf (pD r c (es.map fun e=>aH e 0))=c:=by
 have hc:=CL h (es.map fun e=>aH e 0);have hb:=DL h;unfold P0 Sq;rw[hc]
 simp only
 rw[oF h,hb.1,hb.2]
 by_cases he:es=[]
 ·subst he
  simp only[List.map_nil,Lib.join_nil,if_true,Option.map_some,decide_true,Bool.not_true,Bool.false_eq_true,if_false]
  rw[show([]:List Rx)=c.vs from by rw[hv];rfl];exact⟨rfl,rfl⟩
 ·have hne:(es.map fun e=>aH e 0)≠[]:=by simpa using he
  have hj:=MA (b:=[44,32]) _ hne fun y hy=>by
   obtain⟨e,hm,rfl⟩:=List.mem_map.1 hy;exact Kc e (hf e hm) 0
  rw[if_neg hj,xu hne fun t ht=>by
   obtain⟨e,hm,rfl⟩:=List.mem_map.1 ht;exact se e (hf e hm) 0,D3 es hp]
  simp only[Option.map_some,hne,decide_false,Bool.not_false,if_true]
  have e2:((es.map fun e=>aH e 0).map (UX pf))=es.map rx:=by
   rw[List.map_map];exact List.map_congr_left fun e he=>by simp only[Function.comp,UX,hp e he]
  rw[e2,<- hv];exact⟨rfl,rfl⟩
section
variable {P:Program} {T:TypeId->Option Ty} {n:Nat} {ops:Array Oper} {id:Nat} {draw:Bool} {K:AS->Prop} {s:AS} {k:Nat} {o:Oper} {os:List Oper} {fps:List FP}
theorem I8 {t e:TypeId} {x y:Operand} {m i q:Nat} {ik:IntKind} {cs cs':List AV} (hcs:∀(j:Nat) (a:AV),cs'[j]? =some a->cs[i*q+j]? =some a) (hu:P.underlying t=some (.array m e)) (hs:(P.info? e).map (·.size)=some q) (hi:i<m) (h1:gd ops s o=some true) (ho:o.op= .indexAddr t x y) (hx:s.ev x= .rp cs) (hy:s.ev y= .d (.leaf (.val (.int ik (i:Nat)))))
 (h3:aL n o.dst=true) (h4:fh draw ops (aB ops o ⟨.rp cs',none⟩ []) k fps=true) (h:au P T n ops id draw K (k+1) os (s.eff o.dst ⟨.rp cs',none⟩) (aB ops o ⟨.rp cs',none⟩ []::fps)):au P T n ops id draw K k (o::os) s fps:=
 .run h1 (.gen fun s2 ht _=>am (tv:= .rp cs') fun n S0 w0 g a w hM=>by
  have hx2:=(ax ht (x:=x) (by simp[ho,Op.operands])).trans hx;have hy2:=(ax ht (x:=y) (by simp[ho,Op.operands])).trans hy;have h:=hM.ev x;rw[hx2]at h;obtain⟨b,off,f,e1,h1,h2,h3,h4⟩:=h;refine⟨.pointer (some ⟨b,off+i*q,none⟩),w,?_,Below.refl _ _,b,off+i*q,fun j=>f (i*q+j),rfl,h1,h2,fun j c hq=>?_,fun j c hq=>?_⟩
  ·refine Du ?_
   have e2:(0:Int)<=i/\(i:Int)<m:=by omega
   simp only[e2,and_self,if_true,Sem.run_bind,bE hs w,Result.andThen_ok,Sem.run_pure,b7,Int.toNat_natCast]
  ·rw[Nat.add_assoc];exact h3 (i*q+j) c (hcs j c hq)
  ·exact h4 (i*q+j) c (hcs j c hq)) h3 h4 h
end
abbrev L8:=List UInt8
theorem C8 (x y:L8):decide (x<=y)=!Op.bytesLess y x:=by
 rw[bytesLess_eq];show decide (¬y<x)=_;rw[decide_not]
def xI (l:List L8):Prop:=l.Pairwise fun a b=>Op.bytesLess a b=true
theorem DI:∀{a b:List L8},xI a->xI b->(∀x,x∈a↔x∈b)->a=b
 | [],[],_,_,_=>rfl
 | [],y::b,_,_,h=>absurd ((h y).2 (by simp)) (by simp)
 |x::a,[],_,_,h=>absurd ((h x).1 (by simp)) (by simp)
 |x::a,y::b,ha,hb,h=>by
  have ha:=List.pairwise_cons.1 ha;have hb:=List.pairwise_cons.1 hb
  have e:x=y:=by
   rcases List.mem_cons.1 ((h x).1 (by simp))with e|hx
   ·exact e
   ·rcases List.mem_cons.1 ((h y).2 (by simp))with e|hy
    ·exact e.symm
    ·have:=fc (ha.1 y hy) (hb.1 x hx)
     rw[jk]at this;cases this
  subst e
  congr 1
  refine DI ha.2 hb.2 fun z=>⟨fun hz=>?_,fun hz=>?_⟩
  ·rcases List.mem_cons.1 ((h z).1 (List.mem_cons_of_mem _ hz))with rfl|hz'
   ·have:=ha.1 z hz;rw[jk]at this;cases this
   ·exact hz'
  ·rcases List.mem_cons.1 ((h z).2 (List.mem_cons_of_mem _ hz))with rfl|hz'
   ·have:=hb.1 z hz;rw[jk]at this;cases this
   ·exact hz'
def mc:List L8->L8->List L8
 | [],x=>[x]
 |y::r,x=>if Op.bytesLess y x=true then y::mc r x else if y=x then y::r else x::y::r
theorem sA:∀{l:List L8} {x z:L8},z∈mc l x↔z=x∨z∈l
 | [],x,z=>by simp[mc]
 |y::r,x,z=>by
  have ih:=sA (l:=r) (x:=x) (z:=z);unfold mc
  split
  ·simp only[List.mem_cons,ih]
   constructor
   ·rintro(h|h|h)
    ·exact .inr (.inl h)
    ·exact .inl h
    ·exact .inr (.inr h)
   ·rintro(h|h|h)
    ·exact .inr (.inl h)
    ·exact .inl h
    ·exact .inr (.inr h)
  ·split
   ·rename_i e
    subst e
    simp only[List.mem_cons]
    constructor
    ·exact fun h=> .inr h
    ·rintro(h|h)
     ·exact .inl h
     ·exact h
   ·simp only[List.mem_cons]
theorem x4:∀{l:List L8} {x:L8},xI l->xI (mc l x)
 | [],x,_=>List.pairwise_singleton _ _
 |y::r,x,h=>by
  have h':=List.pairwise_cons.1 h;unfold mc
  split
  ·rename_i hy
   refine List.pairwise_cons.2 ⟨fun z hz=>?_,x4 h'.2⟩;rcases sA.1 hz with rfl|hz
   ·exact hy
   ·exact h'.1 z hz
  ·split
   ·exact h
   ·rename_i h1 h2
    have hxy:Op.bytesLess x y=true:=by
     cases hb:Op.bytesLess x y
     ·exact absurd (oK (by simpa using h1) hb) h2
     ·rfl
    refine List.pairwise_cons.2 ⟨fun z hz=>?_,h⟩;rcases List.mem_cons.1 hz with rfl|hz
    ·exact hxy
    ·exact fc hxy (h'.1 z hz)
def ke (l:List L8):List L8:=l.foldl mc []
theorem oB:∀(l acc:List L8),xI acc->xI (l.foldl mc acc)/\ ∀z,z∈l.foldl mc acc↔z∈acc∨z∈l
 | [],acc,h=>⟨h,fun z=>by simp⟩
 |x::l,acc,h=>by
  obtain⟨h1,h2⟩:=oB l (mc acc x) (x4 h);refine⟨h1,fun z=>?_⟩;rw[List.foldl_cons,h2,sA,List.mem_cons]
  constructor
  ·rintro((h|h)|h)
   ·exact .inr (.inl h)
   ·exact .inl h
   ·exact .inr (.inr h)
  ·rintro(h|h|h)
   ·exact .inl (.inr h)
   ·exact .inl (.inl h)
   ·exact .inr h
theorem AA (l:List L8):xI (ke l):=(oB l [] List.Pairwise.nil).1
theorem gt (l:List L8) (z:L8):z∈ke l↔z∈l:=by
 rw[ke,(oB l [] List.Pairwise.nil).2]
 simp
theorem wY (l:List L8) (x:L8):Lib.compact (l++[x])=Lib.compact l++if l.getLast? =some x then []else [x]:=by
 unfold Lib.compact;have hlen:(l++[x]).length=l.length+1:=by simp
 rw[hlen,Lib.compactUpTo_succ]
 have hg:∀j,j<l.length->(l++[x]).toArray[j]! =l.toArray[j]!:=fun j hj=>by
  rw[getElem!_pos _ j (by simp;omega),getElem!_pos _ j (by simpa using hj)]
  simp[List.getElem_append_left hj]
 congr 1
 ·unfold Lib.compactUpTo
  have hk:∀j∈List.range l.length,Lib.keeps (l++[x]).toArray j=Lib.keeps l.toArray j:=fun j hj=>by
   have hj:=List.mem_range.1 hj;unfold Lib.keeps;rw[hg j hj];cases j with
   |zero=>simp
   |succ j=>rw[show j+1-1=j from rfl,hg j (by omega)]
  rw[List.filter_congr hk];refine List.map_congr_left fun j hj=>?_
  exact hg j (List.mem_range.1 (List.mem_filter.1 hj).1)
 ·have hx:(l++[x]).toArray[l.length]! =x:=by
   rw[getElem!_pos _ _ (by simp)]
   simp
  rw[hx]
  by_cases h0:l=[]
  ·subst h0
   rfl
  ·have hp:0<l.length:=List.length_pos_iff.2 h0
   have hlast:l.getLast? =some ((l++[x]).toArray[l.length-1]!):=by
    rw[hg _ (by omega),getElem!_pos _ _ (by simpa using by omega),List.getLast?_eq_getElem?]
    simp[hp]
   rw[hlast];unfold Lib.keeps;rw[hx]
   by_cases e:(l++[x]).toArray[l.length-1]! =x
   ·rw[if_neg,if_pos (by rw[e])]
    rw[decide_eq_true_eq];rintro(h|h)
    ·omega
    ·exact h e.symm
   ·rw[if_pos,if_neg (fun h=>e (Option.some.inj h))]
    rw[decide_eq_true_eq];exact .inr fun h=>e h.symm
theorem A0:∀(n:Nat) (l:List L8),l.length=n->l.Pairwise (fun a b=>Op.bytesLess b a=false)->xI (Lib.compact l)/\ ∀z,z∈Lib.compact l↔z∈l:=by
 intro n
 induction n with
 |zero=>
  intro l hl _;obtain rfl:=List.eq_nil_of_length_eq_zero hl;exact⟨List.Pairwise.nil,fun z=>Iff.rfl⟩
 |succ n ih=>
  intro l hl hp;obtain⟨l,x,rfl⟩:∃l' x,l=l'++[x]:=⟨l.dropLast,l.getLast (by intro e;rw[e]at hl;cases hl),(List.dropLast_concat_getLast _).symm⟩;have hl':l.length=n:=by simpa using hl
  obtain⟨hp1,_,hp2⟩:=List.pairwise_append.1 hp;obtain⟨h1,h2⟩:=ih l hl' hp1;rw[wY]
  by_cases e:l.getLast? =some x
  ·rw[if_pos e,List.append_nil]
   refine⟨h1,fun z=>?_⟩;rw[h2,List.mem_append,List.mem_singleton]
   constructor
   ·exact .inl
   ·rintro(h|rfl)
    ·exact h
    ·exact List.mem_of_getLast? e
  ·rw[if_neg e]
   refine⟨List.pairwise_append.2 ⟨h1,List.pairwise_singleton _ _,fun a ha b hb=>?_⟩,fun z=>?_⟩
   ·rw[List.mem_singleton.1 hb]
    have ha:=(h2 a).1 ha
    obtain⟨y,hy⟩:∃y,l.getLast? =some y:=by
     cases hl:l.getLast? with
     |none=>rw[List.getLast?_eq_none_iff.1 hl]at ha;cases ha
     |some y=>exact⟨y,rfl⟩
    have hyl:=List.mem_of_getLast? hy
    have hyx:Op.bytesLess y x=true:=by
     cases hb2:Op.bytesLess y x
     ·exact absurd (by rw[hy,oK hb2 (hp2 y hyl x (by simp))]) e
     ·rfl
    by_cases ey:a=y
    ·rw[ey];exact hyx
    ·have hay:Op.bytesLess y a=false:=by
      obtain⟨l2,rfl⟩:∃l2,l=l2++[y]:=by
       refine⟨l.dropLast,?_⟩;have:=List.getLast?_eq_some_iff.1 hy;obtain⟨ys,rfl⟩:=this
       simp
      rcases List.mem_append.1 ha with ha|ha
      ·exact(List.pairwise_append.1 hp1).2.2 a ha y (by simp)
      ·exact absurd (List.mem_singleton.1 ha) ey
     have hya:Op.bytesLess a y=true:=by
      cases hb3:Op.bytesLess a y
      ·exact absurd (oK hb3 hay) ey
      ·rfl
     exact fc hya hyx
   ·rw[List.mem_append,h2,List.mem_append]
theorem nC (l:List L8):Lib.compact (l.mergeSort fun x y=>decide (x<=y))=ke l:=by
 have hs:(l.mergeSort fun x y=>decide (x<=y)).Pairwise (fun a b=>Op.bytesLess b a=false):=by
  have:=List.pairwise_mergeSort (le:=fun x y:L8=>decide (x<=y)) (fun a b c h1 h2=>?_) (fun a b=>?_) l
  ·refine this.imp fun {a b} h=>?_
   rw[C8]at h
   simpa using h
  ·rw[C8]at h1 h2 ⊢
   simp only[Bool.not_eq_true']at h1 h2 ⊢
   cases hb:Op.bytesLess c a
   ·rfl
   ·cases h3:Op.bytesLess a b
    ·rw[oK h3 h1,h2]at hb;cases hb
    ·rw[fc hb h3]at h2;cases h2
  ·rw[C8,C8]
   cases h1:Op.bytesLess b a
   ·rfl
   ·cases h2:Op.bytesLess a b
    ·rfl
    ·have:=fc h1 h2;rw[jk]at this;cases this
 obtain⟨h1,h2⟩:=A0 _ _ rfl hs;refine DI h1 (AA l) fun z=>?_
 rw[h2,gt,(List.mergeSort_perm l _).mem_iff]
mutual
def oY:Rx->List L8
 | .mk op _ _ _ _ nm args=>ke ((if op=2 then [nm]else [])++fZ args)
def fZ:List Rx->List L8
 | []=>[]
 |y::r=>oY y++fZ r
end
theorem qq:∀l:List Rx,l.length<=dX l
 | []=>Nat.zero_le _
 |y::r=>by
  have:=qq r;cases y
  simp only[dX,fi,List.length_cons]
  omega
theorem FV {na nb:Bool} {xs ys:List Nat}:aa Tryz.prog 126 [Gb na xs nb ys] (.one (dB (oj na xs nb ys))):=by
 show aa Tryz.prog _ [.agg (Ab na xs nb ys)] _
 by_cases h1:xs.length=0
 ·by_cases h2:ys.length=0
  ·have e:oj na xs nb ys=(!na && !nb):=by unfold oj;rw[decide_eq_true h1,decide_eq_true h2];simp
   rw[e];cases na<;>cases nb
   all_goals
    refine kU func126 ?_;refine kR ?_;refine kI ?_
    refine kO4 ?_
    refine kT ?_
    refine kO5 ?_
    refine kT ?_;exact kF
  ·have e:oj na xs nb ys=false:=by unfold oj;rw[decide_eq_false h2];simp
   rw[e];refine kU func126 ?_;refine mH ?_;refine kT ?_
   refine kO5 ?_
   refine kE ?_;exact ap
 ·have e:oj na xs nb ys=false:=by unfold oj;rw[decide_eq_false h1];simp
  rw[e];refine kU func126 ?_;refine mH ?_;refine kE ?_;exact ap
theorem Na (args:List Rx):(args.any fun y=>!rF y)=!(args.all rF):=by
 rw[List.all_eq_not_any_not,Bool.not_not]
theorem wN:∀(x:Rx),ls x->BG x->fi x<=1000000->aa Tryz.prog 87 [dR x] (.one (dB (rF x))):=by
 refine ef fun op na xs nb ys nm args ih hx hlt hs=>?_
 obtain⟨_,_,hw,hw',hnm,hlen,hargs⟩:=hx;obtain⟨l1,l2,l3,hla⟩:=hlt;rw[fi]at hs;have hge:=qq args;obtain⟨t,hdec,_⟩:=FY (na:=na) (nb:=nb) hw hw' l1 l2;have hm:=fM nm (by omega);have hno:=FV (na:=na) (nb:=nb) (xs:=xs) (ys:=ys);have hcf:=ez (fid:=127) (p:=fun y=>!rF y) args (fun y hy=>f7 (ih y hy (hargs y hy) (hla y hy) (by have:=mU hy;omega))) (by omega) (Na args);rw[rF,mG];have hA0:args.length=0->args.all rF=true:=fun h=>by rw[List.eq_nil_of_length_eq_zero h];rfl
 refine Qe ?_;generalize args.all rF=A at *;generalize args.length=L at *;generalize(lR na xs nb ys).isSome=d at *;generalize oj na xs nb ys=p at *;generalize kh nm=m at *;have hdec:aa Tryz.prog 125 [.agg (Ab na xs nb ys)] (.tup [dL t,dB d]):=hdec;have hno:aa Tryz.prog 126 [.agg (Ab na xs nb ys)] (.one (dB p)):=hno
 by_cases o1:op=1
 ·subst o1
  by_cases hl:L=0
  ·rw[hA0 hl,Bool.and_true,qb,if_pos rfl,decide_eq_true hl,Bool.and_true]
   generalize hz:decide (nm=[])=z;refine gM ?_;refine KA ?_;refine kO ?_;refine uk ?_;refine kW ?_;refine kC (hdec) ?_;cases d
   ·exact ap
   ·refine kG ?_
    refine kO4 ?_
    cases z
    ·refine UU ?_
     refine kO3 ?_
     refine kC (hm) ?_;cases m
     ·exact ap
     ·exact ap
    ·refine aq rfl rfl rfl rfl rfl rfl rfl (bv (a:=nm) (b:=[]) (of_decide_eq_true hz)) ?_
     exact ap
  ·rw[qb,if_pos rfl,decide_eq_false hl,Bool.and_false,Bool.false_and]
   refine gM ?_;refine KA ?_;exact Ph
 by_cases o2:op=2
 ·subst o2
  by_cases hl:L=0
  ·rw[hA0 hl,Bool.and_true,qb,if_neg (by decide),if_pos rfl,decide_eq_true hl,Bool.and_true]
   refine gM ?_;refine Ou ?_;refine kO ?_;refine uk ?_;refine kW ?_;refine kC (hno) ?_;cases p
   ·exact ap
   ·refine kW ?_
    refine kC (hm) ?_;cases m
    ·exact ap
    ·exact ap
  ·rw[qb,if_neg (by decide),if_pos rfl,decide_eq_false hl,Bool.and_false,Bool.false_and]
   refine gM ?_;refine Ou ?_;exact Ph
 by_cases o3:op=3
 ·subst o3
  by_cases hl:L=1
  ·rw[qb,if_neg (by decide),if_neg (by decide),if_pos rfl,decide_eq_true hl,Bool.and_true]
   generalize hz:decide (nm=[])=z;refine gM ?_;refine NR ?_;exact NF
  ·rw[qb,if_neg (by decide),if_neg (by decide),if_pos rfl,decide_eq_false hl,Bool.and_false,Bool.false_and]
   refine gM ?_;refine NR ?_;exact Ph
 by_cases o4:op=4
 ·subst o4
  by_cases hl:L=2
  ·refine Re ?_
   generalize hz:decide (nm=[])=z;refine gM ?_;refine Oc ?_;exact NF
  ·refine FL ?_
   refine gM ?_;refine Oc ?_;exact Ph
 by_cases o5:op=5
 ·subst o5
  by_cases hl:L=2
  ·refine Re ?_
   generalize hz:decide (nm=[])=z;refine gM ?_;refine C2 ?_;exact NF
  ·refine FL ?_
   refine gM ?_;refine C2 ?_;exact Ph
 by_cases o6:op=6
 ·subst o6
  by_cases hl:L=2
  ·refine Re ?_
   generalize hz:decide (nm=[])=z;refine gM ?_;refine Oy ?_;exact NF
  ·refine FL ?_
   refine gM ?_;refine Oy ?_;exact Ph
 by_cases o7:op=7
 ·subst o7
  by_cases hl:L=2
  ·refine Re ?_
   generalize hz:decide (nm=[])=z;refine gM ?_;refine Pf ?_;exact NF
  ·refine FL ?_
   refine gM ?_;refine Pf ?_;exact Ph
 rw[qb,if_neg o1,if_neg o2,if_neg o3,if_neg (by omega),Bool.false_and]
 by_cases hlo:op<1
 ·refine kU func87 ?_
  refine Bx ?_;refine kB true ?_ ?_
  ·exact decide_eq_true hlo
  exact ap
 ·refine kU func87 ?_
  refine Bx ?_;refine kB false ?_ ?_
  ·exact decide_eq_false hlo
  refine kO3 ?_
  refine kT ?_;exact ap
theorem gW (x:Rx) (hx:ls x) (hl:BG x) (hs:fi x<=1000000):aa Tryz.prog 44 [dR x] (.one (dN .i64 (iI x))):=by
 have c1:=wN x hx hl hs;have c2:=l4 x hx hs;obtain⟨o1,na1,xs1,nb1,ys1,nm1,n1,cs1,hA⟩:=aM x;rw[show dR x= .agg (ab o1 na1 xs1 nb1 ys1 nm1 n1 cs1) from congrArg DV.agg hA]at c1 c2 ⊢;unfold iI;cases hb:rF x with
 |false=>
  rw[hb]at c1;rw[if_neg (by decide)];refine kU func44 ?_;exact NU
 |true=>
  rw[hb]at c1;rw[if_pos rfl]
  by_cases hd:pO x<=40
  ·rw[if_pos hd]
   refine kU func44 ?_;exact PR
  ·rw[if_neg hd]
   refine kU func44 ?_;refine io ?_;refine kC (c2) ?_;refine kT ?_;exact ap
section
open Go.RowKit Go.Sort Go.Lib
def aO (l:List L8):List AV:=l.map fun x=> .val (vL x)
theorem rh {w:World} {B q:Nat} {arr:Array Value} {e:TypeId} {fz:Nat × Nat} (h:w.heap[B]? =some (.cells arr e fz)) (d:List L8) (os:Array Obj):
 (grow (putRow encStr (Sort.ahead w q) B 0 d.toArray) os).heap[B]? =some (.cells (putCells encStr 0 d.toArray arr) e fz):=by
 have hB:=(Array.getElem?_eq_some_iff.1 h).1;unfold grow putRow mapBlock;show(((Sort.ahead w q).heap.modify B _)++os)[B]? =_;rw[Array.getElem?_append_left (by simpa using hB),Array.getElem?_modify,if_pos rfl];show(w.heap[B]?).map _=_;rw[h];rfl
theorem yn {w:World} {B q k:Nat} (hk:k<w.heap.size) (hne:k≠B) (d:List L8) (os:Array Obj):
 (grow (putRow encStr (Sort.ahead w q) B 0 d.toArray) os).heap[k]? =w.heap[k]?:=by
 unfold grow putRow mapBlock;show(((Sort.ahead w q).heap.modify B _)++os)[k]? =_;rw[Array.getElem?_append_left (by simpa using hk),Array.getElem?_modify,if_neg (fun h=>hne h.symm)];rfl
theorem Dq {d:List L8} {arr:Array Value} (hl:d.length<=arr.size) (i:Nat):(putCells encStr 0 d.toArray arr)[i]? =if i<d.length then(d[i]?).map vL else arr[i]?:=by
 unfold putCells;rw[Array.getElem?_mapIdx]
 by_cases h:i<d.length
 ·rw[if_pos h]
  have h2:i<arr.size:=by omega
  simp[h,h2]
  rfl
 ·rw[if_neg h]
  cases hx:arr[i]? with
  |none=>rfl
  |some x=>simp;omega
theorem Dv {S:Nat->Prop} {g:Nat->Nat} {w:World} {l d:List L8} {q:Nat} {os:Array Obj} (hS:EW S g w [(901,aO l)]) (hd:d.length=l.length):
 l6 (Own S g (sB [(901,aO d)])) g (sB [(901,aO d)]) (grow (putRow encStr (Sort.ahead w q) (g 901) 0 d.toArray) os) 901 (aO d) (g 901) /\
  b8 (BX g [(901,aO l)]) w (grow (putRow encStr (Sort.ahead w q) (g 901) 0 d.toArray) os) /\
  ∀arr e,w.heap[g 901]? =some (.cells arr e (0,0))-> ∃arr',(grow (putRow encStr (Sort.ahead w q) (g 901) 0 d.toArray) os).heap[g 901]? =some (.cells arr' e (0,0))/\arr'.size=arr.size:=by
 obtain⟨arr,e,h1,h2,h3,_,h5⟩:=hS.bm 901 (aO l) (bd.2 ⟨rfl,rfl⟩);have hlen:l.length<=arr.size:=by have:=h2.1;simpa[aO]using this
 have hsz:(putCells encStr 0 d.toArray arr).size=arr.size:=by simp[putCells]
 refine⟨⟨_,e,rh h1 d os,⟨by simp[aO,hsz];omega,fun i a v ha hv=>?_⟩,fun _ v hv=>?_,(fun h=>by cases h),(fun h=>by cases h)⟩,⟨rfl,rfl,rfl,?_,fun k hk hx=>?_,fun k hk hx arr2 e2 fz2 h=>?_⟩,fun arr2 e2 h=>?_⟩
 ·have hi:i<d.length:=by have:=(List.getElem?_eq_some_iff.1 ha).1;simpa[aO]using this
  rw[Array.getElem?_toList,Dq (by omega),if_pos hi]at hv
  simp[hi]at hv
  simp[aO,hi]at ha
  subst ha hv;exact .val rfl
 ·obtain⟨i,hi⟩:=List.getElem?_of_mem hv
  rw[Array.getElem?_toList,Dq (by omega)]at hi
  split at hi
  ·rename_i hlt
   simp[hlt]at hi
   subst hi;rfl
  ·exact h3 rfl v (by rw[<- Array.getElem?_toList]at hi;exact List.mem_of_getElem? hi)
 ·show w.heap.size<=_
  simp[grow,putRow,mapBlock]
 ·rw[mg]at hx
  exact yn hk (fun h=>hx h.symm) d os
 ·rw[mg]at hx
  subst hx;rw[h1]at h;cases h;exact⟨_,_,rh h1 d os,hsz⟩
 ·rw[h1]at h
  cases h;exact⟨_,rh h1 d os,hsz⟩
theorem ur {S:Nat->Prop} {g:Nat->Nat} {w:World} {l:List L8} (hS:EW S g w [(901,aO l)]):Holds encStr w (g 901) 0 l.toArray/\g 901<w.heap.size:=by
 obtain⟨arr,e,h1,h2,_⟩:=hS.bm 901 (aO l) (bd.2 ⟨rfl,rfl⟩);have hlen:l.length<=arr.size:=by have:=h2.1;simpa[aO]using this
 refine⟨fun j hj=>?_,(Array.getElem?_eq_some_iff.1 h1).1⟩;have hj:j<l.length:=by simpa using hj
 have hv:=h2.2 j (.val (vL l[j])) arr[j] (by simp[aO,hj]) (by simp);rw[Nat.zero_add];refine⟨?_,?_⟩
 ·rw[dm h1,Array.getElem?_eq_getElem (by omega),a6 hv]
  simp[hj]
  rfl
 ·unfold World.frozen?
  simp[h1]
theorem LC {l:List L8} (hl:l.length<=1000000):aw Tryz.prog 322 [.own 901 l.length 1 9] [(901,aO l)] (.v (.tup [])) [(901,aO (l.mergeSort fun x y=>decide (x<=y)))]:=
 ⟨aA func322 rfl rfl,fun S g w vs hS hv=>by
  match vs,hv with
  | [v],⟨⟨_,h1⟩,_⟩=>
   obtain⟨c,rfl,_,_,_,_⟩:=h1 (aO l) (bd.2 ⟨rfl,rfl⟩);obtain⟨hH,hB⟩:=ur hS;refine(Tryz.slices_Sort_string (g 901) 0 c l w hH hB (by omega)).mono ?_;rintro e w' ⟨rfl,q,os,rfl⟩;obtain⟨r1,r2,_⟩:=Dv (d:=l.mergeSort fun x y=>decide (x<=y)) (q:=q) (os:=os) hS (List.length_mergeSort _);refine⟨_,g,rfl,fun j cs cs' h h'=>?_,fun j cs' h=>?_,fun i j ci cj hi hj _=>?_,?_,r2⟩
   ·obtain⟨_,rfl⟩:=bd.1 h
    obtain⟨_,rfl⟩:=bd.1 h';exact⟨rfl,by simp[aO]⟩
   ·obtain⟨rfl,rfl⟩:=bd.1 h
    exact⟨.inr (by rw[mg]),r1⟩
   ·rw[(bd.1 hi).1,(bd.1 hj).1]
   ·exact⟨[],rfl,rfl,fun i x u h=>by simp at h⟩⟩
theorem BC {l:List L8} (hl:l.length<=1000000):aw Tryz.prog 323 [.own 901 l.length 1 9] [(901,aO l)] (.own 901 (Lib.compact l).length 1 9) [(901,aO (Lib.compact l++List.replicate (l.length-(Lib.compact l).length) []))]:=
 ⟨aA func323 rfl rfl,fun S g w vs hS hv=>by
  match vs,hv with
  | [v],⟨⟨hk,h1⟩,_⟩=>
   obtain⟨c,rfl,h2,h3,h4,arr,h5,h6⟩:=h1 (aO l) (bd.2 ⟨rfl,rfl⟩);obtain⟨hH,hB⟩:=ur hS;have hcl:=Lib.compact_length_le l;refine(Tryz.slices_Compact_string (g 901) 0 c l w hH (by omega) h2).mono ?_;rintro e w' ⟨rfl,q,rfl⟩;obtain⟨r1,r2,r3⟩:=Dv (d:=Lib.compact l++List.replicate (l.length-(Lib.compact l).length) []) (q:=q) (os:= #[]) hS (by simp;omega);rw[grow_empty]at r1 r2 r3;obtain⟨arr',r4,r5⟩:=r3 arr _ h5;refine⟨_,g,rfl,fun j cs cs' h h'=>?_,fun j cs' h=>?_,fun i j ci cj hi hj _=>?_,?_,r2⟩
   ·obtain⟨_,rfl⟩:=bd.1 h
    obtain⟨_,rfl⟩:=bd.1 h';exact⟨rfl,by simp[aO];omega⟩
   ·obtain⟨rfl,rfl⟩:=bd.1 h
    exact⟨.inr (by rw[mg]),r1⟩
   ·rw[(bd.1 hi).1,(bd.1 hj).1]
   ·refine⟨AS.kn_of (bd.2 ⟨rfl,rfl⟩),fun cs hc=>?_⟩
    obtain⟨_,rfl⟩:=bd.1 hc;exact⟨c,rfl,by omega,h3,by simp[aO],arr',r4,by rw[r5,h6]⟩⟩
end
mutual
def G5:Rx->Rx->Bool
 | .mk op na xs nb ys nm args, .mk op' na' xs' nb' ys' nm' args'=>decide (op=op') && (decide (nm=nm') && (decide (args.length=args'.length) && ((sameB na na' xs xs' && sameB nb nb' ys ys') && rA args args')))
def rA:List Rx->List Rx->Bool
 |x::r,y::s=>G5 x y && rA r s
 | [],_=>true
 |_::_,[]=>true
end
theorem mT:∀(l m:List Rx),l.length=m.length->(rA l m=true↔ ∀(i:Nat) x y,l[i]? =some x->m[i]? =some y->G5 x y=true)
 | [],[],_=>by simp[rA]
 |x::r,y::s,h=>by
  have ih:=mT r s (by simpa using h);rw[rA,Bool.and_eq_true,ih]
  constructor
  ·rintro⟨h1,h2⟩ i a b ha hb
   cases i with
   |zero=>simp at ha hb;subst ha hb;exact h1
   |succ i=>exact h2 i a b (by simpa using ha) (by simpa using hb)
  ·intro hall
   exact⟨hall 0 x y rfl rfl,fun i a b ha hb=>hall (i+1) a b (by simpa using ha) (by simpa using hb)⟩
theorem JY:∀x:Rx,G5 x x=true:=by
 refine ef fun op na xs nb ys nm args ih=>?_
 have h:rA args args=true:=(mT args args rfl).2 fun i x y hx hy=>by
  rw[hx]at hy;cases hy;exact ih x (List.mem_of_getElem? hx)
 rw[G5,h,j0 rfl,j0 rfl]
 simp
theorem zt {na nb na' nb':Bool} {xs ys xs' ys':List Nat} (hl:xs.length<=2147483648) (hl':ys.length<=2147483648):aa Tryz.prog 24 [Gb na xs nb ys,Gb na' xs' nb' ys'] (.one (dB (sameB na na' xs xs' && sameB nb nb' ys ys'))):=by
 have c1:aa Tryz.prog 59 [dI na xs,dI na' xs'] (.one (dB (sameB na na' xs xs'))):=fH hl rfl;have c2:aa Tryz.prog 59 [dI nb ys,dI nb' ys'] (.one (dB (sameB nb nb' ys ys'))):=fH hl' rfl;generalize sameB na na' xs xs'=b1 at *;generalize sameB nb nb' ys ys'=b2 at *;cases b1
 ·refine kU func24 ?_
  exact NU
 ·cases b2
  all_goals
   refine kV func24 ?_;refine kQ (c1) ?_;refine kC (c2) ?_;exact kF
theorem ub:∀(x:Rx),KT x-> ∀y,KT y->aa Tryz.prog 70 [dR x,dR y] (.one (dB (G5 x y))):=by
 refine ef fun op na xs nb ys nm args ih hx=>?_
 rintro⟨op',na',xs',nb',ys',nm',args'⟩ hy;obtain⟨h1,h2,h3,h4⟩:=hx;obtain⟨_,_,g3,g4⟩:=hy;have cs:=zt (na:=na) (nb:=nb) (na':=na') (nb':=nb') (xs':=xs') (ys':=ys') h1 h2;have hall:=mT args args';rw[G5];generalize(sameB na na' xs xs' && sameB nb nb' ys ys')=bs at *;show aa Tryz.prog _ [.agg (ab op na xs nb ys nm args.length (dY args)), .agg (ab op' na' xs' nb' ys' nm' args'.length (dY args'))] _;have cs:aa Tryz.prog 24 [.agg (Ab na xs nb ys), .agg (Ab na' xs' nb' ys')] (.one (dB bs)):=cs
 by_cases e1:op=op'
 ·rw[decide_eq_true e1,Bool.true_and]
  by_cases e2:nm=nm'
  ·rw[decide_eq_true e2,Bool.true_and]
   by_cases e3:args.length=args'.length
   ·rw[decide_eq_true e3,Bool.true_and]
    have hall:=hall e3;cases bs
    ·rw[Bool.false_and]
     refine PK ?_;exact ap
    ·rw[Bool.true_and]
     generalize rA args args'=B at *;refine PK ?_;refine kW ?_
     refine ay Nat (fun i=>i<=args.length/\ ∀(q:Nat) x y,q<i->args[q]? =some x->args'[q]? =some y->G5 x y=true) (fun i=>⟨[(2, .box 0 0),(3, .box 1 0),(4, .d (dB false)),(5, .d (dN .i64 i))],[(0,some (ab op na xs nb ys nm args.length (dY args))),(1,some (ab op' na' xs' nb' ys' nm' args'.length (dY args')))]⟩) (fun i=>args.length-i) 0 ⟨Nat.zero_le _,fun q x y h=>absurd h (Nat.not_lt_zero _)⟩
      kw ?_
     rintro i ⟨hi,hq⟩;refine kI ?_
     refine kO4 ?_
     by_cases hlt:i<args.length
     ·refine kT ?_
      have hlt':i<args'.length:=by omega
      obtain⟨o1,na1,xs1,nb1,ys1,nm1,n1,cs1,hA⟩:=aM args[i];obtain⟨o2,na2,xs2,nb2,ys2,nm2,n2,cs2,hA2⟩:=aM args'[i];have hx:args[i]? =some args[i]:=by simp[hlt]
      have hy:args'[i]? =some args'[i]:=by simp[hlt']
      have hat:∀(j:Nat) (a:AV),(ab o1 na1 xs1 nb1 ys1 nm1 n1 cs1)[j]? =some a->(dY args)[i*7+j]? =some a:=fun j a h=>dP args i args[i] hx j a (by rw[hA];exact h)
      have hat':∀(j:Nat) (a:AV),(ab o2 na2 xs2 nb2 ys2 nm2 n2 cs2)[j]? =some a->(dY args')[i*7+j]? =some a:=fun j a h=>dP args' i args'[i] hy j a (by rw[hA2];exact h)
      have c:=ih args[i] (List.getElem_mem hlt) (h4 _ (List.getElem_mem hlt)) args'[i] (g4 _ (List.getElem_mem hlt'));rw[show dR args[i]= .agg (ab o1 na1 xs1 nb1 ys1 nm1 n1 cs1) from congrArg DV.agg hA,show dR args'[i]= .agg (ab o2 na2 xs2 nb2 ys2 nm2 n2 cs2) from congrArg DV.agg hA2]at c;refine KL ?_;refine kW ?_;refine OY ?_;refine kW ?_;cases hb:G5 args[i] args'[i]
      ·rw[hb]at c
       have hB:B=false:=by
        cases B
        ·rfl
        ·rw[hall.1 rfl i _ _ hx hy]at hb;cases hb
       clear hall;cases B
       ·refine kC (c) ?_
        exact ap
       ·cases hB
      ·rw[hb]at c
       refine kQ (c) ?_
       exact⟨i+1,⟨hlt,fun q x y h1 h2 h3=>by
        by_cases e:q=i
        ·subst e;rw[hx]at h2;rw[hy]at h3;cases h2;cases h3;exact hb
        ·exact hq q x y (by omega) h2 h3⟩,by omega,weak ⟨rfl,rfl,rfl,an (by omega) (by omega),trivial⟩ ⟨rfl,rfl,trivial⟩ rfl⟩
     ·have hB:B=true:=hall.2 fun q x y h2 h3=>hq q x y (by have:=(List.getElem?_eq_some_iff.1 h2).1;omega) h2 h3
      clear hall;cases B
      ·cases hB
      ·refine kE ?_
       exact ap
   ·rw[decide_eq_false e3,Bool.false_and]
    refine kU func70 ?_;refine mH ?_;refine T1 ?_;refine pU ?_;exact ap
  ·rw[decide_eq_false e2,Bool.false_and]
   refine kU func70 ?_;refine mH ?_;refine kB false ?_ ?_
   ·exact(by simp[e1])
   refine kO5 ?_
   refine aq rfl rfl rfl rfl rfl rfl rfl (iA (a:=nm) (b:=nm') e2) ?_;exact ap
 ·rw[decide_eq_false e1,Bool.false_and]
  refine kU func70 ?_;refine mH ?_;refine kB true ?_ ?_
  ·exact(by simp[e1])
  exact ap
theorem Dh:∀l:List Rx,(dY l).length=l.length*7
 | []=>rfl
 |x::r=>by
  obtain⟨o1,na1,xs1,nb1,ys1,nm1,n1,cs1,hA⟩:=aM x;have ih:=Dh r
  simp only[dY,List.length_append,hA,ih,List.length_cons]
  have:(ab o1 na1 xs1 nb1 ys1 nm1 n1 cs1).length=7:=rfl;omega
abbrev Pm:=L8 × Rx
abbrev Tb:=List Pm
def ml:Tb->L8->Nat
 | [],_=>0
 |p::r,n=>if p.1=n then 0 else ml r n+1
theorem Bu:∀{l:Tb} {n:L8},ml l n<l.length↔ ∃p∈l,p.1=n
 | [],n=>by simp[ml]
 |p::r,n=>by
  have ih:=Bu (l:=r) (n:=n);unfold ml
  split
  ·rename_i h;simp[h]
  ·rename_i h
   simp only[List.length_cons,Nat.add_lt_add_iff_right,ih,List.mem_cons,exists_eq_or_imp,h,false_or]
theorem Jo:∀{l:Tb} {n:L8},ml l n<l.length-> ∃p,l[ml l n]? =some p/\p.1=n
 | [],n,h=>by simp[ml]at h
 |p::r,n,h=>by
  unfold ml at h ⊢
  split
  ·rename_i e;exact⟨p,rfl,e⟩
  ·rename_i e
   rw[if_neg e]at h;obtain⟨q,h1,h2⟩:=Jo (l:=r) (n:=n) (by simpa using h);exact⟨q,by simpa using h1,h2⟩
theorem iW:∀{l:Tb} {n:L8} {i:Nat} {p:Pm},i<ml l n->l[i]? =some p->p.1≠n
 | [],n,i,p,_,h=>by simp at h
 |q::r,n,i,p,hi,h=>by
  unfold ml at hi
  split at hi
  ·omega
  ·rename_i e
   cases i with
   |zero=>simp at h;subst h;exact e
   |succ i=>exact iW (l:=r) (n:=n) (i:=i) (by omega) (by simpa using h)
theorem Rg {l:Tb} {n:L8} {i:Nat} {p:Pm} (h:l[i]? =some p) (hp:p.1=n) (hb:∀(j:Nat) (q:Pm),j<i->l[j]? =some q->q.1≠n):ml l n=i:=by
 have h1:¬i<ml l n:=fun h2=>iW h2 h hp
 have h2:ml l n<l.length:=Bu.2 ⟨p,List.mem_of_getElem? h,hp⟩
 obtain⟨q,h3,h4⟩:=Jo h2;rcases Nat.lt_or_ge (ml l n) i with h5|h5
 ·exact absurd h4 (hb _ q h5 h3)
 ·omega
def R1 (l:Tb) (n:L8):Int:=if ml l n<l.length then(ml l n:Int)else -1
def Il (l:Tb):Nat->Tb->Int
 |_,[]=>0
 |i,p::r=>if kh p.1=true then(if iI p.2=0 then(if ml l p.1<i then 5 else Il l (i+1) r)else iI p.2)else 1
def Eg (l:Tb):Int:=if 200<l.length then 3 else Il l 0 l
structure Aa (l:Tb):Prop where
 len:l.length<=200
 nm:∀p∈l,kh p.1=true
 ex:∀p∈l,iI p.2=0
 nd:∀(i j:Nat) (p q:Pm),l[i]? =some p->l[j]? =some q->p.1=q.1->i=j
theorem H8 (l:Tb):∀(i:Nat) (r:Tb),l.drop i=r->Il l i r=0-> ∀(j:Nat) (p:Pm),i<=j->l[j]? =some p->kh p.1=true/\iI p.2=0/\j<=ml l p.1
 |i,[],h,_,j,p,hj,hp=>by
  have:=congrArg List.length h;have h1:=(List.getElem?_eq_some_iff.1 hp).1
  simp at this
  omega
 |i,q::r,h,h0,j,p,hj,hp=>by
  have hq:l[i]? =some q:=by
   have:=congrArg (·[0]?) h
   simpa using this
  unfold Il at h0
  split at h0
  ·rename_i h1
   split at h0
   ·rename_i h2
    split at h0
    ·cases h0
    ·rename_i h3
     by_cases e:j=i
     ·subst e;rw[hq]at hp;cases hp;exact⟨h1,h2,by omega⟩
     ·exact H8 l (i+1) r (by rw[<- List.drop_drop,h];rfl) h0 j p (by omega) hp
   ·rename_i h2;exact absurd h0 h2
  ·cases h0
theorem wz {l:Tb} (h:Eg l=0):Aa l:=by
 unfold Eg at h
 split at h
 ·cases h
 rename_i hl
 have key:=H8 l 0 l rfl h;refine⟨by omega,fun p hp=>?_,fun p hp=>?_,?_⟩
 ·obtain⟨i,hi⟩:=List.getElem?_of_mem hp;exact(key i p (Nat.zero_le _) hi).1
 ·obtain⟨i,hi⟩:=List.getElem?_of_mem hp;exact(key i p (Nat.zero_le _) hi).2.1
 ·intro i j p q hi hj e
  have h1:=(key i p (Nat.zero_le _) hi).2.2;have h2:=(key j q (Nat.zero_le _) hj).2.2;rw[<- e]at h2;have h3:¬i<ml l p.1:=fun h4=>iW h4 hi rfl
  have h4:¬j<ml l p.1:=fun h4=>iW h4 hj e.symm
  omega
theorem Aa.fd {l:Tb} (h:Aa l) {i:Nat} {p:Pm} (hi:l[i]? =some p):ml l p.1=i:=
 Rg hi rfl fun j q hj hq e=>by have:=h.nd _ _ _ _ hq hi e;omega
def xa (x:Rx) (out:List L8):Bool:=(oY x).all fun n=>decide (n∈out)
theorem Lk {x:Rx} {out:List L8}:xa x out=true↔ ∀n∈oY x,n∈out:=by simp[xa]
def Fp (out:List L8) (p:Pm):Bool:=!(decide (p.1∈out)) && xa p.2 out
def sP (out:List L8) (nx:L8) (p:Pm):L8:=if Fp out p=true/\(nx=[]∨Op.bytesLess p.1 nx=true)then p.1 else nx
def Gc (l:Tb) (out:List L8):L8:=l.foldl (sP out) []
theorem AG {out:List L8}:∀(l:Tb) (nx:L8),l.foldl (sP out) nx=nx∨ ∃p∈l,Fp out p=true/\l.foldl (sP out) nx=p.1
 | [],nx=> .inl rfl
 |p::r,nx=>by
  simp only[List.foldl_cons]
  by_cases h:Fp out p=true/\(nx=[]∨Op.bytesLess p.1 nx=true)
  ·rw[show sP out nx p=p.1 from if_pos h]
   rcases AG r p.1 with h1| ⟨q,hq,h1,h2⟩
   ·exact .inr ⟨p,by simp,h.1,h1⟩
   ·exact .inr ⟨q,by simp[hq],h1,h2⟩
  ·rw[show sP out nx p=nx from if_neg h]
   rcases AG r nx with h1| ⟨q,hq,h1,h2⟩
   ·exact .inl h1
   ·exact .inr ⟨q,by simp[hq],h1,h2⟩
theorem L0 {l:Tb} {out:List L8} (h:Gc l out≠[]):∃p∈l,Fp out p=true/\Gc l out=p.1:=by
 rcases AG (out:=out) l []with h1|h1
 ·exact absurd h1 h
 ·exact h1
def mY (l:Tb):Nat->List L8->Option (List L8)
 |0,out=>some out
 |k+1,out=>if Gc l out=[]then none else mY l k (out++[Gc l out])
def fJ (l:Tb):List L8 × Int:=
 if Eg l=0 then(if l.all (fun p=>xa p.2 (l.map (·.1)))=true then(match mY l l.length []with|some o=>(o,0)|none=>([],9))else([],4))else([],Eg l)
structure od (l:Tb) (o:List L8):Prop where
 nd:o.Nodup
 mem:∀n∈o,∃p∈l,p.1=n
 up:∀(i:Nat) (n:L8) (p:Pm),o[i]? =some n->p∈l->p.1=n-> ∀m∈oY p.2,m∈o.take i
theorem od.nil (l:Tb):od l []:=⟨List.nodup_nil,fun n h=>(by cases h),fun i n p h=>by simp at h⟩
theorem od.snoc {l:Tb} (hl:Aa l) {o:List L8} (h:od l o) {p:Pm} (hp:p∈l) (hc:Fp o p=true):od l (o++[p.1]):=by
 unfold Fp at hc
 simp only[Bool.and_eq_true,Bool.not_eq_true',decide_eq_false_iff_not]at hc
 refine⟨?_,fun n hn=>?_,fun i n q hi hq e m hm=>?_⟩
 ·rw[List.nodup_append]
  refine⟨h.nd,List.nodup_cons.2 ⟨by simp,List.nodup_nil⟩,fun a ha b hb=>?_⟩;rw[List.mem_singleton.1 hb];exact fun e=>hc.1 (e ▸ ha)
 ·rcases List.mem_append.1 hn with hn|hn
  ·exact h.mem n hn
  ·exact⟨p,hp,(List.mem_singleton.1 hn).symm⟩
 ·rcases Nat.lt_or_ge i o.length with hlt|hge
  ·rw[List.getElem?_append_left hlt]at hi
   rw[List.take_append_of_le_length (by omega)];exact h.up i n q hi hq e m hm
  ·rw[List.getElem?_append_right hge]at hi
   have hi0:i=o.length:=by
    have:=(List.getElem?_eq_some_iff.1 hi).1
    simp at this
    omega
   subst hi0
   simp at hi
   subst hi;obtain⟨a,ha⟩:=List.getElem?_of_mem hp;obtain⟨b,hb⟩:=List.getElem?_of_mem hq;have:=hl.nd _ _ _ _ hb ha e;subst this;rw[ha]at hb;cases hb;rw[List.take_left']
   ·exact Lk.1 hc.2 m hm
   ·rfl
theorem zQ {l:Tb} (hl:Aa l):∀(k:Nat) (out o:List L8),od l out->mY l k out=some o->od l o/\o.length=out.length+k
 |0,out,o,h,e=>by cases e;exact⟨h,rfl⟩
 |k+1,out,o,h,e=>by
  unfold mY at e
  split at e
  ·cases e
  ·rename_i hn
   obtain⟨p,hp,hc,hx⟩:=L0 hn;rw[hx]at e;obtain⟨h1,h2⟩:=zQ hl k _ o (h.snoc hl hp hc) e;exact⟨h1,by simp at h2;omega⟩
theorem Cm {l:Tb} {o:List L8} (h:fJ l=(o,0)):Aa l/\od l o/\o.length=l.length:=by
 unfold fJ at h
 split at h
 ·rename_i hv
  split at h
  ·split at h
   ·rename_i o' ho
    cases h;have:=zQ (wz hv) l.length [] o (.nil l) ho;exact⟨wz hv,this.1,by simpa using this.2⟩
   ·cases h
  ·cases h
 ·rename_i hv
  injection h with h1 h2
  exact absurd h2 hv
theorem nN:∀{a b:List L8},a.Nodup->(∀x∈a,x∈b)->a.length<=b.length
 | [],_,_,_=>Nat.zero_le _
 |x::a,b,h,hs=>by
  have hx:=hs x (by simp);obtain⟨h1,h2⟩:=List.nodup_cons.1 h;have:=nN (a:=a) (b:=b.erase x) h2 fun y hy=>(List.mem_erase_of_ne (fun e:y=x=>h1 (by rw[<- e];exact hy))).2 (hs y (List.mem_cons_of_mem _ hy))
  rw[List.length_erase_of_mem hx]at this;have:=List.length_pos_of_mem hx
  simp only[List.length_cons]
  omega
theorem od.all {l:Tb} {o:List L8} (h:od l o) (hlen:o.length=l.length):∀p∈l,p.1∈o:=fun p hp=>by
 refine Classical.byContradiction fun hn=>?_
 have:=nN (a:=p.1::o) (b:=l.map (·.1)) (List.nodup_cons.2 ⟨hn,h.nd⟩) fun x hx=>by
  rcases List.mem_cons.1 hx with rfl|hx
  ·exact List.mem_map.2 ⟨p,hp,rfl⟩
  ·obtain⟨q,hq,e⟩:=h.mem x hx;exact List.mem_map.2 ⟨q,hq,e⟩
 simp at this
 omega
theorem MQ {l:Tb} {out:List L8} {i:Nat} {p:Pm} (h:l[i]? =some p):(l.take (i+1)).foldl (sP out) []=sP out ((l.take i).foldl (sP out) []) p:=by
 have hi:=(List.getElem?_eq_some_iff.1 h).1;have e:=(List.getElem?_eq_some_iff.1 h).2;rw[List.take_succ_eq_append_getElem hi,List.foldl_append,e];rfl
end Go.Proofs.YtnchbpoopnjghaaGreatDoor
