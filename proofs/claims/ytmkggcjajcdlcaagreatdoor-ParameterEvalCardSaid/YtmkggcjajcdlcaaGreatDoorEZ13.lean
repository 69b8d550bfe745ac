/- Parts of a proof: contracts of the functions that the laws reach. -/
import Derived.Test.YtmkggcjajcdlcaaGreatDoorEZ12
set_option maxHeartbeats 100000000
set_option linter.all false
open Go.Proofs.Tryz
namespace Go.Proofs.YtmkggcjajcdlcaaGreatDoor
open Go.RowKit
section
variable {P:Program} {T:TypeId->Option Ty} {n:Nat} {ops:Array Oper} {id:Nat} {draw:Bool} {K:AS->Prop} {s:AS} {k:Nat} {o:Oper} {os:List Oper} {fps:List FP}
theorem AC {s:AS} {d t et q m j':Nat} {ty te:Ty} {x y:Operand} {ik ik':IntKind} (hT:aU P t ty) (hE:aU P et te) (ho:o.op= .makeSlice t x y) (hd:o.dst=some d) (hel:ty.elem=some (et,q)) (hq:te.size=q) (hq0:0<q) (hx:s.ev x= .d (.leaf (.val (.int ik (m:Nat))))) (hy:s.ev y= .d (.leaf (.val (.int ik' (m:Nat))))) (hb:te.bytes*m<=281474976710656) (h63:m<=9223372036854775807)
 (hnew:fm s j'=true) (hwb:(bQ j' || a8 te.zero)=true) (hno:∀a∈te.zero,Aa a=true):bE P o s ⟨.d (.leaf (.sl m (cG te.zero m))),some [(j',none)]⟩:=by
 intro n S0 w0 g a w K' Q hM hdn hK;refine sZ (c:=m) hT hE ho hd hel hq hq0 hx hy (Nat.le_refl m) hb h63 hnew hwb hno n S0 w0 g a w K' Q hM hdn fun g' a' w' h=>?_
 rw[hd]at h;have hK:=fun g2 h2=>hK g2 a' w' h2
 rw[hd]at hK;obtain⟨g2,h2⟩:=a7 (s:=s.eff (some d) ⟨.own j' m q et,some [(j',some (cG te.zero m))]⟩) (q:=d) (j:=j') (m:=m) (k:=q) (e:=et) (cs:=cG te.zero m) (by simp[AS.eff,AS.tv,ah]) (by simp[AS.eff,AS.bx,ah]) n S0 w0 a' w' ⟨g',h⟩;refine hK g2 (h2.ext (fun i=>?_) (fun i=>?_))
 ·by_cases e:d=i
  ·subst e;simp[AS.eff,AS.tv,ah]
  ·simp[AS.eff,AS.tv,av _ _ e]
 ·by_cases e:j'=i
  ·subst e;simp[AS.eff,ah]
  ·simp[AS.eff,av _ _ e]
theorem MV (j':Nat) {d t et q m:Nat} {ty te:Ty} {x y:Operand} {ik ik':IntKind} (hT:∀t d,T t=some d->aU P t d) (hb:te.bytes*m<=281474976710656) (h63:m<=9223372036854775807) (h1:gd ops s o=some true) (ho:o.op= .makeSlice t x y) (hd:o.dst=some d) (h3:aH n o.dst=true) (ht:T t=some ty) (hel:ty.elem=some (et,q)) (hte:T et=some te) (hq:te.size=q) (hq0:Nat.ble 1 q=true) (hx:s.ev x= .d (.leaf (.val (.int ik (m:Nat))))) (hy:s.ev y= .d (.leaf (.val (.int ik' (m:Nat)))))
 (hnew:fm s j'=true) (hwb:(bQ j' || a8 te.zero)=true) (hno:te.zero.all Aa=true)
 (h4:eS draw ops (aw ops o ⟨.d (.leaf (.sl m (cG te.zero m))),some [(j',none)]⟩ [j']) k fps=true) (h:ak P T n ops id draw K (k+1) os (s.eff o.dst ⟨.d (.leaf (.sl m (cG te.zero m))),some [(j',none)]⟩) (aw ops o ⟨.d (.leaf (.sl m (cG te.zero m))),some [(j',none)]⟩ [j']::fps)):ak P T n ops id draw K k (o::os) s fps:=
 .run h1 (.gen fun _ ht2 hrb=>AC (hT _ _ ht) (hT _ _ hte) ho hd hel hq (Nat.le_of_ble_eq_true hq0) ((an ht2 (x:=x) (by rw[ho];simp[Op.operands])).trans hx) ((an ht2 (x:=y) (by rw[ho];simp[Op.operands])).trans hy) hb h63 ((dK (hrb j' (by simp))).trans hnew) hwb (fun b hb=>List.all_eq_true.1 hno b hb)) h3 h4 h
end
structure Ft (l:Tb) (n:L8) (F:List L8):Prop where
 nd:F.Nodup
 dep:∀x∈F,Bq l n x
theorem Ft.len {l:Tb} {n:L8} {F:List L8} (h:Ft l n F):F.length<=l.length:=by
 exact O5
def KZ (n:L8) (F:List L8) (p:Pm):Bool:=decide (n∈ej p.2) || F.any fun y=>decide (y∈ej p.2)
theorem xF {n:L8} {F:List L8} {p:Pm}:KZ n F p=true↔n∈ej p.2∨ ∃y∈F,y∈ej p.2:=by
 unfold KZ
 simp
theorem Ft.snoc {l:Tb} {n:L8} {F:List L8} (h:Ft l n F) {p:Pm} (hp:p∈l) (hn:KZ n F p=true) (hf:p.1 ∉ F):Ft l n (F++[p.1]):=by
 have hd:Bq l n p.1:=by
  rcases xF.1 hn with h1| ⟨y,h1,h2⟩
  ·exact .base hp h1
  ·exact .step hp h2 (h.dep y h1)
 refine⟨?_,fun x hx=>?_⟩
 ·rw[List.nodup_append]
  refine⟨h.nd,List.nodup_cons.2 ⟨by simp,List.nodup_nil⟩,fun a ha b hb=>?_⟩;rw[List.mem_singleton.1 hb];exact fun e=>hf (e ▸ ha)
 ·rcases List.mem_append.1 hx with hx|hx
  ·exact h.dep x hx
  ·rw[List.mem_singleton.1 hx];exact hd
def TC (l:Tb) (n:L8) (F:List L8):Prop:=∀p∈l,KZ n F p=true->p.1∈F
theorem Ft.full {l:Tb} {n:L8} {F:List L8} (h:Ft l n F) (hc:TC l n F) (x:L8):x∈F↔Bq l n x:=by
 refine⟨h.dep x,fun hd=>?_⟩
 induction hd with
 |base hp hn=>exact hc _ hp (xF.2 (.inl hn))
 |step hp hy _ ih=>exact hc _ hp (xF.2 (.inr ⟨_,ih,hy⟩))
theorem L6 (F:List L8) (x:L8):(au F).take (F.length*1)++[.val (vL x)]=au (F++[x]):=by
 rw[Nat.mul_one,List.take_of_length_le (Nat.le_of_eq (cL F)),lh];rfl
theorem re (z:List AV):∀k,(cG z k).length=k*z.length
 |0=>by simp[cG]
 |k+1=>by simp[cG,re z k,Nat.add_mul];try omega
theorem ET {z:List AV} (h:a8 z=true):∀k,a8 (cG z k)=true
 |0=>rfl
 |k+1=>nZ h (ET h k)
theorem PL (t:List (Nat × TV)) (b:List (Nat × Option (List AV))) (G:List L8) (x:L8):(⟨(5, .own 3001 (G++[x]).length 1 9)::t,(3001,some (au (G++[x])))::b⟩:AS)=⟨(5, .own 3001 (G.length+1) 1 9)::t,(3001,some ((au G).take (G.length*1)++[.val (vL x)]))::b⟩:=by
 rw[L6,List.length_append];rfl
theorem zd:∀(F acc:List L8),(F.foldl jc acc).length=acc.length+F.length
 | [],acc=>rfl
 |x::F,acc=>by rw[List.foldl_cons,zd F,zN];simp;omega
theorem Kz {G:List L8} {k:Nat} {y:L8} (hy:G[k]? =some y) (f:L8->Bool):(G.take (k+1)).any f=((G.take k).any f || f y):=by
 rw[bi hy,List.any_append];simp
theorem mG (l:Tb) (n:L8) (hs:jP l) (hl:l.length<=500) (R:List L8) (hv:gC l=0) (hn:0<=gt l n) (hR:∀F,Ft l n F->TC l n F->Kh F=R):aa Tryz.prog 20 [bF l,dL n] (.one (gM R)):=by
 have cv:=eJ l hs (by omega);have cf:=gi l n (by omega);rw[hv]at cv;generalize gt l n=f at *;refine kV func20 ?_;refine kC (cv) ?_
 refine kO4 ?_
 refine kC (cf) ?_;refine kY ?_;refine qC 3001 ac rfl rfl rfl rfl rfl rfl rfl rfl ?_;refine kW ?_;refine aq (List L8 × Bool) (fun x=>Ft l n x.1/\(x.2=false->TC l n x.1)) (fun x=>⟨[(5, .own 3001 x.1.length 1 9),(0, .d (bF l)),(1, .d (dL n)),(6, .d (dB x.2))],[(3001,some (au x.1))]⟩) (fun x=>2*(l.length-x.1.length)+(if x.2 then 1 else 0)) ([],true) ⟨⟨List.nodup_nil,by simp⟩,by simp⟩ kw ?_;rintro⟨F,b⟩ ⟨hD,hC⟩;dsimp only at hD hC ⊢;have hFl:=hD.len;cases b with
 |false=>
  have hCF:=hC rfl;have hfin:=hR F hD hCF;refine kI ?_;refine jR ?_;refine bM (T:=TT) ?_;refine bW (a7 (q:=5) rfl rfl) rfl ?_;refine kW ?_;refine aq Nat (fun j=>j<=F.length) (fun j=>⟨[(5, .d (gM F)),(11, .d (gM ((F.take j).foldl jc []))),(12, .d (dN .i64 j))],[]⟩) (fun j=>F.length-j) 0 (Nat.zero_le _) ((kP (q:=11) rfl).tr kw) ?_;intro j hj
  by_cases hjl:j<F.length
  ·obtain⟨x,hx⟩:∃x,F[j]? =some x:=⟨F[j],by simp[hjl]⟩
   have hstep:jc ((F.take j).foldl jc []) x=(F.take (j+1)).foldl jc []:=by rw[bi hx,List.foldl_append];rfl
   have hOl:((F.take j).foldl jc []).length=j:=by rw[zd,List.length_take];simp;omega
   generalize(F.take j).foldl jc []=O at *;have cp:=KN O (cG [.val (.bool false), .sl 0 [], .val (.bool false), .sl 0 [], .val (.int .i64 0)] O.length) x false [] false [] 0 (re _ _) (ET rfl _) (by omega);refine xr ?_;refine qZ ?_;refine Au ?_
   refine kO3 ?_
   refine MV 23001 (m:=O.length) ac (Nat.le_trans (Nat.mul_le_mul_left _ (show O.length<=1000 by omega)) (by decide)) (by omega) rfl rfl rfl rfl rfl rfl rfl rfl rfl rfl rfl rfl rfl rfl rfl ?_
   refine kO2 ?_
   refine bB (i:=j) (cs':=[.val (vL x)]) hjl (d4 hx) (Nat.zero_lt_succ 0) rfl rfl rfl rfl rfl rfl rfl rfl ?_
   refine kO2 ?_
   refine kQ (cp) ?_;exact⟨j+1,hjl,by omega,weak ⟨rfl,congrArg (fun z=>TV.d (gM z)) hstep,ae (by omega) (by omega),trivial⟩ trivial rfl⟩
  ·refine pA ?_
   refine iT ?_;rw[List.take_of_length_le (by omega),show F.foldl jc []=R from hfin];rfl
 |true=>
  clear hC;refine kW ?_;refine aq (Nat × List L8 × Bool) (fun x=>x.1<=l.length/\Ft l n x.2.1/\(x.2.2=true->F.length<x.2.1.length)/\(x.2.2=false->x.2.1=F/\ ∀p∈l.take x.1,KZ n F p=true->p.1∈F)) (fun x=>⟨[(5, .own 3001 x.2.1.length 1 9),(0, .d (bF l)),(1, .d (dL n)),(6, .d (dB x.2.2)),(7, .d (dN .i64 x.1))],[(3001,some (au x.2.1))]⟩) (fun x=>l.length-x.1) (0,F,false) ⟨Nat.zero_le _,hD,(fun h=>by cases h),fun _=>⟨rfl,by simp⟩⟩ kw ?_;rintro⟨i,G,c⟩ ⟨hi,hG,hc1,hc0⟩;dsimp only at hi hG hc1 hc0 ⊢;have hGl:=hG.len
  by_cases hil:i<l.length
  ·obtain⟨p,hx⟩:∃p,l[i]? =some p:=⟨l[i],by simp[hil]⟩
   have hp:=List.mem_of_getElem? hx;have hsx:=(hs p hp).2;have cn:=fN p.2 hsx.wd (by have:=hsx.sz;omega);have hnl:=hs.ns hp
   have hkeep:(KZ n G p=true->p.1∈G)->c=false->G=F/\ ∀q∈l.take (i+1),KZ n F q=true->q.1∈F:=fun h hc=>by
    obtain⟨rfl,h2⟩:=hc0 hc;refine⟨rfl,fun q hq=>?_⟩;rw[bi hx]at hq;rcases List.mem_append.1 hq with hq|hq
    ·exact h2 q hq
    ·rw[List.mem_singleton.1 hq];exact h
   have hsn:KZ n G p=true->p.1 ∉ G->Ft l n (G++[p.1]):=fun h1 h2=>hG.snoc hp h1 h2
   have hgr:F.length<=G.length:=by
    cases c with
    |true=>exact Nat.le_of_lt (hc1 rfl)
    |false=>rw[(hc0 rfl).1];exact Nat.le_refl _
   obtain⟨o1,na1,xs1,nb1,ys1,nm1,n1,cs1,hA,hB⟩:=aM p;have hat:∀(j:Nat) (a:AV),(a6 p.1 o1 na1 xs1 nb1 ys1 nm1 n1 cs1)[j]? =some a->(bR l)[i*8+j]? =some a:=fun j a h=>b6 l i p hx j a (by rw[hB];exact h)
   rw[show dR p.2= .agg (ab o1 na1 xs1 nb1 ys1 nm1 n1 cs1) from congrArg DV.agg hA]at cn;have hndB:KZ n G p=(decide (n∈ej p.2) || G.any fun y=>decide (y∈ej p.2)):=rfl;generalize ej p.2=ns at *;generalize KZ n G p=nd at *;have ch:=mN ns n (by omega);refine xr ?_;refine kW ?_;refine lp ?_;refine Kt ?_;refine kW ?_;refine kQ (ch) ?_;refine aq Nat (fun k=>k<=G.length) (fun k=>⟨[(5, .own 3001 G.length 1 9),(0, .d (bF l)),(1, .d (dL n)),(6, .d (dB c)),(7, .d (dN .i64 i)),(8, .d (gM ns)),(9, .d (dB (decide (n∈ns) || (G.take k).any fun y=>decide (y∈ns)))),(10, .d (dN .i64 k))],[(3001,some (au G))]⟩) (fun k=>G.length-k) 0 (Nat.zero_le _) (weak ⟨rfl,rfl,rfl,rfl,rfl,rfl,congrArg (fun b=>TV.d (dB b)) (by simp),rfl,trivial⟩ ⟨rfl,trivial⟩ rfl) ?_;intro k hk
   by_cases hkl:k<G.length
   ·obtain⟨y,hy⟩:∃y,G[k]? =some y:=⟨G[k],by simp[hkl]⟩
    have cy:=mN ns y (by omega);have hst:=Kz hy (fun y=>decide (y∈ns));have hst2:(decide (n∈ns) || (G.take (k+1)).any fun y=>decide (y∈ns))=((decide (n∈ns) || (G.take k).any fun y=>decide (y∈ns)) || decide (y∈ns)):=by rw[hst,Bool.or_assoc]
    generalize(decide (n∈ns) || (G.take k).any fun y=>decide (y∈ns))=bb at *;cases bb with
    |true=>
     refine xr ?_;exact Oz
    |false=>
     refine xr ?_;refine qZ ?_;refine Au ?_
     refine kO5 ?_
     refine fY (i:=k) hkl rfl rfl rfl rfl rfl rfl rfl rfl rfl ?_;refine yj (xw hy) rfl rfl rfl rfl rfl rfl rfl rfl rfl ?_;refine kC (cy) ?_;exact Oz
   ·rw[List.take_of_length_le (show G.length<=k by omega),<- hndB]
    cases nd with
    |false=>
     refine pA ?_;refine kW ?_;exact⟨(i+1,G,c),⟨hil,hG,hc1,hkeep (fun h=>by cases h)⟩,by dsimp only;omega,weak ⟨rfl,rfl,rfl,rfl,ae (by dsimp only;omega) (by omega),trivial⟩ ⟨rfl,trivial⟩ rfl⟩
    |true=>
     have cg:=mN G p.1 (by omega)
     by_cases hm:p.1∈G
     ·rw[decide_eq_true hm]at cg
      refine pA ?_;refine kW ?_;refine lp ?_;refine Pa ?_;exact⟨(i+1,G,c),⟨hil,hG,hc1,hkeep (fun _=>hm)⟩,by dsimp only;omega,weak ⟨rfl,rfl,rfl,rfl,ae (by dsimp only;omega) (by omega),trivial⟩ ⟨rfl,trivial⟩ rfl⟩
     ·rw[decide_eq_false hm]at cg
      have hG2:=hsn rfl hm;refine pA ?_;refine kW ?_;refine lp ?_;refine Pa ?_;refine lp ?_
      refine kO3 ?_
      refine cY 17002 (m1:=G.length) (m2:=1) ac (by decide) (Nat.le_trans (Nat.mul_le_mul_right _ (show G.length+1<=1000001 by omega)) (by decide)) rfl rfl rfl rfl rfl rfl rfl rfl rfl rfl rfl (.own rfl rfl) rfl rfl rfl ?_;refine kW ?_;refine⟨(i+1,G++[p.1],true),⟨hil,hG2,(fun _=>by simp only[List.length_append,List.length_singleton];omega),(fun h=>by cases h)⟩,by dsimp only;omega,Eq.mpr (congrArg (bu _) (PL _ _ G p.1)) ?_⟩;exact bu.trans (b:=⟨[(5, .own 17002 (G.length+1) 1 9),(0, .d (bF l)),(1, .d (dL n)),(6, .d (dB true)),(7, .d (dN .i64 (i+1:Nat)))],[(17002,some ((au G).take (G.length*1)++[.val (vL p.1)]))]⟩) (weak ⟨rfl,rfl,rfl,rfl,ae (by omega) (by omega),trivial⟩ ⟨rfl,trivial⟩ rfl) ((aD (q:=5) (j:=17002) (j':=3001) rfl rfl rfl rfl).trans kw)
  ·refine pA ?_
   refine kW ?_;refine⟨(G,c),⟨hG,fun hc=>?_⟩,?_,weak ⟨rfl,rfl,rfl,rfl,trivial⟩ ⟨rfl,trivial⟩ rfl⟩
   ·obtain⟨rfl,h2⟩:=hc0 hc
    rw[List.take_of_length_le (by omega)]at h2;exact h2
   ·cases c with
    |true=>have:=hc1 rfl;simp only[if_true];omega
    |false=>have:=(hc0 rfl).1;subst this;simp
noncomputable def K4 (l:Tb) (n:L8):List L8:=gJ ((l.map (·.1)).filter fun x=> @decide (Bq l n x) (Classical.propDecidable _))
theorem rD (l:Tb) (n:L8):sM (K4 l n):=mI _
theorem rF {l:Tb} {n x:L8}:x∈K4 l n↔Bq l n x:=by
 unfold K4;rw[ft,List.mem_filter]
 constructor
 ·rintro⟨_,h⟩;exact @of_decide_eq_true _ (Classical.propDecidable _) h
 ·intro h
  obtain⟨p,hp,e⟩:=h.mem;exact⟨List.mem_map.2 ⟨p,hp,e⟩,@decide_eq_true _ (Classical.propDecidable _) h⟩
theorem Ft.ns {l:Tb} {n:L8} {F:List L8} (h:Ft l n F) (hc:TC l n F):Kh F=K4 l n:=by
 rw[FJ h.nd];exact oT (mI _) (rD l n) fun x=>by rw[ft,h.full hc,rF]
noncomputable def gH (l:Tb) (n:L8):List L8:=if gC l=0/\0<=gt l n then K4 l n else []
theorem iQ (l:Tb) (n:L8) (hs:jP l) (hl:l.length<=500):aa Tryz.prog 20 [bF l,dL n] (.one (gM (gH l n))):=by
 by_cases hv:gC l=0
 ·by_cases hn:0<=gt l n
  ·rw[show gH l n=K4 l n by unfold gH;rw[if_pos ⟨hv,hn⟩]]
   exact mG l n hs hl _ hv hn fun F h hc=>h.ns hc
  ·rw[show gH l n=[] by unfold gH;rw[if_neg fun h=>hn h.2]]
   have cv:=eJ l hs (by omega);have cf:=gi l n (by omega);rw[hv]at cv;generalize gt l n=f at *;refine kV func20 ?_;refine kC (cv) ?_
   refine kO4 ?_
   refine kC (cf) ?_;refine kT ?_;exact ax
 ·rw[show gH l n=[] by unfold gH;rw[if_neg fun h=>hv h.1]]
  have cv:=eJ l hs (by omega);generalize gC l=z at *;refine kV func20 ?_;refine kC (cv) ?_;refine kB true ?_ ?_
  ·exact bne_iff_ne.2 hv
  exact ax
abbrev Bv (n:L8):List AV:=[.val (vL n)]
theorem pK {n:L8}:eK [(900,Bv n)] [(900,Bv n)]:=eK.one (Nat.le_refl 1)
theorem F0 (q:Pm) (n:L8):bA Tryz.prog 115 [.d (sW q), .box 900 0] [(900,Bv n)] (.v (.one (dB (decide (q.1=n))))) [(900,Bv n)]:=by
 obtain⟨o1,na1,xs1,nb1,ys1,nm1,n1,cs1,hA,hB⟩:=aM q;refine Id ?_
 by_cases e:q.1=n
 ·rw[decide_eq_true e]
  refine bv ac fH func115 rfl rfl rfl rfl rfl (pK) ?_;refine kR ?_;refine kI ?_
  refine kO3 ?_
  refine aC rfl rfl rfl rfl rfl rfl rfl (bn (a:=q.1) (b:=n) e) ?_;exact jb
 ·rw[decide_eq_false e]
  refine bv ac fH func115 rfl rfl rfl rfl rfl (pK) ?_;refine kR ?_;refine kI ?_
  refine kO3 ?_
  refine aC rfl rfl rfl rfl rfl rfl rfl (bH (a:=q.1) (b:=n) e) ?_;exact jb
theorem oA {fid:FuncId} {p:Pm->Bool} {n:L8} (l:Tb) (hp:∀x∈l,bA Tryz.prog fid [.d (sW x), .box 900 0] [(900,Bv n)] (.v (.one (dB (p x)))) [(900,Bv n)]) (hl:l.length<=1000000):bA Tryz.prog 114 [.d (bF l), .clo (.func fid) [] [.box 900 0]] [(900,Bv n)] (.v (.one (dN .i64 (if l.findIdx p<l.length then((l.findIdx p:Nat):Int)else -1)))) [(900,Bv n)]:=by
 have hf:=List.findIdx_le_length (p:=p) (xs:=l)
 have hn:∀(i:Nat) (hi:i<l.length),i<l.findIdx p->p l[i]=false:=fun i hi h=>by
  exact EH
 have hy:∀(h:l.findIdx p<l.length),p (l[l.findIdx p])=true:=fun h=>List.findIdx_getElem
 generalize l.findIdx p=f at *;refine bv ac fH func114 rfl rfl rfl rfl rfl (pK) ?_;refine kW ?_
 refine aq Nat (fun i=>i<=f) (fun i=>⟨[(0, .d (bF l)),(1, .clo (.func fid) [] [.box 900 0]),(4, .d (dN .i64 0)),(7, .d (dN .i64 l.length)),(8, .d (dN .i64 i))],[(900,some (Bv n))]⟩) (fun i=>l.length-i) 0 (Nat.zero_le _)
  kw ?_
 intro i hi;refine kI ?_
 by_cases hlt:i<l.length
 ·refine kT ?_
  have hx:l[i]? =some l[i]:=by simp[hlt]
  have c:=hp l[i] (List.getElem_mem hlt);have hni:=hn i hlt;have hyi:∀h:i=f,p l[i]=true:=fun h=>by subst h;exact hy hlt
  generalize l[i]=q at *;obtain⟨o1,na1,xs1,nb1,ys1,nm1,n1,cs1,hA,hB⟩:=aM q;have hat:∀(j:Nat) (a:AV),(a6 q.1 o1 na1 xs1 nb1 ys1 nm1 n1 cs1)[j]? =some a->(bR l)[i*8+j]? =some a:=fun j a h=>b6 l i q hx j a (by rw[hB];exact h)
  rw[show sW q= .agg (a6 q.1 o1 na1 xs1 nb1 ys1 nm1 n1 cs1) from congrArg DV.agg hB]at c;refine kW ?_;refine bB (i:=i) (cs':=a6 q.1 o1 na1 xs1 nb1 ys1 nm1 n1 cs1) hlt hat (Nat.zero_lt_succ 7) rfl rfl rfl rfl rfl rfl rfl rfl ?_;refine kO ?_;exact NC
 ·rw[if_neg (by omega)]
  refine kE ?_;exact jb
theorem zp:∀(l:Tb) (n:L8),bX l n=l.findIdx fun q=>decide (q.1=n)
 | [],_=>rfl
 |p::r,n=>by
  rw[bX,List.findIdx_cons,<- zp r n]
  by_cases e:p.1=n<;>simp[e]
theorem iy (l:Tb) (n:L8) (hl:l.length<=1000000):aa Tryz.prog 60 [bF l,dL n] (.one (dN .i64 (gt l n))):=by
 have c:=(oA (fid:=115) (p:=fun q=>decide (q.1=n)) (n:=n) l (fun x _=>F0 x n) hl).swap 900 0 rfl;rw[<- zp l n]at c;unfold gt;generalize(if bX l n<l.length then((bX l n:Nat):Int)else -1)=f at *;refine kV func60 ?_;refine kD (c) ?_;exact ax
section
open Go.RowKit Go.Lib
theorem ED {S:Nat->Prop} {w:World} {v:Value} (h:AV.M S w (.sl 0 []) v):∃A c,v= .slice A 0 c:=by
 cases h with
 |emp=>exact⟨_,_,rfl⟩
 |sl=>exact⟨_,_,rfl⟩
theorem Bm:aa Tryz.prog 71 [.leaf (.sl 0 [])] (.tup []):=
 ⟨aG func71 rfl rfl,fun S w vs hS hv=>by
  match vs,hv with
  | [v],⟨h1,_⟩=>
   obtain⟨A,c,rfl⟩:=ED (show AV.M S w (.sl 0 []) v from h1);refine(Tryz.slices_Sort_string_none A c w).mono ?_;rintro e w' ⟨rfl,rfl⟩;exact⟨_,rfl,⟨[],rfl,rfl,fun i x u h=>by simp at h⟩,Below.refl _ _⟩⟩
theorem A0:aa Tryz.prog 172 [.leaf (.sl 0 [])] (.one (.leaf (.sl 0 []))):=
 ⟨aG func172 rfl rfl,fun S w vs hS hv=>by
  match vs,hv with
  | [v],⟨h1,_⟩=>
   have h1:AV.M S w (.sl 0 []) v:=h1;obtain⟨A,c,rfl⟩:=ED h1;refine(Tryz.slices_Compact_string_empty A c w).mono ?_;rintro e w' ⟨rfl,rfl⟩;exact⟨_,rfl,h1,Below.refl _ _⟩⟩
theorem tB:∀x,j0 x->gL x<=1000000->aa Tryz.prog 107 [dR x] (.one (.leaf (.sl (ej x).length (au (ej x))))):=by
 refine dq fun op na xs nb ys nm args ih hx hs=>?_
 obtain⟨_,_,_,_,_,_,hargs⟩:=hx;rw[gL]at hs;have hge:=jC args;rw[ej]
 have hz:(if op=2 then [nm]else [])=cond (decide (op=2)) [nm] []:=by
  exact OT
 rw[hz];clear hz;have hbl:(cond (decide (op=2)) [nm] []).length<=1:=by cases decide (op=2)<;>simp
 generalize hb:decide (op=2)=b at *;obtain⟨al,hal⟩:∃al:Nat->List L8,∀i,al i=cond b [nm] []++fR (args.take i):=⟨_,fun _=>rfl⟩;have hal0:al 0=cond b [nm] []:=by rw[hal];simp[fR]
 have hall:∀i,(al i).length<=1000000:=fun i=>by
  have:=mv args i;rw[hal,List.length_append];omega
 have hsn:∀i (h:i<args.length),al (i+1)=al i++ej args[i]:=fun i h=>by rw[hal,hal,wU h,List.append_assoc]
 have hend:cond b [nm] []++fR args=al args.length:=by rw[hal,List.take_length]
 rw[hend];have hlenA:=hall args.length;obtain⟨A,hA0⟩:∃A,al args.length=A:=⟨_,rfl⟩;rw[hA0]at hlenA ⊢;rw[<- nJ];refine CK ?_;refine kU func107 ?_;refine kR ?_;refine kR ?_;refine j3 ⟨[(3,mg 5001 (al 0)),(1, .box 0 0),(2, .nil)],[(5001,nU (al 0)),(0,some (ab op na xs nb ys nm args.length (db args)))]⟩ (fun s' hw2=>?_) (fun R hR _=>?_)
 ·clear hb hal hal0 hend
  refine bM (T:=TT) ?_;refine bW hw2 rfl ?_;refine kW ?_
  refine aq Nat (fun i=>i<=args.length) (fun i=>⟨[(3,mg 5001 (al i)),(2, .nil),(15, .d (.leaf (.sl args.length (db args)))),(16, .d (dN .i64 args.length)),(17, .d (dN .i64 i))],[(5001,nU (al i))]⟩) (fun i=>args.length-i) 0 (Nat.zero_le _)
   (by dsimp only;generalize al 0=B;cases B<;>first|exact weak ⟨rfl,rfl,rfl,rfl,rfl,trivial⟩ trivial rfl|exact weak ⟨rfl,rfl,rfl,rfl,rfl,trivial⟩ ⟨rfl,trivial⟩ rfl) ?_
  intro i hi
  by_cases hlt:i<args.length
  ·obtain⟨o1,na1,xs1,nb1,ys1,nm1,n1,cs1,hA⟩:=bz args[i]
   have hx:args[i]? =some args[i]:=by simp[hlt]
   have hat:∀(j:Nat) (a:AV),(ab o1 na1 xs1 nb1 ys1 nm1 n1 cs1)[j]? =some a->(db args)[i*7+j]? =some a:=fun j a h=>fq args i args[i] hx j a (by rw[hA];exact h)
   have c:=ih args[i] (List.getElem_mem hlt) (hargs _ (List.getElem_mem hlt)) (by have:=jB (List.getElem_mem hlt);omega);rw[show dR args[i]= .agg (ab o1 na1 xs1 nb1 ys1 nm1 n1 cs1) from congrArg DV.agg hA]at c;have hsi:=hsn i hlt;have hl2:=hall (i+1);rw[hsi]at hl2;generalize ej args[i]=Y at *;generalize al i=B at *;cases B with
   |nil=>
    cases Y with
    |nil=>
     refine kI ?_;refine kT ?_;refine mw ?_;refine Er ?_;refine qW ?_;rw[hsi];exact weak ⟨rfl,rfl,rfl,rfl,ae (by omega) (by omega),trivial⟩ trivial rfl
    |cons y r=>
     refine kI ?_;refine kT ?_;refine mw ?_;refine cY 5002 (m1:=0) (m2:=(y::r).length) ac (Nat.succ_pos _) (Nat.le_trans (Nat.mul_le_mul_right _ (show 0+(y::r).length<=1000000 by simp at hl2 ⊢;omega)) (by decide)) (by simp[au]) rfl rfl rfl rfl rfl rfl rfl rfl rfl rfl (.nil rfl rfl) rfl rfl (by rw[jd];rfl) ?_;refine qW ?_;rw[hsi]
     refine Eq.mpr (congrArg (bu _) (jY [(2, .nil),(15, .d (.leaf (.sl args.length (db args)))),(16, .d (dN .i64 args.length)),(17, .d (dN .i64 (i+1:Nat)))] [] 3 5001 ([]:List L8) y r)) (bu.trans (b:=⟨[(3, .own 5002 (0+(y::r).length) 1 9),(2, .nil),(15, .d (.leaf (.sl args.length (db args)))),(16, .d (dN .i64 args.length)),(17, .d (dN .i64 (i+1:Nat)))],[(5002,some ((au ([]:List L8)).take (0*1)++au (y::r)))]⟩) (weak ⟨rfl,rfl,rfl,rfl,ae (by omega) (by omega),trivial⟩ ⟨rfl,trivial⟩ rfl) ((aD (q:=3) (j:=5002) (j':=5001) rfl rfl rfl rfl).trans kw))
   |cons a B=>
    cases Y with
    |nil=>
     refine kI ?_;refine kT ?_;refine mw ?_;refine th ?_;refine qW ?_;rw[hsi,List.append_nil];exact weak ⟨rfl,rfl,rfl,rfl,ae (by omega) (by omega),trivial⟩ ⟨rfl,trivial⟩ rfl
    |cons y r=>
     refine kI ?_;refine kT ?_;refine mw ?_;refine cY 5002 (m1:=(a::B).length) (m2:=(y::r).length) ac (Nat.succ_pos _) (Nat.le_trans (Nat.mul_le_mul_right _ (show(a::B).length+(y::r).length<=1000000 by simp at hl2 ⊢;omega)) (by decide)) (by simp[au]) rfl rfl rfl rfl rfl rfl rfl rfl rfl rfl (.own rfl rfl) rfl rfl (by rw[jd];rfl) ?_;refine qW ?_;rw[hsi]
     refine Eq.mpr (congrArg (bu _) (jY [(2, .nil),(15, .d (.leaf (.sl args.length (db args)))),(16, .d (dN .i64 args.length)),(17, .d (dN .i64 (i+1:Nat)))] [] 3 5001 (a::B) y r)) (bu.trans (b:=⟨[(3, .own 5002 ((a::B).length+(y::r).length) 1 9),(2, .nil),(15, .d (.leaf (.sl args.length (db args)))),(16, .d (dN .i64 args.length)),(17, .d (dN .i64 (i+1:Nat)))],[(5002,some ((au (a::B)).take ((a::B).length*1)++au (y::r)))]⟩) (weak ⟨rfl,rfl,rfl,rfl,ae (by omega) (by omega),trivial⟩ ⟨rfl,trivial⟩ rfl) ((aD (q:=3) (j:=5002) (j':=5001) rfl rfl rfl rfl).trans kw))
  ·have hO:A=al i:=by rw[show i=args.length by omega,hA0]
   generalize al i=B at *;cases B with
   |nil=>
    refine qL ?_;refine kQ (Bm) ?_;refine kC (A0) ?_;refine iT ?_;rw[hO,nJ];rfl
   |cons a r=>
    have hlB:(a::r).length<=1000000:=by rw[<- hO];exact hlenA
    have ct1:bA Tryz.prog 71 [.own 5001 (a::r).length 1 9] [(5001,au (a::r))] (.v (.tup [])) [(5001,au ((a::r).mergeSort fun x y=>decide (x<=y)))]:=(E2 hlB).swap 901 5001 rfl;have hms:((a::r).mergeSort fun x y=>decide (x<=y)).length=(a::r).length:=List.length_mergeSort _;have ct2:bA Tryz.prog 172 [.own 5001 ((a::r).mergeSort fun x y=>decide (x<=y)).length 1 9] [(5001,au ((a::r).mergeSort fun x y=>decide (x<=y)))] (.own 5001 (Lib.compact ((a::r).mergeSort fun x y=>decide (x<=y))).length 1 9) [(5001,au (Lib.compact ((a::r).mergeSort fun x y=>decide (x<=y))++List.replicate (((a::r).mergeSort fun x y=>decide (x<=y)).length-(Lib.compact ((a::r).mergeSort fun x y=>decide (x<=y))).length) []))]:=(Dk (by omega)).swap 901 5001 rfl;rw[hms]at ct2
    have hcut:∀M:List L8,(au (Lib.compact M++List.replicate ((a::r).length-(Lib.compact M).length) [])).take (Lib.compact M).length=au (Lib.compact M):=fun M=>by
     rw[lh,List.take_left' (cL _)]
    generalize hM:((a::r).mergeSort fun x y=>decide (x<=y))=M at *;have hcM:=hcut M;refine qL ?_;refine kZ (ct1) ?_;refine kD (ct2) ?_;refine Oo ac rfl rfl rfl rfl ((a7 (q:=2) rfl rfl).trans (zh (q:=2) (Lib.compact M).length rfl)) ?_;refine iT ?_;rw[hO,hM,<- hcM];rfl
 ·exact Ng
end
theorem mJ (l:Tb) (hs:jP l) (hl:l.length<=1000000):aa Tryz.prog 17 [bF l] (.one (dN .i64 (gC l))):=by
 by_cases h200:200<l.length
 ·refine kU func17 ?_
  refine D1 ?_;refine iT ?_;exact NS
 have hv:gC l=A7 l 0 (l.drop 0):=by unfold gC;rw[if_neg h200];rfl
 rw[hv];clear hv;refine kV func17 ?_;refine zy ?_;refine kW ?_;refine aq Nat (fun i=>i<=l.length/\A7 l 0 (l.drop 0)=A7 l i (l.drop i)) (fun i=>⟨[(0, .d (bF l)),(9, .d (bF l)),(10, .d (dN .i64 l.length)),(11, .d (dN .i64 i))],[]⟩) (fun i=>l.length-i) 0 ⟨Nat.zero_le _,rfl⟩ kw ?_;rintro i ⟨hi,hv⟩;refine kI ?_
 by_cases hlt:i<l.length
 ·refine kT ?_
  obtain⟨p,hx⟩:∃p,l[i]? =some p:=⟨l[i],by simp[hlt]⟩;rw[ID hx]at hv;have hp:=List.mem_of_getElem? hx;obtain⟨hn,hsx⟩:=hs p hp;obtain⟨o1,na1,xs1,nb1,ys1,nm1,n1,cs1,hA,hB⟩:=aM p;have hat:∀(j:Nat) (a:AV),(a6 p.1 o1 na1 xs1 nb1 ys1 nm1 n1 cs1)[j]? =some a->(bR l)[i*8+j]? =some a:=fun j a h=>b6 l i p hx j a (by rw[hB];exact h)
  have c1:=lq p.1 (by omega);have c2:=qH p.2 hsx.wd hsx.lm (by have:=hsx.sz;omega);rw[show dR p.2= .agg (ab o1 na1 xs1 nb1 ys1 nm1 n1 cs1) from congrArg DV.agg hA]at c2;have c3:=iy l p.1 hl;have hf:=iC.2 ⟨p,hp,rfl⟩;rw[show gt l p.1=(bX l p.1:Nat) by unfold gt;rw[if_pos hf]]at c3;rcases Bool.eq_false_or_eq_true (n6 p.1)with hb|hb
  ·rw[if_pos hb]at hv
   rw[hb]at c1;refine kW ?_;refine sO ?_;refine iY ?_;refine kC (c2) ?_
   by_cases h0:qi p.2=0
   ·rw[if_pos h0]at hv
    refine iX ?_;refine Jq ?_;refine kW ?_;refine kC (c3) ?_;refine kO ?_
    by_cases h5:bX l p.1<i
    ·rw[if_pos h5]at hv
     refine kT ?_;refine iT ?_;exact B6
    ·rw[if_neg h5]at hv
     refine kY ?_;exact⟨i+1,⟨hlt,hv⟩,by omega,weak ⟨rfl,rfl,rfl,ae (by omega) (by omega),trivial⟩ trivial rfl⟩
   ·rw[if_neg h0]at hv
    refine iX ?_;refine xl ?_;refine iT ?_;exact B6
  ·rw[if_neg (by rw[hb];decide)]at hv
   rw[hb]at c1;refine kW ?_;refine sO ?_;refine kW ?_;refine kC (c1) ?_;refine iT ?_;exact B6
 ·exact M2
def Mu (l:Tb) (n:L8):Int × Int:=if gC l=0 then(if gt l n<0 then(0,4)else(gt l n,0))else(0,gC l)
theorem pj (l:Tb) (n:L8) (hs:jP l) (hl:l.length<=1000000):aa Tryz.prog 66 [bF l,dL n] (.tup [dN .i64 (Mu l n).1,dN .i64 (Mu l n).2]):=by
 have cv:=mJ l hs hl;have cf:=iy l n hl;unfold Mu
 by_cases hv:gC l=0
 ·rw[if_pos hv]
  rw[hv]at cv;generalize gt l n=f at *
  by_cases hf:f<0
  ·rw[if_pos hf]
   refine kU func66 ?_;refine uQ ?_;refine kC (cf) ?_;refine iX ?_;refine kB true ?_ ?_
   ·exact decide_eq_true hf
   exact ax
  ·rw[if_neg hf]
   refine kU func66 ?_;refine uQ ?_;refine kC (cf) ?_;refine iX ?_;refine kB false ?_ ?_
   ·exact decide_eq_false hf
   exact ax
 ·rw[if_neg hv]
  generalize gC l=z at *;refine kU func66 ?_;exact Et
theorem wK (l:List L8) (n:L8) (hl:l.length<=1000000):aa Tryz.prog 21 [gM l,dL n] (.one (dN .i64 (if l.findIdx (fun x=>decide (n=x))<l.length then((l.findIdx fun x=>decide (n=x):Nat):Int)else -1))):=by
 have hf:=List.findIdx_le_length (p:=fun x=>decide (n=x)) (xs:=l)
 have hn:∀(i:Nat) (hi:i<l.length),i<l.findIdx (fun x=>decide (n=x))-> ¬n=l[i]:=fun i hi h=>by
  exact EH
 have hy:∀(h:l.findIdx (fun x=>decide (n=x))<l.length),n=(l[l.findIdx (fun x=>decide (n=x))]):=fun h=>of_decide_eq_true (List.findIdx_getElem (p:=fun x=>decide (n=x)) (xs:=l) (w:=h))
 generalize l.findIdx (fun x=>decide (n=x))=f at *;refine kV func21 ?_
 refine aq Nat (fun i=>i<=f) (fun i=>⟨[(0, .d (gM l)),(1, .d (dL n)),(4, .d (dN .i64 0)),(7, .d (dN .i64 l.length)),(8, .d (dN .i64 i))],[]⟩) (fun i=>l.length-i) 0 (Nat.zero_le _)
  kw ?_
 intro i hi;refine kI ?_
 by_cases hlt:i<l.length
 ·refine kT ?_
  have hx:l[i]? =some l[i]:=by simp[hlt]
  have hni:=hn i hlt;have hyi:∀h:i=f,n=l[i]:=fun h=>by subst h;exact hy hlt
  generalize l[i]=q at *
  by_cases e:n=q
  ·have e2:i=f:=by
    by_cases e3:i<f
    ·exact absurd e (hni e3)
    ·omega
   subst e2;rw[if_pos hlt];refine KL ?_;refine aC rfl rfl rfl rfl rfl rfl rfl (bn (a:=n) (b:=q) e) ?_;exact ax
  ·refine KL ?_
   refine aC rfl rfl rfl rfl rfl rfl rfl (bH (a:=n) (b:=q) e) ?_;refine kW ?_;refine⟨i+1,?_,by omega,weak ⟨rfl,rfl,rfl,rfl,ae (by omega) (by omega),trivial⟩ trivial rfl⟩
   by_cases e3:i=f
   ·exact absurd (hyi e3) e
   ·omega
 ·rw[if_neg (by omega)]
  refine kE ?_;exact ax
theorem Fd (l:List L8) (n:L8) (hl:l.length<=1000000):∃i:Int,(0<=i↔n∈l)/\aa Tryz.prog 21 [gM l,dL n] (.one (dN .i64 i)):=by
 refine⟨_,?_,wK l n hl⟩;have:=List.findIdx_lt_length (p:=fun x=>decide (n=x)) (xs:=l)
 split
 ·rename_i h
  obtain⟨x,hx,e⟩:=this.1 h;have e:=of_decide_eq_true e;subst e;exact⟨fun _=>hx,fun _=>by omega⟩
 ·rename_i h
  exact⟨fun h=>by omega,fun hm=>absurd (this.2 ⟨n,hm,decide_eq_true rfl⟩) h⟩
theorem fC (l:List L8) (n:L8) (hl:l.length<=1000000):aa Tryz.prog 36 [gM l,dL n] (.one (dB (decide (n∈l)))):=by
 obtain⟨i,h1,c⟩:=Fd l n hl
 by_cases h:n∈l
 ·rw[decide_eq_true h]
  have:=h1.2 h;refine kV func36 ?_;refine kC (c) ?_;refine kT ?_;exact ax
 ·rw[decide_eq_false h]
  have:=fun h2=>h (h1.1 h2)
  refine kV func36 ?_;refine kC (c) ?_;refine kE ?_;exact ax
theorem vk (q:Pm) (n:L8) (hq:pe q.2):aa Tryz.prog 70 [sW q,dL n] (.one (dB (decide (n∈ej q.2)))):=by
 have cn:=tB q.2 hq.wd (by have:=hq.sz;omega);have cc:=fC (ej q.2) n (Nat.le_trans (ru q.2) (by have:=hq.sz;omega));obtain⟨o1,na1,xs1,nb1,ys1,nm1,n1,cs1,hA,hB⟩:=aM q;refine Id ?_;rw[show dR q.2= .agg (ab o1 na1 xs1 nb1 ys1 nm1 n1 cs1) from congrArg DV.agg hA]at cn;generalize ej q.2=ns at *;refine kV func70 ?_;refine kC (cn) ?_;refine kO ?_;refine kC (cc) ?_;exact ax
abbrev Gp (ns:List L8):List AV:=[.sl ns.length (au ns)]
theorem wZ {ns:List L8}:eK [(900,Gp ns)] [(900,Gp ns)]:=eK.one (Nat.le_refl 1)
theorem Fx (ns:List L8) (n:L8) (hl:ns.length<=1000000):bA Tryz.prog 108 [.d (dL n), .box 900 0] [(900,Gp ns)] (.v (.one (dB (!decide (n∈ns))))) [(900,Gp ns)]:=by
 have c:=fC ns n hl;generalize decide (n∈ns)=b at *;cases b
 all_goals(
  refine bv ac fH func108 rfl rfl rfl rfl rfl (wZ) ?_;refine kR ?_;refine kI ?_
  refine kO2 ?_
  refine kQ (c) ?_;exact⟨⟨_,rfl,rfl⟩,⟨rfl,trivial⟩⟩)
theorem uJ {fid:FuncId} {p:L8->Bool} {ns:List L8} (l:List L8) (hp:∀x∈l,bA Tryz.prog fid [.d (dL x), .box 900 0] [(900,Gp ns)] (.v (.one (dB (p x)))) [(900,Gp ns)]) (hl:l.length<=1000000):bA Tryz.prog 171 [.d (gM l), .clo (.func fid) [] [.box 900 0]] [(900,Gp ns)] (.v (.one (dN .i64 (if l.findIdx p<l.length then((l.findIdx p:Nat):Int)else -1)))) [(900,Gp ns)]:=by
 have hf:=List.findIdx_le_length (p:=p) (xs:=l)
 have hn:∀(i:Nat) (hi:i<l.length),i<l.findIdx p->p l[i]=false:=fun i hi h=>by
  exact EH
 have hy:∀(h:l.findIdx p<l.length),p (l[l.findIdx p])=true:=fun h=>List.findIdx_getElem
 generalize l.findIdx p=f at *;refine bv ac fH func171 rfl rfl rfl rfl rfl (wZ) ?_;refine kW ?_
 refine aq Nat (fun i=>i<=f) (fun i=>⟨[(0, .d (gM l)),(1, .clo (.func fid) [] [.box 900 0]),(4, .d (dN .i64 0)),(7, .d (dN .i64 l.length)),(8, .d (dN .i64 i))],[(900,some (Gp ns))]⟩) (fun i=>l.length-i) 0 (Nat.zero_le _)
  kw ?_
 intro i hi;refine kI ?_
 by_cases hlt:i<l.length
 ·refine kT ?_
  have hx:l[i]? =some l[i]:=by simp[hlt]
  have c:=hp l[i] (List.getElem_mem hlt);have hni:=hn i hlt;have hyi:∀h:i=f,p l[i]=true:=fun h=>by subst h;exact hy hlt
  generalize l[i]=q at *;refine KL ?_;exact NC
 ·rw[if_neg (by omega)]
  refine kE ?_;exact jb
theorem pF {fid:FuncId} {p:L8->Bool} {ns:List L8} (l:List L8) (hp:∀x∈l,bA Tryz.prog fid [.d (dL x), .box 900 0] [(900,Gp ns)] (.v (.one (dB (p x)))) [(900,Gp ns)]) (hl:l.length<=1000000):bA Tryz.prog 106 [.d (gM l), .clo (.func fid) [] [.box 900 0]] [(900,Gp ns)] (.v (.one (dB (l.any p)))) [(900,Gp ns)]:=by
 have c:=uJ l hp hl
 have hlt:(l.findIdx p<l.length)↔l.any p=true:=by
  rw[List.any_eq_true];exact List.findIdx_lt_length
 cases hb:l.any p with
 |true=>
  rw[if_pos (hlt.2 hb)]at c;refine bv ac fH func106 rfl rfl rfl rfl rfl (wZ) ?_;refine kW ?_;refine kD (c) ?_;refine kT ?_;exact jb
 |false=>
  rw[if_neg (fun h=>by rw[hlt.1 h]at hb;cases hb)]at c;refine bv ac fH func106 rfl rfl rfl rfl rfl (wZ) ?_;refine kW ?_;refine kD (c) ?_;exact jb
theorem Lx (x:Rx) (ns:List L8):(!((ej x).any fun n=>!decide (n∈ns)))=pQ x ns:=by
 unfold pQ
 induction ej x with
 |nil=>rfl
 |cons a r ih=>rw[List.any_cons,List.all_cons,Bool.not_or,ih,Bool.not_not]
theorem m9 (q:Pm) (ns:List L8) (hq:pe q.2) (hl:ns.length<=1000000):aa Tryz.prog 54 [sW q,gM ns] (.one (dB (pQ q.2 ns))):=by
 have cn:=tB q.2 hq.wd (by have:=hq.sz;omega);have cc:=(pF (fid:=108) (p:=fun n=>!decide (n∈ns)) (ns:=ns) (ej q.2) (fun x _=>Fx ns x hl) (Nat.le_trans (ru q.2) (by have:=hq.sz;omega))).swap 900 1 rfl;have hr:=Lx q.2 ns;obtain⟨o1,na1,xs1,nb1,ys1,nm1,n1,cs1,hA,hB⟩:=aM q;refine Id ?_;rw[show dR q.2= .agg (ab o1 na1 xs1 nb1 ys1 nm1 n1 cs1) from congrArg DV.agg hA]at cn;rw[<- hr];clear hr;generalize((ej q.2).any fun n=>!decide (n∈ns))=b at *;generalize ej q.2=ms at *;cases b
 all_goals(
  refine kV func54 ?_;refine kC (cn) ?_;refine kO ?_;refine kD (cc) ?_;exact kF)
theorem MU {l:Tb} {i:Nat} {p:Pm} (h:l[i]? =some p):au ((l.take (i+1)).map (·.1))=au ((l.take i).map (·.1))++[.val (vL p.1)]:=by
 rw[bi h,List.map_append,lh];rfl
theorem H5 {a:L8}:((Bs a).toList == (ByteArray.mk #[]).toList)=true↔a=[]:=by
 rw[show(ByteArray.mk #[]).toList=[] from ByteArray.toList_mk [],fZ]
 simp
theorem Dv {a:L8} (h:¬a=[]):((Bs a).toList == (ByteArray.mk #[]).toList)=false:=by
 cases e:((Bs a).toList == (ByteArray.mk #[]).toList)
 ·rfl
 ·exact absurd (H5.1 e) h
theorem ir (l:Tb) (hs:jP l) (hl:l.length<=1000):aa Tryz.prog 14 [bF l] (.tup [gM (bf l).1,dN .i64 (bf l).2]):=by
 have cv:=mJ l hs (by omega)
 by_cases hv:gC l=0
 case neg=>
  rw[show bf l=([],gC l) by unfold bf;rw[if_neg hv]];generalize gC l=z at *;refine kU func14 ?_;exact Et
 have ho:=lz hv;rw[hv]at cv;have hord:bf l=if l.all (fun p=>pQ p.2 (l.map (·.1)))=true then((match fk l l.length []with|some o=>(o,0)|none=>([],9)):List L8 × Int)else([],4):=by unfold bf;rw[if_pos hv];rfl
 obtain⟨RS,hRS⟩:∃RS,bf l=RS:=⟨_,rfl⟩;rw[hRS]at hord ⊢;clear hRS hv;have hby:∀k,k<=1001->k*16<=140737488355328:=fun k hk=>by omega
 refine kU func14 ?_;refine uQ ?_;refine aq Nat (fun i=>i<=l.length) (fun i=>⟨[(5,gV 5001 1 9 i),(0, .d (bF l)),(19, .d (bF l)),(20, .d (dN .i64 l.length)),(21, .d (dN .i64 i))],[(5001,gX (au ((l.take i).map (·.1))) i)]⟩) (fun i=>l.length-i) 0 (Nat.zero_le _) kw ?_;intro i hi;refine kI ?_
 by_cases hil:i<l.length
 ·refine kT ?_
  obtain⟨p,hx⟩:∃p,l[i]? =some p:=⟨l[i],by simp[hil]⟩;obtain⟨o1,na1,xs1,nb1,ys1,nm1,n1,cs1,hA,hB⟩:=aM p;have hat:∀(j:Nat) (a:AV),(a6 p.1 o1 na1 xs1 nb1 ys1 nm1 n1 cs1)[j]? =some a->(bR l)[i*8+j]? =some a:=fun j a h=>b6 l i p hx j a (by rw[hB];exact h)
  have hsn:=MU hx;have hpl:(au ((l.take i).map (·.1))).length=i*1:=by rw[cL,List.length_map,List.length_take];omega
  generalize au ((l.take i).map (·.1))=O at *;have hst:(⟨[(5,gV 5001 1 9 (i+1)),(0, .d (bF l)),(19, .d (bF l)),(20, .d (dN .i64 l.length)),(21, .d (dN .i64 (i+1:Nat)))],[(5001,gX (au ((l.take (i+1)).map (·.1))) (i+1))]⟩:AS)=⟨[(5,gV 5001 1 9 (i+1)),(0, .d (bF l)),(19, .d (bF l)),(20, .d (dN .i64 l.length)),(21, .d (dN .i64 (i+1:Nat)))],[(5001,gX (O++[.val (vL p.1)]) (i+1))]⟩:=by rw[hsn]
  refine kW ?_;refine lp ?_;refine kW ?_;refine II 5002 (J:=5001) (m1:=i) (m2:=1) (cs:=O) (xs:=[.val (vL p.1)]) ac (hby _ (by omega)) hpl rfl rfl rfl rfl rfl rfl rfl rfl rfl rfl rfl rfl rfl rfl rfl rfl rfl ?_;refine kW ?_;refine⟨i+1,hil,by omega,?_⟩;refine Eq.mpr (congrArg (bu _) hst) ?_;exact bu.tr (b:=⟨[(5,gV 5002 1 9 (i+1)),(0, .d (bF l)),(19, .d (bF l)),(20, .d (dN .i64 l.length)),(21, .d (dN .i64 (i+1:Nat)))],[(5002,gX (O++[.val (vL p.1)]) (i+1))]⟩) (weak ⟨rfl,rfl,rfl,rfl,ae (by omega) (by omega),trivial⟩ ⟨rfl,trivial⟩ rfl) ((tQ (q:=5) (J:=5002) (J':=5001) rfl rfl rfl).tr kw)
 obtain rfl:i=l.length:=by omega
 rw[List.take_length];clear hi hil;have hAl:l.length=(l.map (·.1)).length:=(List.length_map ..).symm;have hA0:(l.map (·.1)).length<=1000:=by omega
 refine wN ?_;refine bW (gR (q:=5) (J:=5001) (m:=l.length) (cs:=au (l.map (·.1))) (fun h=>by rw[List.eq_nil_of_length_eq_zero h];rfl) rfl rfl) rfl ?_;refine kW ?_;refine aq Nat (fun i=>i<=l.length/\ ∀p∈l.take i,pQ p.2 (l.map (·.1))=true) (fun i=>⟨[(5, .d (gM (l.map (·.1)))),(0, .d (bF l)),(31, .d (bF l)),(32, .d (dN .i64 l.length)),(33, .d (dN .i64 i))],[]⟩) (fun i=>l.length-i) 0 ⟨Nat.zero_le _,by simp⟩ (weak ⟨congrArg (fun k=>TV.d (.leaf (.sl k (au (l.map fun x:Pm=>x.1))))) hAl,rfl,rfl,rfl,rfl,trivial⟩ trivial rfl) ?_;rintro i ⟨hi,hall⟩
 by_cases hil:i<l.length
 ·obtain⟨p,hx⟩:∃p,l[i]? =some p:=⟨l[i],by simp[hil]⟩
  have hp:=List.mem_of_getElem? hx;have cr:=m9 p (l.map (·.1)) (hs p hp).2 (by omega);obtain⟨o1,na1,xs1,nb1,ys1,nm1,n1,cs1,hA,hB⟩:=aM p;have hat:∀(j:Nat) (a:AV),(a6 p.1 o1 na1 xs1 nb1 ys1 nm1 n1 cs1)[j]? =some a->(bR l)[i*8+j]? =some a:=fun j a h=>b6 l i p hx j a (by rw[hB];exact h)
  rw[show sW p= .agg (a6 p.1 o1 na1 xs1 nb1 ys1 nm1 n1 cs1) from congrArg DV.agg hB]at cr
  have hstep:pQ p.2 (l.map (·.1))=true-> ∀q∈l.take (i+1),pQ q.2 (l.map (·.1))=true:=fun h q hq=>by
   rw[bi hx]at hq;exact Om
  have hbad:pQ p.2 (l.map (·.1))=false->RS=([],4):=fun h=>by
   rw[hord,if_neg];intro h2;have:=List.all_eq_true.1 h2 p hp;rw[h]at this;cases this
  generalize pQ p.2 (l.map (·.1))=rb at *;generalize l.map (·.1)=A at *;cases rb with
  |true=>
   refine mR ?_;refine lp ?_;refine kW ?_;refine kQ (cr) ?_;exact⟨i+1,⟨hil,hstep rfl⟩,by omega,weak ⟨rfl,rfl,rfl,rfl,ae (by omega) (by omega),trivial⟩ trivial rfl⟩
  |false=>
   refine mR ?_;refine lp ?_;refine kW ?_;refine kC (cr) ?_;refine iT ?_;rw[hbad rfl];rfl
 rw[List.take_of_length_le (by omega)]at hall;have hord:RS=(match fk l l.length []with|some o=>(o,0)|none=>([],9)):=by rw[hord,if_pos (List.all_eq_true.2 hall)]
 clear hall hAl hA0;refine qL ?_;clear hil hi;refine aq (List L8) (fun o=>o.length<=l.length/\fk l (l.length-o.length) o=fk l l.length []) (fun o=>⟨[(10,mg 6001 o),(0, .d (bF l))],[(6001,nU o)]⟩) (fun o=>l.length-o.length) [] ⟨Nat.zero_le _,rfl⟩ kw ?_;rintro o ⟨hol,hog⟩;have ho1:o.length<=1000000:=by omega
 by_cases hlo:o.length<l.length
 case neg=>
  have hend:RS=(o,0):=by rw[hord,<- hog,show l.length-o.length=0 by omega];rfl
  cases o with
  |nil=>
   refine NU ?_;refine iT ?_;rw[hend];rfl
  |cons a r=>
   refine kI ?_
   refine kO4 ?_
   refine wN ?_;refine bW (a7 (q:=10) rfl rfl) rfl ?_;refine iT ?_;rw[hend];rfl
 obtain⟨kk,hkk⟩:∃kk,l.length-o.length=kk+1:=⟨l.length-o.length-1,by omega⟩;rw[hkk,fk]at hog
 have hcont:pd l o≠[]->fk l (l.length-(o++[pd l o]).length) (o++[pd l o])=fk l l.length []:=fun hn=>by
  rw[if_neg hn]at hog;exact O0
 have hcyc:pd l o=[]->RS=([],9):=fun h=>by rw[if_pos h]at hog;rw[hord,<- hog]
 cases o with
 |nil=>
  refine NH ?_;refine aq Nat (fun i=>i<=l.length) (fun i=>⟨[(10, .nil),(0, .d (bF l)),(47, .d (bF l)),(48, .d (dN .i64 l.length)),(49, .d (dN .i64 i)),(11, .d (dL ((l.take i).foldl (ij ([])) [])))],[]⟩) (fun i=>l.length-i) 0 (Nat.zero_le _) kw ?_;intro i hi;obtain⟨nx,hnx⟩:∃nx,(l.take i).foldl (ij ([])) []=nx:=⟨_,rfl⟩;rw[hnx]
  by_cases hlt:i<l.length
  ·obtain⟨p,hx⟩:∃p,l[i]? =some p:=⟨l[i],by simp[hlt]⟩
   have hnext:=ol hx hnx;have hp:=List.mem_of_getElem? hx;have hsx:=(hs p hp).2;obtain⟨o1,na1,xs1,nb1,ys1,nm1,n1,cs1,hA,hB⟩:=aM p;have hat:∀(j:Nat) (a:AV),(a6 p.1 o1 na1 xs1 nb1 ys1 nm1 n1 cs1)[j]? =some a->(bR l)[i*8+j]? =some a:=fun j a h=>b6 l i p hx j a (by rw[hB];exact h)
   have c1:=fC ([]) p.1 ho1;have c2:=m9 p ([]) hsx ho1;rw[show sW p= .agg (a6 p.1 o1 na1 xs1 nb1 ys1 nm1 n1 cs1) from congrArg DV.agg hB]at c2;have hcd:pU ([]) p=(!(decide (p.1∈([]:List L8))) && pQ p.2 ([])):=rfl
   have keep:pU ([]) p=false∨(nx≠[]/\Op.bytesLess p.1 nx=false)->nx=(l.take (i+1)).foldl (ij ([])) []:=fun h=>by
    exact OM
   have take:pU ([]) p=true->(nx=[]∨Op.bytesLess p.1 nx=true)->p.1=(l.take (i+1)).foldl (ij ([])) []:=fun h1 h2=>by
    rw[hnext,ij,if_pos ⟨h1,h2⟩]
   generalize pQ p.2 ([])=rb at *
   have hall:decide (p.1∈([]:List L8))=true∨(decide (p.1∈([]:List L8))=false/\rb=false)∨(decide (p.1∈([]:List L8))=false/\rb=true/\nx=[]) ∨
    (decide (p.1∈([]:List L8))=false/\rb=true/\nx≠[]/\Op.bytesLess p.1 nx=false)∨(decide (p.1∈([]:List L8))=false/\rb=true/\nx≠[]/\Op.bytesLess p.1 nx=true):=by
    cases decide (p.1∈([]:List L8))<;>cases rb<;>cases Op.bytesLess p.1 nx<;>by_cases h:nx=[]<;>simp[h]
   rcases hall with hb1| ⟨hb1,rfl⟩| ⟨hb1,rfl,h0⟩| ⟨hb1,rfl,h0,hls⟩| ⟨hb1,rfl,h0,hls⟩
   ·rw[hb1]at c1
    refine mR ?_;refine sO ?_;refine iY ?_;exact O4
   ·rw[hb1]at c1
    refine mR ?_;refine sO ?_;refine Ep ?_;refine kW ?_;exact O4
   ·rw[hb1]at c1
    refine mR ?_;refine sO ?_;refine Ep ?_
    refine kO3 ?_
    refine aC rfl rfl rfl rfl rfl rfl rfl (bn (a:=nx) (b:=[]) h0) ?_;refine kW ?_;exact⟨i+1,hlt,by omega,weak ⟨rfl,rfl,rfl,rfl,ae (by omega) (by omega),congrArg (fun z=>TV.d (dL z)) (take (by rw[hcd,hb1];rfl) (.inl h0)),trivial⟩ trivial rfl⟩
   ·rw[hb1]at c1
    refine mR ?_;refine sO ?_;refine Ep ?_;refine LV ?_;exact⟨i+1,hlt,by omega,weak ⟨rfl,rfl,rfl,rfl,ae (by omega) (by omega),congrArg (fun z=>TV.d (dL z)) (keep (.inr ⟨h0,hls⟩)),trivial⟩ trivial rfl⟩
   ·rw[hb1]at c1
    refine mR ?_;refine sO ?_;refine Ep ?_;refine LV ?_;exact⟨i+1,hlt,by omega,weak ⟨rfl,rfl,rfl,rfl,ae (by omega) (by omega),congrArg (fun z=>TV.d (dL z)) (take (by rw[hcd,hb1];rfl) (.inr hls)),trivial⟩ trivial rfl⟩
  ·rw[List.take_of_length_le (by omega)]at hnx
   have hnN:pd l ([])=nx:=hnx
   by_cases h0:nx=[]
   ·exact N5
   ·rw[hnN]at hcont
    refine qL ?_;refine eD (T:=TT) rfl ?_ ?_
    ·exact(Dv h0)
    refine kW ?_;refine cY 6002 (m1:=([]:List L8).length) (m2:=1) ac (by decide) (Nat.le_trans (Nat.mul_le_mul_right _ (show([]:List L8).length+1<=1000001 by omega)) (by decide)) rfl rfl rfl rfl rfl rfl rfl rfl rfl rfl rfl (.nil rfl rfl) rfl rfl rfl ?_;refine kW ?_;refine⟨([])++[nx],⟨by simp only[List.length_append,List.length_cons,List.length_nil]at hlo ⊢;omega,hcont h0⟩,by simp only[List.length_append,List.length_cons,List.length_nil]at hlo ⊢;omega,Eq.mpr (congrArg (bu _) (jY [(0, .d (bF l))] [] 10 6001 ([]) nx [])) ?_⟩;exact bu.trans (b:=⟨[(10, .own 6002 (([]:List L8).length+1) 1 9),(0, .d (bF l))],[(6002,some ((au ([])).take (([]:List L8).length*1)++[.val (vL nx)]))]⟩) kw ((aD (q:=10) (j:=6002) (j':=6001) rfl rfl rfl rfl).trans kw)
 |cons a r=>
  refine vV ?_;refine kW ?_;refine aq Nat (fun i=>i<=l.length) (fun i=>⟨[(10, .own 6001 (List.cons a r).length 1 9),(0, .d (bF l)),(47, .d (bF l)),(48, .d (dN .i64 l.length)),(49, .d (dN .i64 i)),(11, .d (dL ((l.take i).foldl (ij (List.cons a r)) [])))],[(6001,some (au (List.cons a r)))]⟩) (fun i=>l.length-i) 0 (Nat.zero_le _) kw ?_;intro i hi;obtain⟨nx,hnx⟩:∃nx,(l.take i).foldl (ij (List.cons a r)) []=nx:=⟨_,rfl⟩;rw[hnx]
  by_cases hlt:i<l.length
  ·obtain⟨p,hx⟩:∃p,l[i]? =some p:=⟨l[i],by simp[hlt]⟩
   have hnext:=ol hx hnx;have hp:=List.mem_of_getElem? hx;have hsx:=(hs p hp).2;obtain⟨o1,na1,xs1,nb1,ys1,nm1,n1,cs1,hA,hB⟩:=aM p;have hat:∀(j:Nat) (a:AV),(a6 p.1 o1 na1 xs1 nb1 ys1 nm1 n1 cs1)[j]? =some a->(bR l)[i*8+j]? =some a:=fun j a h=>b6 l i p hx j a (by rw[hB];exact h)
   have c1:=fC (List.cons a r) p.1 ho1;have c2:=m9 p (List.cons a r) hsx ho1;rw[show sW p= .agg (a6 p.1 o1 na1 xs1 nb1 ys1 nm1 n1 cs1) from congrArg DV.agg hB]at c2;have hcd:pU (List.cons a r) p=(!(decide (p.1∈(List.cons a r:List L8))) && pQ p.2 (List.cons a r)):=rfl
   have keep:pU (List.cons a r) p=false∨(nx≠[]/\Op.bytesLess p.1 nx=false)->nx=(l.take (i+1)).foldl (ij (List.cons a r)) []:=fun h=>by
    exact OM
   have take:pU (List.cons a r) p=true->(nx=[]∨Op.bytesLess p.1 nx=true)->p.1=(l.take (i+1)).foldl (ij (List.cons a r)) []:=fun h1 h2=>by
    rw[hnext,ij,if_pos ⟨h1,h2⟩]
   generalize pQ p.2 (List.cons a r)=rb at *
   have hall:decide (p.1∈(List.cons a r:List L8))=true∨(decide (p.1∈(List.cons a r:List L8))=false/\rb=false)∨(decide (p.1∈(List.cons a r:List L8))=false/\rb=true/\nx=[]) ∨
    (decide (p.1∈(List.cons a r:List L8))=false/\rb=true/\nx≠[]/\Op.bytesLess p.1 nx=false)∨(decide (p.1∈(List.cons a r:List L8))=false/\rb=true/\nx≠[]/\Op.bytesLess p.1 nx=true):=by
    cases decide (p.1∈(List.cons a r:List L8))<;>cases rb<;>cases Op.bytesLess p.1 nx<;>by_cases h:nx=[]<;>simp[h]
   rcases hall with hb1| ⟨hb1,rfl⟩| ⟨hb1,rfl,h0⟩| ⟨hb1,rfl,h0,hls⟩| ⟨hb1,rfl,h0,hls⟩
   ·rw[hb1]at c1
    refine mR ?_;refine sO ?_;refine NX ?_;exact ON
   ·rw[hb1]at c1
    refine mR ?_;refine sO ?_;refine MH ?_;exact ON
   ·rw[hb1]at c1
    refine mR ?_;refine sO ?_;refine MH ?_
    refine kO3 ?_
    refine aC rfl rfl rfl rfl rfl rfl rfl (bn (a:=nx) (b:=[]) h0) ?_;refine kW ?_;exact⟨i+1,hlt,by omega,weak ⟨rfl,rfl,rfl,rfl,ae (by omega) (by omega),congrArg (fun z=>TV.d (dL z)) (take (by rw[hcd,hb1];rfl) (.inl h0)),trivial⟩ ⟨rfl,trivial⟩ rfl⟩
   ·rw[hb1]at c1
    refine mR ?_;refine sO ?_;refine MH ?_;refine LV ?_;exact⟨i+1,hlt,by omega,weak ⟨rfl,rfl,rfl,rfl,ae (by omega) (by omega),congrArg (fun z=>TV.d (dL z)) (keep (.inr ⟨h0,hls⟩)),trivial⟩ ⟨rfl,trivial⟩ rfl⟩
   ·rw[hb1]at c1
    refine mR ?_;refine sO ?_;refine MH ?_;refine LV ?_;exact⟨i+1,hlt,by omega,weak ⟨rfl,rfl,rfl,rfl,ae (by omega) (by omega),congrArg (fun z=>TV.d (dL z)) (take (by rw[hcd,hb1];rfl) (.inr hls)),trivial⟩ ⟨rfl,trivial⟩ rfl⟩
  ·rw[List.take_of_length_le (by omega)]at hnx
   have hnN:pd l (List.cons a r)=nx:=hnx
   by_cases h0:nx=[]
   ·exact N5
   ·rw[hnN]at hcont
    refine qL ?_;refine eD (T:=TT) rfl ?_ ?_
    ·exact(Dv h0)
    refine kW ?_;refine cY 6002 (m1:=(List.cons a r:List L8).length) (m2:=1) ac (by decide) (Nat.le_trans (Nat.mul_le_mul_right _ (show(List.cons a r:List L8).length+1<=1000001 by omega)) (by decide)) rfl rfl rfl rfl rfl rfl rfl rfl rfl rfl rfl (.own rfl rfl) rfl rfl rfl ?_;refine kW ?_;refine⟨(List.cons a r)++[nx],⟨by simp only[List.length_append,List.length_cons,List.length_nil]at hlo ⊢;omega,hcont h0⟩,by simp only[List.length_append,List.length_cons,List.length_nil]at hlo ⊢;omega,Eq.mpr (congrArg (bu _) (jY [(0, .d (bF l))] [] 10 6001 (List.cons a r) nx [])) ?_⟩
    exact bu.trans (b:=⟨[(10, .own 6002 ((List.cons a r:List L8).length+1) 1 9),(0, .d (bF l))],[(6002,some ((au (List.cons a r)).take ((List.cons a r:List L8).length*1)++[.val (vL nx)]))]⟩) kw ((aD (q:=10) (j:=6002) (j':=6001) rfl rfl rfl rfl).trans kw)
theorem xW (l:Tb) (x:Rx) (c2:aa Tryz.prog 35 [bF l] (KY (qc l))) (hs:jP l) (hx:pe x) (hvs:(bf l).2=0->GN l):aa Tryz.prog 27 [bF l,dR x] (J0 l x):=by
 have c1:=qH x hx.wd hx.lm (by have:=hx.sz;omega);have he:= @oJ l hs hvs;have hee:= @Ce l;have hxo:=Db hx;unfold J0;generalize qi x=vx at *;generalize qc l=vv at *
 have c3:vx=0-> ∀env,vv= .ok env->aa Tryz.prog 69 [dR x,eU env,eT env] (cP (bh (az env) (ia x))):=fun h0 env henv=>by
  obtain⟨h1,h2,h3⟩:=he henv;obtain⟨h4,h5,h6⟩:=hxo h0;have:=dU (l:=env) h1 h2 h3 (ia x) h4 h5
  rwa[show dE (ia x)=dR x from congrArg dR h6]at this
 clear he hxo;generalize ia x=ex at *;obtain⟨o1,na1,xs1,nb1,ys1,nm1,n1,cs1,hA⟩:=bz x;rw[show dR x= .agg (ab o1 na1 xs1 nb1 ys1 nm1 n1 cs1) from congrArg DV.agg hA]at *
 by_cases h0:vx=0
 case neg=>
  rw[if_neg h0];refine kV func27 ?_;refine kC (c1) ?_;refine iX ?_;refine xl ?_;exact ax
 rw[if_pos h0];rw[h0]at c1;cases vv with
 |error e=>
  have hne:=hee rfl;refine kU func27 ?_;exact Ou
 |ok env=>
  have c3:=c3 h0 env rfl;dsimp only;cases hev:bh (az env) ex with
  |error z=>
   rw[hev]at c3;refine kU func27 ?_;exact Fc
  |ok y=>
   rw[hev]at c3;refine kU func27 ?_;exact Fc
theorem Dm (q:Pm) (n:L8) (hq:pe q.2):bA Tryz.prog 86 [.d (sW q), .box 900 0] [(900,Bv n)] (.v (.one (dB (decide (n∈ej q.2))))) [(900,Bv n)]:=by
 have c:=vk q n hq;obtain⟨o1,na1,xs1,nb1,ys1,nm1,n1,cs1,hA,hB⟩:=aM q;rw[show sW q= .agg (a6 q.1 o1 na1 xs1 nb1 ys1 nm1 n1 cs1) from congrArg DV.agg hB]at *;generalize decide (n∈ej q.2)=b at *;cases b
 all_goals(
  refine bv ac fH func86 rfl rfl rfl rfl rfl (pK) ?_;refine kR ?_;refine kI ?_
  refine kO2 ?_
  refine kQ (c) ?_;exact⟨⟨_,rfl,rfl⟩,⟨rfl,trivial⟩⟩)
theorem pP {fid:FuncId} {p:Pm->Bool} {n:L8} (l:Tb) (hp:∀x∈l,bA Tryz.prog fid [.d (sW x), .box 900 0] [(900,Bv n)] (.v (.one (dB (p x)))) [(900,Bv n)]) (hl:l.length<=1000000):bA Tryz.prog 85 [.d (bF l), .clo (.func fid) [] [.box 900 0]] [(900,Bv n)] (.v (.one (dB (l.any p)))) [(900,Bv n)]:=by
 have c:=oA l hp hl
 have hlt:(l.findIdx p<l.length)↔l.any p=true:=by
  rw[List.any_eq_true];exact List.findIdx_lt_length
 cases hb:l.any p with
 |true=>
  rw[if_pos (hlt.2 hb)]at c;refine bv ac fH func85 rfl rfl rfl rfl rfl (pK) ?_;refine kW ?_;refine kD (c) ?_;refine kT ?_;exact jb
 |false=>
  rw[if_neg (fun h=>by rw[hlt.1 h]at hb;cases hb)]at c;refine bv ac fH func85 rfl rfl rfl rfl rfl (pK) ?_;refine kW ?_;refine kD (c) ?_;exact jb
theorem eH (l:Tb) (hl:l.length<=1000):aa Tryz.prog 15 [bF l] (.one (bF l)):=by
 have hok:=oE l;have hlc:=dO l;have hby:∀k,k<=1001->k*128<=140737488355328:=fun k hk=>by omega
 cases l with
 |nil=>
  refine kV func15 ?_;refine qC 1001 ac rfl rfl rfl rfl rfl rfl rfl rfl ?_;refine kO ?_;refine th ?_;refine CT ?_;exact ax
 |cons a r=>
  refine kV func15 ?_;refine qC 1001 ac rfl rfl rfl rfl rfl rfl rfl rfl ?_;refine kO ?_;refine cY 1002 (m1:=0) (m2:=(a::r).length) ac (Nat.zero_lt_succ _) (hby _ (by omega)) hlc rfl rfl rfl rfl rfl rfl rfl rfl rfl rfl (.own rfl rfl) rfl rfl (by rw[hok];rfl) ?_;rw[Nat.zero_add (a::r).length];refine CT ?_;exact ax
theorem g8 (l:List L8) (hl:l.length<=1000000):aa Tryz.prog 19 [gM l,gM l] (.one (dB true)):=by
 refine kU func19 ?_;refine jT ?_;refine BY ?_;refine aq Nat (fun i=>i<=l.length) (fun i=>⟨[(0, .d (gM l)),(1, .d (gM l)),(12, .d (dN .i64 l.length)),(13, .d (dN .i64 i))],[]⟩) (fun i=>l.length-i) 0 (Nat.zero_le _) kw ?_;intro i hi;refine kI ?_
 by_cases hil:i<l.length
 ·refine kT ?_
  obtain⟨x,hx⟩:∃x,l[i]? =some x:=⟨l[i],by simp[hil]⟩;refine kW ?_;refine bB (i:=i) (cs':=[.val (vL x)]) hil (d4 hx) (Nat.zero_lt_succ 0) rfl rfl rfl rfl rfl rfl rfl rfl ?_
  refine kO3 ?_
  refine bB (i:=i) (cs':=[.val (vL x)]) hil (d4 hx) (Nat.zero_lt_succ 0) rfl rfl rfl rfl rfl rfl rfl rfl ?_;refine kO ?_;refine aC rfl rfl rfl rfl rfl rfl rfl (fD (a:=x) (b:=x) rfl) ?_;refine kW ?_;exact⟨i+1,hil,by omega,weak ⟨rfl,rfl,rfl,ae (by omega) (by omega),trivial⟩ trivial rfl⟩
 ·refine kE ?_
  exact ax
theorem C3:∀(l:EL) (i:Nat) (x:L8 × (Rat × Int)),l[i]? =some x-> ∀(j:Nat) (a:AV),(jS x.2.1 x.2.2)[j]? =some a->(j4 l)[i*5+j]? =some a
 | [],i,x,h,_,_,_=>by simp at h
 |y::r,0,x,h,j,a,ha=>by
  simp at h
  subst h;rw[Nat.zero_mul,Nat.zero_add,j4,List.getElem?_append_left (List.getElem?_eq_some_iff.1 ha).1];exact ha
 |y::r,i+1,x,h,j,a,ha=>by
  rw[j4,show(i+1)*5+j=(jS y.2.1 y.2.2).length+(i*5+j) by rw[ri];omega,List.getElem?_append_right (by omega),Nat.add_sub_cancel_left];exact C3 r i x (by simpa using h) j a ha
theorem GF (l:EL) (hl:l.length<=1000000) (hv:∀x∈l,cZ 400 x.2.1):aa Tryz.prog 78 [eT l,eT l,dF 28] (.one (dB true)):=by
 refine kU func78 ?_;refine jT ?_;refine BY ?_;refine aq Nat (fun i=>i<=l.length) (fun i=>⟨[(0, .d (eT l)),(1, .d (eT l)),(2, .d (dF 28)),(15, .d (eT l)),(16, .d (dN .i64 l.length)),(17, .d (dN .i64 i))],[]⟩) (fun i=>l.length-i) 0 (Nat.zero_le _) kw ?_;intro i hi;refine kI ?_
 by_cases hil:i<l.length
 ·refine kT ?_
  obtain⟨x,hx⟩:∃x,l[i]? =some x:=⟨l[i],by simp[hil]⟩;have c:=Dp (p:=x.2.2) (hv x (List.mem_of_getElem? hx)) (by decide);have hat:=C3 l i x hx;refine kW ?_;refine bB (i:=i) (cs':=jS x.2.1 x.2.2) hil hat (Nat.zero_lt_succ 4) rfl rfl rfl rfl rfl rfl rfl rfl ?_;refine kW ?_;refine bB (i:=i) (cs':=jS x.2.1 x.2.2) hil hat (Nat.zero_lt_succ 4) rfl rfl rfl rfl rfl rfl rfl rfl ?_;refine kW ?_;refine kC (c) ?_;exact NE
 ·refine kE ?_
  exact ax
theorem lH (l:EL) (hl:l.length<=1000000) (hv:∀x∈l,cZ 400 x.2.1):aa Tryz.prog 38 [eT l,eT l] (.one (dB true)):=by
 have c:=GF l hl hv;refine kU func38 ?_;exact vl
abbrev K6:List AV:=[.val (.string ByteArray.empty), .val (.int .i64 0), .val (.bool false), .sl 0 [], .val (.bool false), .sl 0 [], .val (.string ByteArray.empty), .sl 0 []]
def Kg (l:Tb) (i:Nat):List AV:=bR (l.take i)++(cG K6 l.length).drop (i*8)
theorem IX (l:Tb):Kg l 0=cG K6 l.length:=by simp[Kg,bR]
theorem Lq {l:Tb} {i:Nat} (hi:i<=l.length):(Kg l i).length=l.length*8:=by
 unfold Kg;rw[List.length_append,dO,List.length_drop,re,List.length_take]
 simp only[List.length_cons,List.length_nil]
 omega
theorem Mt (l:Tb):Kg l l.length=bR l:=by
 unfold Kg;rw[List.take_length,List.drop_eq_nil_of_le (by rw[re];simp),List.append_nil]
theorem Mb {l:Tb} {i:Nat} {p:Pm} (hx:l[i]? =some p):aF (Kg l i) (i*8) (wQ p)=Kg l (i+1):=by
 have hi:=(List.getElem?_eq_some_iff.1 hx).1;have h1:(bR (l.take i)).length=i*8:=by rw[dO,List.length_take];omega
 unfold aF Kg;rw[fO,bi hx,jy,oD];rw[show i*8=(bR (l.take i)).length from h1.symm,List.take_left,List.drop_length_add_append,List.drop_drop,h1];rw[show i*8+8=(i+1)*8 by omega]
theorem s8 (l:Tb) (hc:∀x∈l,aa Tryz.prog 65 [dR x.2] (.one (dR x.2))) (hl:l.length<=1000):bA Tryz.prog 64 [.d (bF l)] [] (.own 1003 l.length 8 43) [(1003,bR l)]:=by
 refine bv ac fH func64 rfl rfl rfl rfl rfl ((eK.nil _)) ?_;refine kW ?_;refine CD 1003 ac (m:=l.length) (c:=l.length) (Nat.le_refl _) (Nat.le_trans (Nat.mul_le_mul_left _ hl) (by decide)) (by omega) rfl rfl rfl rfl rfl rfl rfl rfl rfl rfl rfl rfl rfl rfl rfl ?_;refine kW ?_;refine aq Nat (fun i=>i<=l.length) (fun i=>⟨[(3, .own 1003 l.length 8 43),(0, .d (bF l)),(9, .d (bF l)),(10, .d (dN .i64 l.length)),(11, .d (dN .i64 i))],[(1003,some (Kg l i))]⟩) (fun i=>l.length-i) 0 (Nat.zero_le _) (weak ⟨rfl,rfl,rfl,rfl,rfl,trivial⟩ ⟨congrArg some (IX l).symm,trivial⟩ rfl) ?_;intro i hi;refine kI ?_
 by_cases hil:i<l.length
 ·refine kT ?_
  obtain⟨p,hx⟩:∃p,l[i]? =some p:=⟨l[i],by simp[hil]⟩;have c:=hc p (List.mem_of_getElem? hx);have hset:=Mb hx;have hrl:=Lq hi;obtain⟨o1,na1,xs1,nb1,ys1,nm1,n1,cs1,hA,hB⟩:=aM p;have hat:∀(j:Nat) (a:AV),(a6 p.1 o1 na1 xs1 nb1 ys1 nm1 n1 cs1)[j]? =some a->(bR l)[i*8+j]? =some a:=fun j a h=>b6 l i p hx j a (by rw[hB];exact h)
  rw[show dR p.2= .agg (ab o1 na1 xs1 nb1 ys1 nm1 n1 cs1) from congrArg DV.agg hA]at c;rw[hB]at hset;refine kW ?_;refine lp ?_;refine kW ?_;refine kC (c) ?_;refine kO ?_;refine fY (i:=i) hil rfl rfl rfl rfl rfl rfl rfl rfl rfl ?_;refine jh (cs:=Kg l i) (show i*8+8<=_ by rw[hrl];omega) hset rfl rfl rfl rfl rfl rfl rfl rfl rfl rfl ?_;exact Nt
 ·obtain rfl:i=l.length:=by omega
  rw[Mt];refine kE ?_;exact zD
theorem zJ (l:Tb) (p:Pm) (hs:jP l) (hp:p.1.length<=60/\pe p.2) (hl:l.length<=500) (hc:∀x∈l,aa Tryz.prog 65 [dR x.2] (.one (dR x.2))) (hcp:aa Tryz.prog 65 [dR p.2] (.one (dR p.2))):aa Tryz.prog 22 [bF l,sW p] (CZ (yC l p)):=by
 have hml:=oC l p;have cf:=iy l p.1 (by omega);have co:=ir (dl l p) (hs.set hp) (by omega);have ct:=s8 l hc (by omega);have hok:=oE l;have hokp:a8 (wQ p)=true:=xA p.2;have hpl:=fO p;have hlc:=dO l;have hfl:=pm l p.1;obtain⟨R,hR⟩:∃R,yC l p=R:=⟨_,rfl⟩;have hst:R=if(bf (dl l p)).2=0 then(dl l p,0)else([],(bf (dl l p)).2):=by rw[<- hR];rfl
 rw[hR];clear hR
 have hset:(bX l p.1<l.length/\gt l p.1=(bX l p.1:Nat)/\bF (dl l p)= .leaf (.sl l.length (aF (bR l) (bX l p.1*8) (wQ p))))∨(gt l p.1= -1/\bF (dl l p)= .leaf (.sl (l.length+1) (bR l++wQ p))):=by
  exact O8
 obtain⟨o1,na1,xs1,nb1,ys1,nm1,n1,cs1,hA,hB⟩:=aM p;rw[show sW p= .agg (a6 p.1 o1 na1 xs1 nb1 ys1 nm1 n1 cs1) from congrArg DV.agg hB];rw[show dR p.2= .agg (ab o1 na1 xs1 nb1 ys1 nm1 n1 cs1) from congrArg DV.agg hA]at hcp;rw[hB]at hset hokp hpl;generalize gt l p.1=fi at *;generalize bX l p.1=f at *;generalize dl l p=m at *;generalize(bf m).1=oo at *;generalize(bf m).2=oe at *
 have hfin:∀(c:List AV) (k:Nat),bF m= .leaf (.sl k c)->(oe=0->qM [.leaf (.sl k c),dN .i64 0]=CZ R)/\(oe≠0->qM [.leaf (.sl 0 []),dN .i64 oe]=CZ R):=fun c k e=>by
  exact NK
 have hby:∀k,k<=1001->k*128<=140737488355328:=fun k hk=>by omega
 rcases hset with⟨h,rfl,hm⟩| ⟨rfl,hm⟩
 ·have hfin:=hfin _ _ hm
  rw[hm]at co;refine Nc ?_;refine Nq ?_;refine jh (cs:=bR l) (show f*8+8<=_ by rw[hlc];omega) rfl rfl rfl rfl rfl rfl rfl rfl rfl rfl rfl ?_;refine nL ?_;refine Kb ?_;exact zt
 ·have hfin:=hfin _ _ hm
  rw[hm]at co;refine Nc ?_;refine BW ?_;refine cY 6003 (m1:=l.length) (m2:=1) ac (by decide) (hby _ (by omega)) rfl rfl rfl rfl rfl rfl rfl rfl rfl rfl rfl (.own rfl rfl) rfl rfl rfl ?_;have ht:(bR l).take (l.length*8)=bR l:=List.take_of_length_le (Nat.le_of_eq hlc);refine nL ?_;refine bW ((a7 (q:=6) rfl rfl).tr (weak (s':=⟨[(6, .d (.leaf (.sl (l.length+1) (bR l++a6 p.1 o1 na1 xs1 nb1 ys1 nm1 n1 cs1))))],[]⟩) ⟨congrArg (fun z=>TV.d (.leaf (.sl (l.length+1) (z++a6 p.1 o1 na1 xs1 nb1 ys1 nm1 n1 cs1)))) ht,trivial⟩ trivial rfl)) rfl ?_;refine kO ?_;refine kC (co) ?_;exact zt
section
variable {P:Program} {T:TypeId->Option Ty} {n:Nat} {ops:Array Oper} {id:Nat} {draw:Bool} {K:AS->Prop} {s:AS} {k:Nat} {o:Oper} {os:List Oper} {fps:List FP}
theorem Ak {t:TypeId} {ty:Ty} {x:Operand} {i off:Nat} {cs cs':List AV} (hl:off+ty.size<=cs.length) (hc:(cs.drop off).take ty.size=cs') (h1:gd ops s o=some true) (h2:o.op= .load t x) (h5:T t=some ty) (h6:TG false ty.agg cs'=some (.d (.agg cs'))) (h8:s.ev x= .box i off) (h9:s.bx i=some cs)
 (h3:aH n o.dst=true) (h4:eS draw ops (aw ops o ⟨.d (.agg cs'),none⟩ [i]) k fps=true) (h:ak P T n ops id draw K (k+1) os (s.eff o.dst ⟨.d (.agg cs'),none⟩) (aw ops o ⟨.d (.agg cs'),none⟩ [i]::fps)) (hlb:cT i=false:=by rfl):ak P T n ops id draw K k (o::os) s fps:=by
 refine gD h1 ?_ h3 h4 h;have hb:Nat.ble (off+ty.size) cs.length=true:=Nat.ble_eq_true_of_le hl;unfold fb
 simp only[h2,h5,h8,h9,hb,hlb,hc,h6]
end
end Go.Proofs.YtmkggcjajcdlcaaGreatDoor
