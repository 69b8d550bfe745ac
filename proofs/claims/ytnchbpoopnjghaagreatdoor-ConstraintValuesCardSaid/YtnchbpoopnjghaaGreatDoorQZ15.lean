/- Parts of a proof: contracts of the functions that the laws reach. -/
import Derived.Test.YtnchbpoopnjghaaGreatDoorQZ14
set_option maxHeartbeats 100000000
set_option linter.all false
open Go.Proofs.Tryz
namespace Go.Proofs.YtnchbpoopnjghaaGreatDoor
open Go.RowKit
theorem Ro {l:EL} (hs:eW l) {n:L8} {q:Nat} {x:L8 × (Rat × Int)} (hq:oG l n<=q) (h:l[q]? =some x):Op.bytesLess x.1 n=false:=by
 have hl:=(G_.1 h).1;have hx:l[oG l n]? =some (l[oG l n]'(by omega)):=Q_ _;have h1:=Je hx
 by_cases e:oG l n=q
 ·subst e;rw[hx]at h;cases h;exact h1
 ·have h2:=hs _ q _ _ O_ hx h
  cases h3:Op.bytesLess x.1 n
  ·rfl
  ·rw[fk h2 h3]at h1;cases h1
theorem S3 (l:EL) (hs:eW l) (hl:l.length<=1000000) (s:List UInt8) (hn:∀x∈l,x.1≠s):aa Tryz.prog 181 [eU l,dL s] (.tup [dN .i64 (oG l s:Nat),dB false]):=by
 have hp1:=xR l s;have hp2:∀(q:Nat) x,q<oG l s->l[q]? =some x->Op.bytesLess x.1 s=true:=fun q x=>Ic
 have hp3:∀(q:Nat) x,oG l s<=q->l[q]? =some x->Op.bytesLess x.1 s=false:=fun q x=>Ro hs
 generalize oG l s=p at *;refine kV func181 ?_
 refine aq (Nat × Nat) (fun x=>x.1<=p/\p<=x.2/\x.2<=l.length) (fun x=>⟨[(0, .d (eU l)),(1, .d (dL s)),(4, .d (dN .i64 0)),(5, .d (dB false)),(6, .d (dN .i64 l.length)),(7, .d (dN .i64 x.1)),(8, .d (dN .i64 x.2))],[]⟩) (fun x=>x.2-x.1) (0,l.length) ⟨Nat.zero_le _,hp1,l_ _⟩
  kw ?_
 rintro⟨i,j⟩ ⟨h1,h2,h3⟩;dsimp only at h1 h2 h3 ⊢;refine kI ?_
 refine kO2 ?_
 by_cases hij:i<j
 ·refine IP ?_
  refine dp ?_;refine nt ?_;exact S2
 ·have e1:i=p:=O_
  have e2:j=p:=O_
  subst e2;subst e1;refine kE ?_;refine jP ?_;refine kI ?_
  refine kO3 ?_
  by_cases hil:i<l.length
  ·have hx:l[i]? =some l[i]:=by simp[hil]
   have e:=hn _ (M_ hx);refine kT ?_;refine HL ?_
   refine kO2 ?_
   exact OB
  ·refine kE ?_
   exact aj
section
open Go.RowKit Go.Lib
theorem En {S:Nat->Prop} {w:World} {v:Value} (h:AV.M S w (.sl 0 []) v):∃A c,v= .slice A 0 c:=by
 cases h with
 |emp=>exact⟨_,_,rfl⟩
 |sl=>exact⟨_,_,rfl⟩
theorem Kw:aa Tryz.prog 322 [.leaf (.sl 0 [])] (.tup []):=
 ⟨aG func322 rfl rfl,fun S w vs hS hv=>by
  match vs,hv with
  | [v],⟨h1,_⟩=>
   obtain⟨A,c,rfl⟩:=En (show AV.M S w (.sl 0 []) v from h1);refine(Tryz.slices_Sort_string_none A c w).mono ?_;rintro e w' ⟨rfl,rfl⟩;exact⟨_,rfl,⟨[],rfl,rfl,fun i x u h=>by simp at h⟩,Below.refl _ _⟩⟩
theorem yJ:aa Tryz.prog 323 [.leaf (.sl 0 [])] (.one (.leaf (.sl 0 []))):=
 ⟨aG func323 rfl rfl,fun S w vs hS hv=>by
  match vs,hv with
  | [v],⟨h1,_⟩=>
   have h1:AV.M S w (.sl 0 []) v:=h1;obtain⟨A,c,rfl⟩:=En h1;refine(Tryz.slices_Compact_string_empty A c w).mono ?_;rintro e w' ⟨rfl,rfl⟩;exact⟨_,rfl,h1,Below.refl _ _⟩⟩
theorem BP:∀x,j3 x->f8 x<=1000000->aa Tryz.prog 291 [dR x] (.one (.leaf (.sl (ju x).length (av (ju x))))):=by
 refine eM fun op na xs nb ys nm args ih hx hs=>?_
 obtain⟨_,_,_,_,_,_,hargs⟩:=hx;rw[f8]at hs;have hge:=mQ args;rw[ju]
 have hz:(if op=2 then [nm]else [])=cond (decide (op=2)) [nm] []:=by
  exact Pn
 rw[hz];clear hz;have hbl:(cond (decide (op=2)) [nm] []).length<=1:=by cases decide (op=2)<;>simp
 generalize hb:decide (op=2)=b at *;obtain⟨al,hal⟩:∃al:Nat->List L8,∀i,al i=cond b [nm] []++fH (args.take i):=⟨_,fun _=>rfl⟩;have hal0:al 0=cond b [nm] []:=by rw[hal];simp[fH]
 have hall:∀i,(al i).length<=1000000:=fun i=>by
  have:=lO args i;rw[hal,L_];omega
 have hsn:∀i (h:i<args.length),al (i+1)=al i++ju args[i]:=fun i h=>by rw[hal,hal,vn h,e_]
 have hend:cond b [nm] []++fH args=al args.length:=by rw[hal,List.take_length]
 rw[hend];have hlenA:=hall args.length;obtain⟨A,hA0⟩:∃A,al args.length=A:=⟨_,rfl⟩;rw[hA0]at hlenA ⊢;rw[<- mN];refine BO ?_;refine kU func291 ?_;refine kR ?_;refine kR ?_;refine lL ⟨[(3,mX 5001 (al 0)),(1, .box 0 0),(2, .nil)],[(5001,qt (al 0)),(0,some (ab op na xs nb ys nm args.length (fG args)))]⟩ (fun s' hw2=>?_) (fun R hR _=>?_)
 ·clear hb hal hal0 hend
  refine bu (T:=TT) ?_;refine dh hw2 rfl ?_;refine kW ?_
  refine aq Nat (fun i=>i<=args.length) (fun i=>⟨[(3,mX 5001 (al i)),(2, .nil),(15, .d (.leaf (.sl args.length (fG args)))),(16, .d (dN .i64 args.length)),(17, .d (dN .i64 i))],[(5001,qt (al i))]⟩) (fun i=>args.length-i) 0 (Nat.zero_le _)
   (by dsimp only;generalize al 0=B;cases B<;>first|exact weak ⟨rfl,rfl,rfl,rfl,rfl,trivial⟩ trivial rfl|exact weak ⟨rfl,rfl,rfl,rfl,rfl,trivial⟩ ⟨rfl,trivial⟩ rfl) ?_
  intro i hi
  by_cases hlt:i<args.length
  ·obtain⟨o1,na1,xs1,nb1,ys1,nm1,n1,cs1,hA⟩:=aY args[i]
   have hx:args[i]? =some args[i]:=by simp[hlt]
   have hat:∀(j:Nat) (a:AV),(ab o1 na1 xs1 nb1 ys1 nm1 n1 cs1)[j]? =some a->(fG args)[i*7+j]? =some a:=fun j a h=>eX args i args[i] hx j a (by rw[hA];exact h)
   have c:=ih args[i] (List.getElem_mem hlt) (hargs _ (List.getElem_mem hlt)) (by have:=lp (List.getElem_mem hlt);omega);rw[show dR args[i]= .agg (ab o1 na1 xs1 nb1 ys1 nm1 n1 cs1) from congrArg DV.agg hA]at c;have hsi:=hsn i hlt;have hl2:=hall (i+1);rw[hsi]at hl2;generalize ju args[i]=Y at *;generalize al i=B at *;cases B with
   |nil=>
    cases Y with
    |nil=>
     refine kI ?_;refine kT ?_;refine np ?_;refine xg af rfl rfl rfl rfl rfl rfl rfl rfl ?_;refine qx ?_;rw[hsi];exact weak ⟨rfl,rfl,rfl,rfl,ai O_ O_,trivial⟩ trivial rfl
    |cons y r=>
     refine kI ?_;refine kT ?_;refine np ?_;refine ek 5002 (m1:=0) (m2:=(y::r).length) af (Nat.succ_pos _) (V_ (P_ _ (show 0+(y::r).length<=1000000 by simp at hl2 ⊢;omega)) D_) (by simp[av]) rfl rfl rfl rfl rfl rfl rfl rfl rfl rfl (.nil rfl rfl) rfl rfl (by rw[iK];rfl) ?_;refine qx ?_;rw[hsi]
     refine Eq.mpr (congrArg (aM _) (pQ [(2, .nil),(15, .d (.leaf (.sl args.length (fG args)))),(16, .d (dN .i64 args.length)),(17, .d (dN .i64 (i+1:Nat)))] [] 3 5001 ([]:List L8) y r)) (aM.trans (b:=⟨[(3, .own 5002 (0+(y::r).length) 1 9),(2, .nil),(15, .d (.leaf (.sl args.length (fG args)))),(16, .d (dN .i64 args.length)),(17, .d (dN .i64 (i+1:Nat)))],[(5002,some ((av ([]:List L8)).take (0*1)++av (y::r)))]⟩) (weak ⟨rfl,rfl,rfl,rfl,ai O_ O_,trivial⟩ ⟨rfl,trivial⟩ rfl) ((aD (q:=3) (j:=5002) (j':=5001) rfl rfl rfl rfl).trans kw))
   |cons a B=>
    cases Y with
    |nil=>
     refine kI ?_;refine kT ?_;refine np ?_;refine qd ?_;refine qx ?_;rw[hsi,c_];exact weak ⟨rfl,rfl,rfl,rfl,ai O_ O_,trivial⟩ ⟨rfl,trivial⟩ rfl
    |cons y r=>
     refine kI ?_;refine kT ?_;refine np ?_;refine ek 5002 (m1:=(a::B).length) (m2:=(y::r).length) af (Nat.succ_pos _) (V_ (P_ _ (show(a::B).length+(y::r).length<=1000000 by simp at hl2 ⊢;omega)) D_) (by simp[av]) rfl rfl rfl rfl rfl rfl rfl rfl rfl rfl (.own rfl rfl) rfl rfl (by rw[iK];rfl) ?_;refine qx ?_;rw[hsi]
     refine Eq.mpr (congrArg (aM _) (pQ [(2, .nil),(15, .d (.leaf (.sl args.length (fG args)))),(16, .d (dN .i64 args.length)),(17, .d (dN .i64 (i+1:Nat)))] [] 3 5001 (a::B) y r)) (aM.trans (b:=⟨[(3, .own 5002 ((a::B).length+(y::r).length) 1 9),(2, .nil),(15, .d (.leaf (.sl args.length (fG args)))),(16, .d (dN .i64 args.length)),(17, .d (dN .i64 (i+1:Nat)))],[(5002,some ((av (a::B)).take ((a::B).length*1)++av (y::r)))]⟩) (weak ⟨rfl,rfl,rfl,rfl,ai O_ O_,trivial⟩ ⟨rfl,trivial⟩ rfl) ((aD (q:=3) (j:=5002) (j':=5001) rfl rfl rfl rfl).trans kw))
  ·have hO:A=al i:=by rw[show i=args.length by omega,hA0]
   generalize al i=B at *;cases B with
   |nil=>
    refine um ?_;refine kQ (Kw) ?_;refine kC (yJ) ?_;refine eH ?_;rw[hO,mN];rfl
   |cons a r=>
    have hlB:(a::r).length<=1000000:=by rw[<- hO];exact hlenA
    have ct1:az Tryz.prog 322 [.own 5001 (a::r).length 1 9] [(5001,av (a::r))] (.v (.tup [])) [(5001,av ((a::r).mergeSort fun x y=>decide (x<=y)))]:=(MD hlB).swap 901 5001 rfl;have hms:((a::r).mergeSort fun x y=>decide (x<=y)).length=(a::r).length:=List.length_mergeSort _;have ct2:az Tryz.prog 323 [.own 5001 ((a::r).mergeSort fun x y=>decide (x<=y)).length 1 9] [(5001,av ((a::r).mergeSort fun x y=>decide (x<=y)))] (.own 5001 (Lib.compact ((a::r).mergeSort fun x y=>decide (x<=y))).length 1 9) [(5001,av (Lib.compact ((a::r).mergeSort fun x y=>decide (x<=y))++List.replicate (((a::r).mergeSort fun x y=>decide (x<=y)).length-(Lib.compact ((a::r).mergeSort fun x y=>decide (x<=y))).length) []))]:=(BW O_).swap 901 5001 rfl;rw[hms]at ct2
    have hcut:∀M:List L8,(av (Lib.compact M++List.replicate ((a::r).length-(Lib.compact M).length) [])).take (Lib.compact M).length=av (Lib.compact M):=fun M=>by
     rw[nP,List.take_left' (c8 _)]
    generalize hM:((a::r).mergeSort fun x y=>decide (x<=y))=M at *;have hcM:=hcut M;refine um ?_;refine kZ (ct1) ?_;refine kD (ct2) ?_;refine y5 af rfl rfl rfl rfl ((bf (q:=2) rfl rfl).trans (GV (q:=2) (Lib.compact M).length rfl)) ?_;refine eH ?_;rw[hO,hM,<- hcM];rfl
 ·exact QD
end
theorem Cd (l:Tb) (hs:ul l) (hl:l.length<=1000000):aa Tryz.prog 242 [da l] (.one (dN .i64 (ur l))):=by
 by_cases h200:200<l.length
 ·refine kU func242 ?_
  refine Af ?_;refine eH ?_;exact Qo
 have hv:ur l=DQ l 0 (l.drop 0):=by unfold ur;rw[if_neg h200];rfl
 rw[hv];clear hv;refine kU func242 ?_;refine qz ?_;refine kW ?_;refine aq Nat (fun i=>i<=l.length/\DQ l 0 (l.drop 0)=DQ l i (l.drop i)) (fun i=>⟨[(0, .d (da l)),(9, .d (da l)),(10, .d (dN .i64 l.length)),(11, .d (dN .i64 i))],[]⟩) (fun i=>l.length-i) 0 ⟨Nat.zero_le _,rfl⟩ kw ?_;rintro i ⟨hi,hv⟩;refine kI ?_
 by_cases hlt:i<l.length
 ·refine kT ?_
  obtain⟨p,hx⟩:∃p,l[i]? =some p:=⟨l[i],by simp[hlt]⟩;rw[IS hx]at hv;have hp:=M_ hx;obtain⟨hn,hsx⟩:=hs p hp;obtain⟨o1,na1,xs1,nb1,ys1,nm1,n1,cs1,hA,hB⟩:=bD p;have hat:∀(j:Nat) (a:AV),(bV p.1 o1 na1 xs1 nb1 ys1 nm1 n1 cs1)[j]? =some a->(ot l)[i*8+j]? =some a:=fun j a h=>de l i p hx j a (by rw[hB];exact h)
  have c1:=f3 p.1 O_;have c2:=io p.2 hsx.wd hsx.lm (by have:=hsx.sz;omega);rw[show dR p.2= .agg (ab o1 na1 xs1 nb1 ys1 nm1 n1 cs1) from congrArg DV.agg hA]at c2;have c3:=rM l p.1 hl;have hf:=l9.2 ⟨p,hp,rfl⟩;rw[show uh l p.1=(il l p.1:Nat) by unfold uh;rw[if_pos hf]]at c3;rcases Bool.eq_false_or_eq_true (pO p.1)with hb|hb
  ·rw[if_pos hb]at hv
   rw[hb]at c1;refine kW ?_;refine vi ?_;refine iQ ?_;refine kC (c2) ?_
   by_cases h0:iH p.2=0
   ·rw[if_pos h0]at hv
    refine lC ?_;refine kB false ?_ ?_
    ·exact bne_eq_false_iff_eq.2 h0
    refine kW ?_;refine kC (c3) ?_;refine kO ?_
    by_cases h5:il l p.1<i
    ·rw[if_pos h5]at hv
     refine kT ?_;refine eH ?_;exact tN
    ·rw[if_neg h5]at hv
     refine kY ?_;exact⟨i+1,⟨hlt,hv⟩,by omega,weak ⟨rfl,rfl,rfl,ai O_ O_,trivial⟩ trivial rfl⟩
   ·rw[if_neg h0]at hv
    refine lC ?_;refine vD ?_;refine eH ?_;exact tN
  ·rw[if_neg (by rw[hb];decide)]at hv
   rw[hb]at c1;refine kW ?_;refine vi ?_;refine kW ?_;refine kC (c1) ?_;refine eH ?_;exact tN
 ·exact Oq
theorem Fc (l:List L8) (n:L8) (hl:l.length<=1000000):aa Tryz.prog 293 [lS l,dL n] (.one (dN .i64 (if l.findIdx (fun x=>decide (n=x))<l.length then((l.findIdx fun x=>decide (n=x):Nat):Int)else -1))):=by
 have hf:=List.findIdx_le_length (p:=fun x=>decide (n=x)) (xs:=l)
 have hn:∀(i:Nat) (hi:i<l.length),i<l.findIdx (fun x=>decide (n=x))-> ¬n=l[i]:=fun i hi h=>by
  exact vA
 have hy:∀(h:l.findIdx (fun x=>decide (n=x))<l.length),n=(l[l.findIdx (fun x=>decide (n=x))]):=fun h=>h_ (List.findIdx_getElem (p:=fun x=>decide (n=x)) (xs:=l) (w:=h))
 generalize l.findIdx (fun x=>decide (n=x))=f at *;refine kV func293 ?_
 refine aq Nat (fun i=>i<=f) (fun i=>⟨[(0, .d (lS l)),(1, .d (dL n)),(4, .d (dN .i64 0)),(7, .d (dN .i64 l.length)),(8, .d (dN .i64 i))],[]⟩) (fun i=>l.length-i) 0 (Nat.zero_le _)
  kw ?_
 intro i hi;refine kI ?_
 by_cases hlt:i<l.length
 ·refine kT ?_
  have hx:l[i]? =some l[i]:=by simp[hlt]
  have hni:=hn i hlt;have hyi:∀h:i=f,n=l[i]:=fun h=>by subst h;exact hy hlt
  generalize l[i]=q at *
  by_cases e:n=q
  ·have e2:i=f:=by
    by_cases e3:i<f
    ·exact absurd e (hni e3)
    ·omega
   subst e2;rw[if_pos hlt];refine Iy ?_;refine ax rfl rfl rfl rfl rfl rfl rfl (aU (a:=n) (b:=q) e) ?_;exact aj
  ·refine Iy ?_
   refine ax rfl rfl rfl rfl rfl rfl rfl (bC (a:=n) (b:=q) e) ?_;refine If ?_
   by_cases e3:i=f
   ·exact absurd (hyi e3) e
   ·omega
 ·rw[if_neg O_]
  refine kE ?_;exact aj
theorem Gr (l:List L8) (n:L8) (hl:l.length<=1000000):∃i:Int,(0<=i↔n∈l)/\aa Tryz.prog 293 [lS l,dL n] (.one (dN .i64 i)):=by
 refine⟨_,?_,Fc l n hl⟩;have:=List.findIdx_lt_length (p:=fun x=>decide (n=x)) (xs:=l);exact Ps
theorem jy (l:List L8) (n:L8) (hl:l.length<=1000000):aa Tryz.prog 244 [lS l,dL n] (.one (dB (decide (n∈l)))):=by
 obtain⟨i,h1,c⟩:=Gr l n hl
 by_cases h:n∈l
 ·rw[T_ h]
  have:=h1.2 h;refine kV func244 ?_;refine kC (c) ?_;refine kT ?_;exact aj
 ·rw[F_ h]
  have:=fun h2=>h (h1.1 h2)
  refine kV func244 ?_;refine kC (c) ?_;refine kE ?_;exact aj
abbrev EW (ns:List L8):List AV:=[.sl ns.length (av ns)]
theorem xw {ns:List L8}:dJ [(900,EW ns)] [(900,EW ns)]:=dJ.one (l_ 1)
theorem Gn (ns:List L8) (n:L8) (hl:ns.length<=1000000):az Tryz.prog 292 [.d (dL n), .box 900 0] [(900,EW ns)] (.v (.one (dB (!decide (n∈ns))))) [(900,EW ns)]:=by
 have c:=jy ns n hl;generalize decide (n∈ns)=b at *;cases b
 all_goals(
  refine aP af dx func292 rfl rfl rfl rfl rfl (xw) ?_;refine kR ?_;refine kI ?_
  refine kO2 ?_
  refine kQ (c) ?_;exact⟨⟨_,rfl,rfl⟩,⟨rfl,trivial⟩⟩)
theorem uC {fid:FuncId} {p:L8->Bool} {ns:List L8} (l:List L8) (hp:∀x∈l,az Tryz.prog fid [.d (dL x), .box 900 0] [(900,EW ns)] (.v (.one (dB (p x)))) [(900,EW ns)]) (hl:l.length<=1000000):az Tryz.prog 321 [.d (lS l), .clo (.func fid) [] [.box 900 0]] [(900,EW ns)] (.v (.one (dN .i64 (if l.findIdx p<l.length then((l.findIdx p:Nat):Int)else -1)))) [(900,EW ns)]:=by
 have hf:=List.findIdx_le_length (p:=p) (xs:=l)
 have hn:∀(i:Nat) (hi:i<l.length),i<l.findIdx p->p l[i]=false:=fun i hi h=>by
  exact vA
 have hy:∀(h:l.findIdx p<l.length),p (l[l.findIdx p])=true:=fun h=>List.findIdx_getElem
 generalize l.findIdx p=f at *;refine aP af dx func321 rfl rfl rfl rfl rfl (xw) ?_;refine kW ?_
 refine aq Nat (fun i=>i<=f) (fun i=>⟨[(0, .d (lS l)),(1, .clo (.func fid) [] [.box 900 0]),(4, .d (dN .i64 0)),(7, .d (dN .i64 l.length)),(8, .d (dN .i64 i))],[(900,some (EW ns))]⟩) (fun i=>l.length-i) 0 (Nat.zero_le _)
  kw ?_
 intro i hi;refine kI ?_
 by_cases hlt:i<l.length
 ·refine kT ?_
  have hx:l[i]? =some l[i]:=by simp[hlt]
  have c:=hp l[i] (List.getElem_mem hlt);have hni:=hn i hlt;have hyi:∀h:i=f,p l[i]=true:=fun h=>by subst h;exact hy hlt
  generalize l[i]=q at *;refine Iy ?_;exact H1
 ·rw[if_neg O_]
  refine kE ?_;exact d9
theorem o8 {fid:FuncId} {p:L8->Bool} {ns:List L8} (l:List L8) (hp:∀x∈l,az Tryz.prog fid [.d (dL x), .box 900 0] [(900,EW ns)] (.v (.one (dB (p x)))) [(900,EW ns)]) (hl:l.length<=1000000):az Tryz.prog 290 [.d (lS l), .clo (.func fid) [] [.box 900 0]] [(900,EW ns)] (.v (.one (dB (l.any p)))) [(900,EW ns)]:=by
 have c:=uC l hp hl
 have hlt:(l.findIdx p<l.length)↔l.any p=true:=by
  rw[List.any_eq_true];exact List.findIdx_lt_length
 cases hb:l.any p with
 |true=>
  rw[if_pos (hlt.2 hb)]at c;refine aP af dx func290 rfl rfl rfl rfl rfl (xw) ?_;refine kW ?_;refine kD (c) ?_;refine kT ?_;exact d9
 |false=>
  rw[if_neg (fun h=>by rw[hlt.1 h]at hb;cases hb)]at c;refine aP af dx func290 rfl rfl rfl rfl rfl (xw) ?_;refine kW ?_;refine kD (c) ?_;exact d9
theorem LV (x:Rx) (ns:List L8):(!((ju x).any fun n=>!decide (n∈ns)))=uj x ns:=by
 unfold uj
 induction ju x with
 |nil=>rfl
 |cons a r ih=>rw[List.any_cons,List.all_cons,Bool.not_or,ih,Bool.not_not]
theorem mx (q:Pm) (ns:List L8) (hq:AG q.2) (hl:ns.length<=1000000):aa Tryz.prog 243 [L4 q,lS ns] (.one (dB (uj q.2 ns))):=by
 have cn:=BP q.2 hq.wd (by have:=hq.sz;omega);have cc:=(o8 (fid:=292) (p:=fun n=>!decide (n∈ns)) (ns:=ns) (ju q.2) (fun x _=>Gn ns x hl) (V_ (xf q.2) (by have:=hq.sz;omega))).swap 900 1 rfl;have hr:=LV q.2 ns;obtain⟨o1,na1,xs1,nb1,ys1,nm1,n1,cs1,hA,hB⟩:=bD q;rw[show L4 q= .agg (bV q.1 o1 na1 xs1 nb1 ys1 nm1 n1 cs1) from congrArg DV.agg hB];rw[show dR q.2= .agg (ab o1 na1 xs1 nb1 ys1 nm1 n1 cs1) from congrArg DV.agg hA]at cn;rw[<- hr];clear hr;generalize((ju q.2).any fun n=>!decide (n∈ns))=b at *;generalize ju q.2=ms at *;cases b
 all_goals(
  refine kV func243 ?_;refine kC (cn) ?_;refine kO ?_;refine kD (cc) ?_;exact kF)
theorem Mz {l:Tb} {i:Nat} {p:Pm} (h:l[i]? =some p):av ((l.take (i+1)).map (·.1))=av ((l.take i).map (·.1))++[.val (vL p.1)]:=by
 rw[aT h,List.map_append,nP];rfl
theorem HG {a:L8}:((Bs a).toList == (ByteArray.mk #[]).toList)=true↔a=[]:=by
 rw[show(ByteArray.mk #[]).toList=[] from ByteArray.toList_mk [],fM]
 simp
theorem DI {a:L8} (h:¬a=[]):((Bs a).toList == (ByteArray.mk #[]).toList)=false:=by
 cases e:((Bs a).toList == (ByteArray.mk #[]).toList)
 ·rfl
 ·exact absurd (HG.1 e) h
theorem AU (l:Tb) (hs:ul l) (hl:l.length<=1000):aa Tryz.prog 179 [da l] (.tup [lS (bW l).1,dN .i64 (bW l).2]):=by
 have cv:=Cd l hs O_
 by_cases hv:ur l=0
 case neg=>
  rw[show bW l=([],ur l) by unfold bW;rw[if_neg hv]];generalize ur l=z at *;refine kU func179 ?_;exact OU
 have ho:=tC hv;rw[hv]at cv;have hord:bW l=if l.all (fun p=>uj p.2 (l.map (·.1)))=true then((match iD l l.length []with|some o=>(o,0)|none=>([],9)):List L8 × Int)else([],4):=by unfold bW;rw[if_pos hv];rfl
 obtain⟨RS,hRS⟩:∃RS,bW l=RS:=⟨_,rfl⟩;rw[hRS]at hord ⊢;clear hRS hv;have hby:∀k,k<=1001->k*16<=140737488355328:=fun k hk=>by omega
 refine kU func179 ?_;refine vH ?_;refine aq Nat (fun i=>i<=l.length) (fun i=>⟨[(5,gV 5001 1 9 i),(0, .d (da l)),(19, .d (da l)),(20, .d (dN .i64 l.length)),(21, .d (dN .i64 i))],[(5001,gX (av ((l.take i).map (·.1))) i)]⟩) (fun i=>l.length-i) 0 (Nat.zero_le _) kw ?_;intro i hi;refine kI ?_
 by_cases hil:i<l.length
 ·refine kT ?_
  obtain⟨p,hx⟩:∃p,l[i]? =some p:=⟨l[i],by simp[hil]⟩;obtain⟨o1,na1,xs1,nb1,ys1,nm1,n1,cs1,hA,hB⟩:=bD p;have hat:∀(j:Nat) (a:AV),(bV p.1 o1 na1 xs1 nb1 ys1 nm1 n1 cs1)[j]? =some a->(ot l)[i*8+j]? =some a:=fun j a h=>de l i p hx j a (by rw[hB];exact h)
  have hsn:=Mz hx;have hpl:(av ((l.take i).map (·.1))).length=i*1:=by rw[c8,j_,U_];omega
  generalize av ((l.take i).map (·.1))=O at *;have hst:(⟨[(5,gV 5001 1 9 (i+1)),(0, .d (da l)),(19, .d (da l)),(20, .d (dN .i64 l.length)),(21, .d (dN .i64 (i+1:Nat)))],[(5001,gX (av ((l.take (i+1)).map (·.1))) (i+1))]⟩:AS)=⟨[(5,gV 5001 1 9 (i+1)),(0, .d (da l)),(19, .d (da l)),(20, .d (dN .i64 l.length)),(21, .d (dN .i64 (i+1:Nat)))],[(5001,gX (O++[.val (vL p.1)]) (i+1))]⟩:=by rw[hsn]
  refine kW ?_;refine DF ?_;refine kW ?_;refine Rg 5002 (J:=5001) (m1:=i) (m2:=1) (cs:=O) (xs:=[.val (vL p.1)]) af (hby _ O_) hpl rfl rfl rfl rfl rfl rfl rfl rfl rfl rfl rfl rfl rfl rfl rfl rfl rfl ?_;refine kW ?_;refine⟨i+1,hil,by omega,?_⟩;refine Eq.mpr (congrArg (aM _) hst) ?_;exact aM.tr (b:=⟨[(5,gV 5002 1 9 (i+1)),(0, .d (da l)),(19, .d (da l)),(20, .d (dN .i64 l.length)),(21, .d (dN .i64 (i+1:Nat)))],[(5002,gX (O++[.val (vL p.1)]) (i+1))]⟩) (weak ⟨rfl,rfl,rfl,rfl,ai O_ O_,trivial⟩ ⟨rfl,trivial⟩ rfl) ((A5 (q:=5) (J:=5002) (J':=5001) rfl rfl rfl).tr kw)
 obtain rfl:i=l.length:=O_
 rw[List.take_length];clear hi hil;have hAl:l.length=(l.map (·.1)).length:=(j_ ..).symm;have hA0:(l.map (·.1)).length<=1000:=O_
 refine kE ?_;refine jP ?_
 repeat refine bu (T:=TT) ?_
 refine dh (jj (q:=5) (J:=5001) (m:=l.length) (cs:=av (l.map (·.1))) (fun h=>by rw[E_ h];rfl) rfl rfl) rfl ?_;refine kW ?_;refine aq Nat (fun i=>i<=l.length/\ ∀p∈l.take i,uj p.2 (l.map (·.1))=true) (fun i=>⟨[(5, .d (lS (l.map (·.1)))),(0, .d (da l)),(31, .d (da l)),(32, .d (dN .i64 l.length)),(33, .d (dN .i64 i))],[]⟩) (fun i=>l.length-i) 0 ⟨Nat.zero_le _,by simp⟩ (weak ⟨congrArg (fun k=>TV.d (.leaf (.sl k (av (l.map fun x:Pm=>x.1))))) hAl,rfl,rfl,rfl,rfl,trivial⟩ trivial rfl) ?_;rintro i ⟨hi,hall⟩
 by_cases hil:i<l.length
 ·obtain⟨p,hx⟩:∃p,l[i]? =some p:=⟨l[i],by simp[hil]⟩
  have hp:=M_ hx;have cr:=mx p (l.map (·.1)) (hs p hp).2 O_;obtain⟨o1,na1,xs1,nb1,ys1,nm1,n1,cs1,hA,hB⟩:=bD p;have hat:∀(j:Nat) (a:AV),(bV p.1 o1 na1 xs1 nb1 ys1 nm1 n1 cs1)[j]? =some a->(ot l)[i*8+j]? =some a:=fun j a h=>de l i p hx j a (by rw[hB];exact h)
  rw[show L4 p= .agg (bV p.1 o1 na1 xs1 nb1 ys1 nm1 n1 cs1) from congrArg DV.agg hB]at cr
  have hstep:uj p.2 (l.map (·.1))=true-> ∀q∈l.take (i+1),uj q.2 (l.map (·.1))=true:=fun h q hq=>by
   rw[aT hx]at hq;rcases List.mem_append.1 hq with hq|hq
   ·exact hall q hq
   ·rw[d_.1 hq];exact h
  have hbad:uj p.2 (l.map (·.1))=false->RS=([],4):=fun h=>by
   rw[hord,if_neg];intro h2;have:=I_.1 h2 p hp;rw[h]at this;cases this
  generalize uj p.2 (l.map (·.1))=rb at *;generalize l.map (·.1)=A at *;cases rb with
  |true=>
   refine jM ?_;refine DF ?_;refine kW ?_;refine kQ (cr) ?_;exact⟨i+1,⟨hil,hstep rfl⟩,by omega,weak ⟨rfl,rfl,rfl,rfl,ai O_ O_,trivial⟩ trivial rfl⟩
  |false=>
   refine jM ?_;refine DF ?_;refine kW ?_;refine kC (cr) ?_;refine eH ?_;rw[hbad rfl];rfl
 rw[K_ O_]at hall;have hord:RS=(match iD l l.length []with|some o=>(o,0)|none=>([],9)):=by rw[hord,if_pos (I_.2 hall)]
 clear hall hAl hA0;refine um ?_;clear hil hi;refine aq (List L8) (fun o=>o.length<=l.length/\iD l (l.length-o.length) o=iD l l.length []) (fun o=>⟨[(10,mX 6001 o),(0, .d (da l))],[(6001,qt o)]⟩) (fun o=>l.length-o.length) [] ⟨Nat.zero_le _,rfl⟩ kw ?_;rintro o ⟨hol,hog⟩;have ho1:o.length<=1000000:=O_
 by_cases hlo:o.length<l.length
 case neg=>
  have hend:RS=(o,0):=by rw[hord,<- hog,show l.length-o.length=0 by omega];rfl
  cases o with
  |nil=>
   refine PS ?_;refine eH ?_;rw[hend];rfl
  |cons a r=>
   refine vf ?_;refine jP ?_
   repeat refine bu (T:=TT) ?_
   refine dh (bf (q:=10) rfl rfl) rfl ?_;refine eH ?_;rw[hend];rfl
 obtain⟨kk,hkk⟩:∃kk,l.length-o.length=kk+1:=⟨l.length-o.length-1,by omega⟩;rw[hkk,iD]at hog
 have hcont:AJ l o≠[]->iD l (l.length-(o++[AJ l o]).length) (o++[AJ l o])=iD l l.length []:=fun hn=>by
  rw[if_neg hn]at hog;exact PH
 have hcyc:AJ l o=[]->RS=([],9):=fun h=>by rw[if_pos h]at hog;rw[hord,<- hog]
 cases o with
 |nil=>
  refine Ov ?_;refine aq Nat (fun i=>i<=l.length) (fun i=>⟨[(10, .nil),(0, .d (da l)),(47, .d (da l)),(48, .d (dN .i64 l.length)),(49, .d (dN .i64 i)),(11, .d (dL ((l.take i).foldl (jQ ([])) [])))],[]⟩) (fun i=>l.length-i) 0 (Nat.zero_le _) kw ?_;intro i hi;obtain⟨nx,hnx⟩:∃nx,(l.take i).foldl (jQ ([])) []=nx:=⟨_,rfl⟩;rw[hnx]
  by_cases hlt:i<l.length
  ·obtain⟨p,hx⟩:∃p,l[i]? =some p:=⟨l[i],by simp[hlt]⟩
   have hnext:=nu hx hnx;have hp:=M_ hx;have hsx:=(hs p hp).2;obtain⟨o1,na1,xs1,nb1,ys1,nm1,n1,cs1,hA,hB⟩:=bD p;have hat:∀(j:Nat) (a:AV),(bV p.1 o1 na1 xs1 nb1 ys1 nm1 n1 cs1)[j]? =some a->(ot l)[i*8+j]? =some a:=fun j a h=>de l i p hx j a (by rw[hB];exact h)
   have c1:=jy ([]) p.1 ho1;have c2:=mx p ([]) hsx ho1;rw[show L4 p= .agg (bV p.1 o1 na1 xs1 nb1 ys1 nm1 n1 cs1) from congrArg DV.agg hB]at c2;have hcd:tf ([]) p=(!(decide (p.1∈([]:List L8))) && uj p.2 ([])):=rfl
   have keep:tf ([]) p=false∨(nx≠[]/\Op.bytesLess p.1 nx=false)->nx=(l.take (i+1)).foldl (jQ ([])) []:=fun h=>by
    exact PB
   have take:tf ([]) p=true->(nx=[]∨Op.bytesLess p.1 nx=true)->p.1=(l.take (i+1)).foldl (jQ ([])) []:=fun h1 h2=>by
    rw[hnext,jQ,if_pos ⟨h1,h2⟩]
   generalize uj p.2 ([])=rb at *
   have hall:decide (p.1∈([]:List L8))=true∨(decide (p.1∈([]:List L8))=false/\rb=false)∨(decide (p.1∈([]:List L8))=false/\rb=true/\nx=[]) ∨
    (decide (p.1∈([]:List L8))=false/\rb=true/\nx≠[]/\Op.bytesLess p.1 nx=false)∨(decide (p.1∈([]:List L8))=false/\rb=true/\nx≠[]/\Op.bytesLess p.1 nx=true):=by
    cases decide (p.1∈([]:List L8))<;>cases rb<;>cases Op.bytesLess p.1 nx<;>by_cases h:nx=[]<;>simp[h]
   rcases hall with hb1| ⟨hb1,rfl⟩| ⟨hb1,rfl,h0⟩| ⟨hb1,rfl,h0,hls⟩| ⟨hb1,rfl,h0,hls⟩
   ·rw[hb1]at c1
    refine jM ?_;refine vi ?_;refine iQ ?_;exact PW
   ·rw[hb1]at c1
    refine jM ?_;refine vi ?_;refine Da ?_;refine kW ?_;exact PW
   ·rw[hb1]at c1
    refine jM ?_;refine vi ?_;refine Da ?_
    refine kO3 ?_
    refine ax rfl rfl rfl rfl rfl rfl rfl (aU (a:=nx) (b:=[]) h0) ?_;refine kW ?_;exact⟨i+1,hlt,by omega,weak ⟨rfl,rfl,rfl,rfl,ai O_ O_,congrArg (fun z=>TV.d (dL z)) (take (by rw[hcd,hb1];rfl) (.inl h0)),trivial⟩ trivial rfl⟩
   ·rw[hb1]at c1
    refine jM ?_;refine vi ?_;refine Da ?_;refine MZ ?_;exact⟨i+1,hlt,by omega,weak ⟨rfl,rfl,rfl,rfl,ai O_ O_,congrArg (fun z=>TV.d (dL z)) (keep (.inr ⟨h0,hls⟩)),trivial⟩ trivial rfl⟩
   ·rw[hb1]at c1
    refine jM ?_;refine vi ?_;refine Da ?_;refine MZ ?_;exact⟨i+1,hlt,by omega,weak ⟨rfl,rfl,rfl,rfl,ai O_ O_,congrArg (fun z=>TV.d (dL z)) (take (by rw[hcd,hb1];rfl) (.inr hls)),trivial⟩ trivial rfl⟩
  ·rw[K_ O_]at hnx
   have hnN:AJ l ([])=nx:=hnx
   by_cases h0:nx=[]
   ·exact OC
   ·rw[hnN]at hcont
    refine um ?_;refine d4 (T:=TT) rfl ?_ ?_
    ·exact(DI h0)
    refine kW ?_;refine ek 6002 (m1:=([]:List L8).length) (m2:=1) af D_ (V_ (P_ _ (show([]:List L8).length+1<=1000001 by omega)) D_) rfl rfl rfl rfl rfl rfl rfl rfl rfl rfl rfl (.nil rfl rfl) rfl rfl rfl ?_;refine kW ?_;refine⟨([])++[nx],⟨by simp only[L_,List.length_cons,List.length_nil]at hlo ⊢;omega,hcont h0⟩,by simp only[L_,List.length_cons,List.length_nil]at hlo ⊢;omega,Eq.mpr (congrArg (aM _) (pQ [(0, .d (da l))] [] 10 6001 ([]) nx [])) ?_⟩;exact aM.trans (b:=⟨[(10, .own 6002 (([]:List L8).length+1) 1 9),(0, .d (da l))],[(6002,some ((av ([])).take (([]:List L8).length*1)++[.val (vL nx)]))]⟩) kw ((aD (q:=10) (j:=6002) (j':=6001) rfl rfl rfl rfl).trans kw)
 |cons a r=>
  refine qv ?_;refine kW ?_;refine aq Nat (fun i=>i<=l.length) (fun i=>⟨[(10, .own 6001 (List.cons a r).length 1 9),(0, .d (da l)),(47, .d (da l)),(48, .d (dN .i64 l.length)),(49, .d (dN .i64 i)),(11, .d (dL ((l.take i).foldl (jQ (List.cons a r)) [])))],[(6001,some (av (List.cons a r)))]⟩) (fun i=>l.length-i) 0 (Nat.zero_le _) kw ?_;intro i hi;obtain⟨nx,hnx⟩:∃nx,(l.take i).foldl (jQ (List.cons a r)) []=nx:=⟨_,rfl⟩;rw[hnx]
  by_cases hlt:i<l.length
  ·obtain⟨p,hx⟩:∃p,l[i]? =some p:=⟨l[i],by simp[hlt]⟩
   have hnext:=nu hx hnx;have hp:=M_ hx;have hsx:=(hs p hp).2;obtain⟨o1,na1,xs1,nb1,ys1,nm1,n1,cs1,hA,hB⟩:=bD p;have hat:∀(j:Nat) (a:AV),(bV p.1 o1 na1 xs1 nb1 ys1 nm1 n1 cs1)[j]? =some a->(ot l)[i*8+j]? =some a:=fun j a h=>de l i p hx j a (by rw[hB];exact h)
   have c1:=jy (List.cons a r) p.1 ho1;have c2:=mx p (List.cons a r) hsx ho1;rw[show L4 p= .agg (bV p.1 o1 na1 xs1 nb1 ys1 nm1 n1 cs1) from congrArg DV.agg hB]at c2;have hcd:tf (List.cons a r) p=(!(decide (p.1∈(List.cons a r:List L8))) && uj p.2 (List.cons a r)):=rfl
   have keep:tf (List.cons a r) p=false∨(nx≠[]/\Op.bytesLess p.1 nx=false)->nx=(l.take (i+1)).foldl (jQ (List.cons a r)) []:=fun h=>by
    exact PB
   have take:tf (List.cons a r) p=true->(nx=[]∨Op.bytesLess p.1 nx=true)->p.1=(l.take (i+1)).foldl (jQ (List.cons a r)) []:=fun h1 h2=>by
    rw[hnext,jQ,if_pos ⟨h1,h2⟩]
   generalize uj p.2 (List.cons a r)=rb at *
   have hall:decide (p.1∈(List.cons a r:List L8))=true∨(decide (p.1∈(List.cons a r:List L8))=false/\rb=false)∨(decide (p.1∈(List.cons a r:List L8))=false/\rb=true/\nx=[]) ∨
    (decide (p.1∈(List.cons a r:List L8))=false/\rb=true/\nx≠[]/\Op.bytesLess p.1 nx=false)∨(decide (p.1∈(List.cons a r:List L8))=false/\rb=true/\nx≠[]/\Op.bytesLess p.1 nx=true):=by
    cases decide (p.1∈(List.cons a r:List L8))<;>cases rb<;>cases Op.bytesLess p.1 nx<;>by_cases h:nx=[]<;>simp[h]
   rcases hall with hb1| ⟨hb1,rfl⟩| ⟨hb1,rfl,h0⟩| ⟨hb1,rfl,h0,hls⟩| ⟨hb1,rfl,h0,hls⟩
   ·rw[hb1]at c1
    refine jM ?_;refine vi ?_;refine Qd ?_;exact Ol
   ·rw[hb1]at c1
    refine jM ?_;refine vi ?_;refine MU ?_;exact Ol
   ·rw[hb1]at c1
    refine jM ?_;refine vi ?_;refine MU ?_
    refine kO3 ?_
    refine ax rfl rfl rfl rfl rfl rfl rfl (aU (a:=nx) (b:=[]) h0) ?_;refine kW ?_;exact⟨i+1,hlt,by omega,weak ⟨rfl,rfl,rfl,rfl,ai O_ O_,congrArg (fun z=>TV.d (dL z)) (take (by rw[hcd,hb1];rfl) (.inl h0)),trivial⟩ ⟨rfl,trivial⟩ rfl⟩
   ·rw[hb1]at c1
    refine jM ?_;refine vi ?_;refine MU ?_;refine MZ ?_;exact⟨i+1,hlt,by omega,weak ⟨rfl,rfl,rfl,rfl,ai O_ O_,congrArg (fun z=>TV.d (dL z)) (keep (.inr ⟨h0,hls⟩)),trivial⟩ ⟨rfl,trivial⟩ rfl⟩
   ·rw[hb1]at c1
    refine jM ?_;refine vi ?_;refine MU ?_;refine MZ ?_;exact⟨i+1,hlt,by omega,weak ⟨rfl,rfl,rfl,rfl,ai O_ O_,congrArg (fun z=>TV.d (dL z)) (take (by rw[hcd,hb1];rfl) (.inr hls)),trivial⟩ ⟨rfl,trivial⟩ rfl⟩
  ·rw[K_ O_]at hnx
   have hnN:AJ l (List.cons a r)=nx:=hnx
   by_cases h0:nx=[]
   ·exact OC
   ·rw[hnN]at hcont
    refine um ?_;refine d4 (T:=TT) rfl ?_ ?_
    ·exact(DI h0)
    refine kW ?_;refine ek 6002 (m1:=(List.cons a r:List L8).length) (m2:=1) af D_ (V_ (P_ _ (show(List.cons a r:List L8).length+1<=1000001 by omega)) D_) rfl rfl rfl rfl rfl rfl rfl rfl rfl rfl rfl (.own rfl rfl) rfl rfl rfl ?_;refine kW ?_;refine⟨(List.cons a r)++[nx],⟨by simp only[L_,List.length_cons,List.length_nil]at hlo ⊢;omega,hcont h0⟩,by simp only[L_,List.length_cons,List.length_nil]at hlo ⊢;omega,Eq.mpr (congrArg (aM _) (pQ [(0, .d (da l))] [] 10 6001 (List.cons a r) nx [])) ?_⟩
    exact aM.trans (b:=⟨[(10, .own 6002 ((List.cons a r:List L8).length+1) 1 9),(0, .d (da l))],[(6002,some ((av (List.cons a r)).take ((List.cons a r:List L8).length*1)++[.val (vL nx)]))]⟩) kw ((aD (q:=10) (j:=6002) (j':=6001) rfl rfl rfl rfl).trans kw)
theorem nX (l:Tb) (x:Rx) (c2:aa Tryz.prog 132 [da l] (VB (ug l))) (hs:ul l) (hx:AG x) (hvs:(bW l).2=0->Ed l):aa Tryz.prog 95 [da l,dR x] (GQ l x):=by
 have c1:=io x hx.wd hx.lm (by have:=hx.sz;omega);have he:= @wk l hs hvs;have hee:= @AQ l;have hxo:=CJ hx;unfold GQ;generalize iH x=vx at *;generalize ug l=vv at *
 have c3:vx=0-> ∀env,vv= .ok env->aa Tryz.prog 133 [dR x,eU env,fF env] (bM (ba (aB env) (iE x))):=fun h0 env henv=>by
  obtain⟨h1,h2,h3⟩:=he henv;obtain⟨h4,h5,h6⟩:=hxo h0;have:=dO (l:=env) h1 h2 h3 (iE x) h4 h5
  rwa[show dE (iE x)=dR x from congrArg dR h6]at this
 clear he hxo;generalize iE x=ex at *;obtain⟨o1,na1,xs1,nb1,ys1,nm1,n1,cs1,hA⟩:=aY x;rw[show dR x= .agg (ab o1 na1 xs1 nb1 ys1 nm1 n1 cs1) from congrArg DV.agg hA]at *
 by_cases h0:vx=0
 case neg=>
  rw[if_neg h0];refine kV func95 ?_;refine kC (c1) ?_;refine lC ?_;refine vD ?_;exact aj
 rw[if_pos h0];rw[h0]at c1;cases vv with
 |error e=>
  have hne:=hee rfl;refine kU func95 ?_;exact PF
 |ok env=>
  have c3:=c3 h0 env rfl;dsimp only;cases hev:ba (aB env) ex with
  |error z=>
   rw[hev]at c3;refine kU func95 ?_;exact CY
  |ok y=>
   rw[hev]at c3;refine kU func95 ?_;exact CY
theorem Tx (xs:List Nat):N0 (aW xs)=true:=by
 unfold aW N0
 simp[bZ]
theorem MF (x:QR):VX (bM x)=true:=by
 cases x with
 |error e=>rfl
 |ok y=>
  have h:∀q:Rat,(j5 q y.2).all N0=true:=fun q=>by
   show([AV.val _,aW _,AV.val _,aW _,AV.val _].all N0)=true
   simp only[List.all_cons,List.all_nil,Tx]
   rfl
  show(SO (.agg (j5 y.1 y.2)) && (SO (dN .i64 0) && true))=true;rw[show SO (.agg (j5 y.1 y.2))=true from h y.1];rfl
theorem QV {a b:Nat} {ca cb:List AV} (ha:bL a=false) (hb:bL b=false):∀j cs,(sB [(a,ca),(b,cb)]).bx j=some cs->bL j=false:=fun j cs h=>by
 have e:=bU.1 h
 by_cases h1:j=a
 ·rw[h1];exact ha
 ·by_cases h2:j=b
  ·rw[h2];exact hb
  ·rw[show ay [(a,ca),(b,cb)]=[(a,some ca),(b,some cb)] from rfl,au _ _ (fun h=>h1 h.symm),au _ _ (fun h=>h2 h.symm)]at e;cases e
theorem Rr (env:EL) (n:L8) (v:Rat × Int):pj 1 (av (env.map (·.1))) (oG env n) [.val (vL n)]=av ((f6 env n v).map (·.1)):=by
 unfold pj f6;rw[o_]
 simp[av,List.map_take,List.map_drop]
theorem RK (env:EL) (n:L8) (v:Rat × Int):pj 5 (jW env) (oG env n) (j5 v.1 v.2)=jW (f6 env n v):=by
 unfold pj f6;rw[tD,tE,D6,jW,e_]
theorem G0 (l:List L8):bB (av l)=true:=kL fun b hb=>by
 unfold av at hb;obtain⟨x,_,rfl⟩:=List.mem_map.1 hb;rfl
theorem QS {env:EL} {i:Nat} (h:env.length=i):eU env= .leaf (.sl i (av (env.map (·.1)))):=by
 rw[Cq];unfold lS;rw[j_,h]
abbrev SP (l:Tb) (o:List L8) (i:Nat) (RN RV:List AV):AS:=⟨[(0, .d (da l)),(23, .d (lS o)),(24, .d (dN .i64 o.length)),(25, .d (dN .i64 i)),(7,gV 5001 1 9 i),(8,gV 5002 5 92 i)],[(5001,gX RN i),(5002,gX RV i)]⟩
theorem IK {l:Tb} {o:List L8} {i:Nat} {a a' b b':List AV} (h1:a=a') (h2:b=b'):SP l o i a b=SP l o i a' b':=by rw[h1,h2]
theorem pF (l:Tb) (hs:ul l) (hl:l.length<=500) (hvs:(bW l).2=0->Ed l):aa Tryz.prog 132 [da l] (VB (ug l)):=by
 have co:=AU l hs O_
 by_cases h0:(bW l).2=0
 case neg=>
  rw[Az h0];generalize(bW l).2=z at *;generalize(bW l).1=o at *;refine kV func132 ?_;refine kC (co) ?_;refine lC ?_;refine vD ?_;exact aj
 have hV:=hvs h0;obtain⟨o,ho⟩:∃o,(bW l).1=o:=⟨_,rfl⟩;obtain⟨hok,ht,hn⟩:=ly (l:=l) (o:=o) (by rw[<- ho,<- h0]);have hf:=hok.fx_of hs;have hvv:ug l=lc l o []:=by unfold ug;rw[if_pos h0,ho]
 rw[hvv];rw[h0,ho]at co;obtain⟨R,hR⟩:∃R,lc l o []=R:=⟨_,rfl⟩;rw[hR];clear hvv hvs h0 ho;refine kV func132 ?_;refine kQ (co) ?_;refine aq (Nat × EL) (fun x=>x.1<=o.length/\se l (o.take x.1) x.2/\x.2.length=x.1/\lc l (o.drop x.1) x.2=R) (fun x=>SP l o x.1 (av (x.2.map (·.1))) (jW x.2)) (fun x=>o.length-x.1) (0,[]) ⟨Nat.zero_le _,by simpa using se.nil l,rfl,hR⟩ kw ?_;rintro⟨i,env⟩ ⟨hi,hI,hel,hg⟩;dsimp only at hi hI hel hg ⊢;have hnm:=QS hel;have hvl:fF env= .leaf (.sl i (jW env)):=by unfold fF;rw[hel]
 have hlN:(av (env.map (·.1))).length=i*1:=by rw[c8,j_,hel,o_]
 have hlV:(jW env).length=i*5:=by rw[wV,hel]
 have hoN:=G0 (env.map (·.1));have hoV:=xq env
 by_cases hil:i<o.length
 case neg=>
  rw[List.drop_of_length_le O_,lc]at hg;subst hg;unfold SP;refine kI ?_;refine kE ?_;refine jP ?_
  repeat refine bu (T:=TT) ?_
  refine dh ((jj (q:=7) (J:=5001) (m:=i) (cs:=av (env.map (·.1))) (fun h=>by rw[E_ (hel.trans h)];rfl) rfl rfl).tr (jj (q:=8) (J:=5002) (m:=i) (cs:=jW env) (fun h=>by rw[E_ (hel.trans h)];rfl) rfl rfl)) rfl ?_;refine eH ?_;show RV.tup _=RV.tup [eU env,fF env,_];rw[hnm,hvl];rfl
 obtain⟨nm,hx⟩:∃x,o[i]? =some x:=⟨o[i],by simp[hil]⟩;obtain⟨p,hp,hpn,hfx,hnd,hdep⟩:=ht.at hok hf hx;obtain⟨k,hk⟩:=W_ hp;have hkl:=(G_.1 hk).1;have cf:=rM l nm O_;rw[show uh l nm=(k:Nat) by unfold uh;rw[<- hpn,hok.fd hk,if_pos hkl]]at cf;obtain⟨e1,e2,e3⟩:=IF hs hok hp;have ce:=dO hI.so (l:=env) O_ (fun x hx=>hV.hv _ _ (hI.hv x hx)) (iE p.2) e1 e2;rw[show dE (iE p.2)=dR p.2 from congrArg dR e3]at ce;rw[show o.drop i=nm::o.drop (i+1) by obtain⟨h,e⟩:=G_.1 hx;rw[List.drop_eq_getElem_cons h,e],lc,hfx]at hg;have hne:∀y∈env,y.1≠nm:=fun y hy e=>hnd ((hI.ky nm).2 ⟨y.2,by rw[<- e];exact hy⟩)
 have cb:=S3 env hI.so O_ nm hne;have hps:=xR env nm;have hIs:= @se.step l (o.take i) env hI p (by rw[hpn];exact hnd);have hIh:=fun x=> @se.has l (o.take i) env hI p hp x hdep
 obtain⟨o1,na1,xs1,nb1,ys1,nm1,n1,cs1,hA,hB⟩:=bD p;have hat:∀(j:Nat) (a:AV),(bV p.1 o1 na1 xs1 nb1 ys1 nm1 n1 cs1)[j]? =some a->(ot l)[k*8+j]? =some a:=fun j a h=>de l k p hk j a (by rw[hB];exact h)
 rw[show dR p.2= .agg (ab o1 na1 xs1 nb1 ys1 nm1 n1 cs1) from congrArg DV.agg hA]at ce;have hwd:=MF (ba (aB env) (iE p.2));have hins:=Rr env nm;have hivs:=RK env nm
 have hnext:∀x:Rat × Int,ba (aB env) (iE p.2)= .ok x->se l (o.take (i+1)) (f6 env nm x):=fun x hev=>by
  have hI':=hIs (hIh x hev);rw[hpn,<- aT hx]at hI';exact hI'
 have hnl:∀x:Rat × Int,(f6 env nm x).length=i+1:=fun x=>by rw[rY,hel]
 clear hIs hIh hI hdep hnd hne;rw[hnm]at ce cb;rw[hvl]at ce;rw[hel]at hps;cases i with
 |zero=>
  rw[show av (env.map (·.1))=[] by rw[E_ hel];rfl]at ce cb hins;rw[show jW env=[] by rw[E_ hel];rfl]at ce hivs
  unfold SP;refine jM ?_;refine OD ?_;refine ID ?_;cases hev:ba (aB env) (iE p.2)with
  |error z=>
   have hz:=b6 hev;rw[hev]at ce hg hwd;dsimp only at hg;subst hg;refine kQ (ce) ?_;exact G5
  |ok x=>
   rw[hev]at ce hg hwd;dsimp only at hg;have hI':=hnext x hev;have hins:=hins x;have hivs:=hivs x;have hnl:=hnl x;rw[show oG env nm=0 by omega]at cb hins hivs;refine kQ (ce) ?_;refine kC (cb) ?_;refine NX ?_;refine qM ((KC [.val (vL nm)] rfl rfl).swap 902 13003 rfl) rfl rfl rfl rfl rfl ⟨rfl,trivial⟩ rfl rfl rfl rfl ?_
   refine kO3 ?_
   refine Am 13008 (cs:=j5 x.1 x.2) af rfl rfl rfl rfl rfl rfl rfl rfl rfl rfl rfl rfl rfl ?_;refine qM (((Jl (j5 x.1 x.2) rfl rfl).swap 902 13008 rfl).swap 1003 1013 rfl) rfl rfl rfl rfl rfl ⟨rfl,trivial⟩ rfl rfl rfl rfl ?_;refine kW ?_;refine⟨(0+1,f6 env nm x),⟨hil,hI',hnl,hg⟩,by dsimp only;omega,Eq.mpr (congrArg (aM _) (IK (i:=0+1) hins.symm hivs.symm)) ?_⟩;exact aM.tr (b:=⟨[(7, .own 1003 (0+1) 1 9),(8, .own 1013 (0+1) 5 92),(0, .d (da l)),(23, .d (lS o)),(24, .d (dN .i64 o.length)),(25, .d (dN .i64 (0+1:Nat)))],[(1003,some _),(1013,some _)]⟩) (weak ⟨rfl,rfl,rfl,rfl,rfl,ai O_ O_,trivial⟩ ⟨rfl,rfl,trivial⟩ rfl) (((aD (q:=7) (j:=1003) (j':=5001) rfl rfl rfl rfl).tr (aD (q:=8) (j:=1013) (j':=5002) rfl rfl rfl rfl)).tr kw)
 |succ i=>
  skip
  unfold SP;refine jM ?_;refine OD ?_;refine ID ?_;cases hev:ba (aB env) (iE p.2)with
  |error z=>
   have hz:=b6 hev;rw[hev]at ce hg hwd;dsimp only at hg;subst hg;refine Qk ?_;exact G5
  |ok x=>
   rw[hev]at ce hg hwd;dsimp only at hg;have hI':=hnext x hev;have hins:=hins x;have hivs:=hivs x;have hnl:=hnl x
   skip
   refine Qk ?_;refine iT ((cb.rd (ts:=[.own 5001 (i+1) 1 9, .d (dL nm)]) (b:=[(5001,av (env.map (·.1)))]) rfl rfl)) rfl rfl rfl rfl rfl ⟨rfl,trivial⟩ rfl rfl rfl rfl ?_;refine NX ?_;refine qM (((LP (m:=i+1) (i:=oG env nm) (x:=[.val (vL nm)]) hps O_ O_ hlN rfl hoN rfl).swap 901 5001 rfl).swap 902 13003 rfl) rfl rfl rfl rfl rfl ⟨rfl,rfl,trivial⟩ rfl rfl rfl rfl ?_
   refine kO3 ?_
   refine Am 13008 (cs:=j5 x.1 x.2) af rfl rfl rfl rfl rfl rfl rfl rfl rfl rfl rfl rfl rfl ?_;refine qM ((((Ns (m:=i+1) (i:=oG env nm) (x:=j5 x.1 x.2) hps O_ O_ hlV rfl hoV rfl).swap 901 5002 rfl).swap 902 13008 rfl).swap 1003 1013 rfl) rfl rfl rfl rfl rfl ⟨rfl,rfl,trivial⟩ rfl rfl rfl rfl ?_;refine kW ?_;refine⟨(i+1+1,f6 env nm x),⟨hil,hI',hnl,hg⟩,by dsimp only;omega,Eq.mpr (congrArg (aM _) (IK (i:=i+1+1) hins.symm hivs.symm)) ?_⟩
   exact aM.tr (b:=⟨[(7, .own 1003 (i+1+1) 1 9),(8, .own 1013 (i+1+1) 5 92),(0, .d (da l)),(23, .d (lS o)),(24, .d (dN .i64 o.length)),(25, .d (dN .i64 (i+1+1:Nat)))],[(1003,some _),(1013,some _)]⟩) (weak ⟨rfl,rfl,rfl,rfl,rfl,ai O_ O_,trivial⟩ ⟨rfl,rfl,trivial⟩ rfl) (((aD (q:=7) (j:=1003) (j':=5001) rfl rfl rfl rfl).tr (aD (q:=8) (j:=1013) (j':=5002) rfl rfl rfl rfl)).tr kw)
theorem TM {l:Tb} {x:Rx} (hs:ul l) (hx:AG x) (hV:(bW l).2=0->Ed l):∃E:QR,GQ l x=bM E/\(∀e,E= .error e->e≠0)/\ ∀y,E= .ok y-> ∃k,k<=2147483640/\b8 k y.1:=by
 unfold GQ
 by_cases h0:iH x=0
 ·rw[if_pos h0]
  cases hv:ug l with
  |error e=>exact⟨.error e,rfl,fun _ h=>by cases h;exact AQ hv,fun _ h=>by cases h⟩
  |ok env=>
   obtain⟨hso,h2,h3⟩:=wk hs hV hv;obtain⟨h4,h5,_⟩:=CJ hx h0;have henv:jK (aB env):=fun s z h=>h3 _ ((yc hso).1 h)
   exact⟨ba (aB env) (iE x),rfl,fun e h=>b6 h,fun y h=>⟨gO (iE x),by omega,(eI henv h4 h).1⟩⟩
 ·rw[if_neg h0]
  exact⟨.error (iH x),rfl,fun _ h=>by cases h;exact h0,fun _ h=>by cases h⟩
def Br (v:Nat):QR->Except Int Rat
 | .error e=> .error e
 | .ok y=>if v=3 then(if y.2=0 then .ok y.1 else .error 8)else if y.2=0∨y.2=1 then(if v=2/\KQ y.1<=0 then .error 6 else .ok y.1)else .error 8
def SW:Except Int Rat->RV
 | .error e=> .tup [GP,dN .i64 e]
 | .ok q=> .tup [dQ q,dN .i64 0]
theorem Eg (q:Rat) (p:Int):bM (.ok (q,p))= .tup [mD q p,dN .i64 0]:=rfl
theorem D4 (e:Int):bM (.error e)= .tup [yi,dN .i64 e]:=rfl
theorem mh {r:Kd} {l:Tb} {x:Rx} {E:QR} (cE:aa Tryz.prog 95 [da l,dR x] (bM E)) (hE:∀e,E= .error e->e≠0) (hk:∀y,E= .ok y-> ∃k,k<=2147483640/\b8 k y.1) (hv:r.v=1∨r.v=2∨r.v=3):
 aa Tryz.prog 56 [.agg (SL r),da l,dR x] (SW (Br r.v E)):=by
 obtain⟨o1,na1,xs1,nb1,ys1,nm1,n1,cs1,hX⟩:=aY x;rw[show dR x= .agg (ab o1 na1 xs1 nb1 ys1 nm1 n1 cs1) from congrArg DV.agg hX]at cE ⊢;obtain⟨rn,rp,rc,rm,v,rq,rs⟩:=r;dsimp only at hv ⊢;cases E with
 |error e=>
  have he:=hE e rfl;rw[D4]at cE;unfold Br SW;dsimp only;rcases hv with rfl|rfl|rfl
  all_goals
   refine kV func56 ?_;refine kC (cE) ?_;refine kG ?_;refine kO ?_;refine kB true ?_ ?_
   ·exact bne_iff_ne.2 he
   exact kF
 |ok y=>
  obtain⟨k,hk1,hk2⟩:=hk y rfl;obtain⟨q,p⟩:=y;rw[Eg]at cE;have cS:=oO q;unfold Br SW;dsimp only;rcases hv with rfl|rfl|rfl
  rotate_left 2
  ·rw[if_pos rfl]
   by_cases h0:p=0
   ·rw[if_pos h0]
    refine kV func56 ?_;refine kC (cE) ?_
    iterate 3 refine kG ?_
    refine kO2 ?_
    refine kB false ?_ ?_
    ·exact(by simp[h0])
    exact aj
   ·rw[if_neg h0]
    refine kV func56 ?_;refine kC (cE) ?_
    iterate 3 refine kG ?_
    refine kO2 ?_
    refine kB true ?_ ?_
    ·exact(by simp[h0])
    exact aj
  ·rw[if_neg D_]
   by_cases hp1:p=0∨p=1
   ·rw[if_pos hp1,if_neg (fun h=>by cases h.1)]
    have cL:=lP hk2 hk1 hp1;refine zR ?_;exact aj
   ·rw[if_neg hp1]
    have cL:=mJ (a:=q) hp1;refine zR ?_;exact aj
  ·rw[if_neg D_]
   by_cases hp1:p=0∨p=1
   ·have cL:=lP hk2 hk1 hp1
    rw[if_pos hp1]
    by_cases hs:KQ q<=0
    ·rw[if_pos ⟨rfl,hs⟩]
     refine zR ?_;refine kW ?_;refine kC (cS) ?_;refine kB true ?_ ?_
     ·exact T_ hs
     exact aj
    ·rw[if_neg (fun h=>hs h.2)]
     refine zR ?_;refine kW ?_;refine kC (cS) ?_;refine kB false ?_ ?_
     ·exact F_ hs
     exact aj
   ·rw[if_neg hp1]
    have cL:=mJ (a:=q) hp1;refine zR ?_;exact aj
def A2 (l:List Rat):List AV:=l.flatMap aQ
theorem ML (l:List Rat):(A2 l).length=l.length*4:=by
 induction l with
 |nil=>rfl
 |cons a r ih=>
  show(aQ a++A2 r).length=_;rw[L_,ih,List.length_cons];show 4+_=_;omega
def qV (l:List Rat):TV:=match l with
 | []=> .nil
 |a::r=> .own 7001 (a::r).length 4 38
def qX (l:List Rat):Option (List AV):=match l with
 | []=>none
 |a::r=>some (A2 (a::r))
theorem wE (l:List Rat) (x:Rat):qV (l++[x])= .own 7001 (l.length+1) 4 38:=by cases l<;>simp[qV]
theorem xX (l:List Rat) (x:Rat):qX (l++[x])=some ((A2 l).take (l.length*4)++aQ x):=by
 have h:(A2 l).take (l.length*4)=A2 l:=K_ (Nat.le_of_eq (ML l));rw[h];cases l<;>simp[qX,A2]
def oJ (f:Rx->Except Int Rat):List Rx->Except Int (List Rat)
 | []=> .ok []
 |x::r=>match f x with
  | .error e=> .error e
  | .ok q=>match oJ f r with
   | .error e=> .error e
   | .ok qs=> .ok (q::qs)
def Il:Except Int (List Rat)->RV
 | .error e=> .tup [.leaf (.sl 0 []),dN .i64 e]
 | .ok qs=> .tup [.leaf (.sl qs.length (A2 qs)),dN .i64 0]
theorem wz {f:Rx->Except Int Rat} {x:Rx} {e:Int} (hf:f x= .error e):∀(pre post:List Rx) (qs:List Rat),oJ f pre= .ok qs->oJ f (pre++x::post)= .error e
 | [],post,qs,_=>by rw[List.nil_append,oJ,hf]
 |a::r,post,qs,h=>by
  rw[oJ]at h;rw[List.cons_append,oJ];cases ha:f a with
  |error e=>rw[ha]at h;cases h
  |ok q=>
   rw[ha]at h;dsimp only at h ⊢;cases hr:oJ f r with
   |error e=>rw[hr]at h;cases h
   |ok qs'=>rw[wz hf r post qs' hr]
theorem s6 {f:Rx->Except Int Rat} {x:Rx} {q:Rat} (hf:f x= .ok q):∀(pre:List Rx) (qs:List Rat),oJ f pre= .ok qs->oJ f (pre++[x])= .ok (qs++[q])
 | [],qs,h=>by
  cases h;rw[List.nil_append,oJ,hf];rfl
 |a::r,qs,h=>by
  rw[oJ]at h;rw[List.cons_append,oJ];cases ha:f a with
  |error e=>rw[ha]at h;cases h
  |ok q'=>
   rw[ha]at h;dsimp only at h ⊢;cases hr:oJ f r with
   |error e=>rw[hr]at h;cases h
   |ok qs'=>
    rw[hr]at h;cases h;rw[s6 hf r qs' hr];rfl
theorem ks {c:Cn} {r:Kd} {l:Tb} (hr:pR c.k=some r) (cV:aa Tryz.prog 17 [dC c,dN .i64 200,dN .i64 200] (.one (dB true))) (h3:c.vs.length<=1000000) (f:Rx->Except Int Rat)
 (cE:∀x∈c.vs,aa Tryz.prog 56 [.agg (SL r),da l,dR x] (SW (f x))) (hE:∀x∈c.vs,∀e,f x= .error e->e≠0):aa Tryz.prog 22 [dC c,da l] (Il (oJ f c.vs)):=by
 have cS:=ny c.k;rw[hr]at cS;obtain⟨k,ps,cs,vs,s⟩:=c;dsimp only at *;show aa Tryz.prog _ [.agg (cC k ps cs vs s),da l] _;have cV:aa Tryz.prog 17 [.agg (cC k ps cs vs s),dN .i64 200,dN .i64 200] (.one (dB true)):=cV;have cS:aa Tryz.prog 30 [dN .i64 k] (.tup [.agg (SL r),dB true]):=cS;obtain⟨nm,rp,rc,rn,rv,rq,rs⟩:=r;generalize hA:(Nat.beq rv 1 || Nat.beq rv 2)=b1;generalize hB:Nat.beq rv 2=b2;have hsh:SL ⟨nm,rp,rc,rn,rv,rq,rs⟩=[.val (.int .i64 rp), .val (.int .i64 rc), .val (.int .i64 rn), .val (.int .i64 rq), .val (.bool rs), .val (.bool b1), .val (.bool b2)]:=by rw[<- hA,<- hB];rfl
 rw[hsh]at cS cE;refine kV func22 ?_;refine kQ (cV) ?_;refine kQ (cS) ?_;refine aq (Nat × List Rat) (fun x=>x.1<=vs.length/\oJ f (vs.take x.1)= .ok x.2/\x.2.length<=x.1) (fun x=>⟨[(8,qV x.2),(1, .d (da l)),(6, .box 3006 0),(23, .d (.leaf (.sl vs.length (fG vs)))),(24, .d (dN .i64 vs.length)),(25, .d (dN .i64 x.1))],[(7001,qX x.2),(3006,some [.val (.int .i64 rp), .val (.int .i64 rc), .val (.int .i64 rn), .val (.int .i64 rq), .val (.bool rs), .val (.bool b1), .val (.bool b2)])]⟩) (fun x=>vs.length-x.1) (0,[]) ⟨Nat.zero_le _,rfl,l_ _⟩ kw ?_;rintro⟨i,qs⟩ ⟨hi,hq,hql⟩;dsimp only at hi hq hql ⊢
 by_cases hlt:i<vs.length
 ·obtain⟨x,hx⟩:∃x,vs[i]? =some x:=⟨vs[i],by simp[hlt]⟩
  have hm:=M_ hx;have c1:=cE x hm;have hat:=eX vs i x hx;have hne:=hE x hm
  have hsp:vs=vs.take i++x::vs.drop (i+1):=by
   exact Pe
  obtain⟨o1,na1,xs1,nb1,ys1,nm1,n1,cs1,hX⟩:=aY x;rw[show dR x= .agg (ab o1 na1 xs1 nb1 ys1 nm1 n1 cs1) from congrArg DV.agg hX]at c1;rw[hX]at hat;cases hf:f x with
  |error e=>
   have he:=hne e hf;have hv:oJ f vs= .error e:=by rw[hsp];exact wz hf _ _ qs hq
   rw[hv];rw[hf]at c1;unfold SW at c1;dsimp only at c1;cases qs
   all_goals
    refine kI ?_;refine kX ?_;refine aH (i:=i) (cs':=ab o1 na1 xs1 nb1 ys1 nm1 n1 cs1) hlt hat (Z_ 6) rfl rfl rfl rfl rfl rfl rfl rfl ?_;refine kW ?_;refine kC (c1) ?_;refine kG ?_;refine kO ?_;refine kB true ?_ ?_
    ·exact bne_iff_ne.2 he
    exact kF
  |ok q=>
   have hs2:oJ f (vs.take (i+1))= .ok (qs++[q]):=by rw[aT hx];exact s6 hf _ qs hq
   rw[hf]at c1;unfold SW at c1;dsimp only at c1;cases qs with
   |nil=>
    refine kI ?_;refine kT ?_;refine E7 ?_;refine iQ ?_;refine Qg ?_;refine⟨(i+1,([]:List Rat)++[q]),⟨hlt,hs2,by rw[L_];exact Nat.succ_le_succ hql⟩,by dsimp only;omega,?_⟩;show aM _ ⟨[(8,qV (([]:List Rat)++[q])),(1, .d (da l)),(6, .box 3006 0),(23, .d (.leaf (.sl vs.length (fG vs)))),(24, .d (dN .i64 vs.length)),(25, .d (dN .i64 (i+1:Nat)))],[(7001,qX (([]:List Rat)++[q])),(3006,some [.val (.int .i64 rp), .val (.int .i64 rc), .val (.int .i64 rn), .val (.int .i64 rq), .val (.bool rs), .val (.bool b1), .val (.bool b2)])]⟩;rw[wE,xX]
    exact aM.trans (b:=⟨[(8, .own 7003 (([]:List Rat).length+1) 4 38),(1, .d (da l)),(6, .box 3006 0),(23, .d (.leaf (.sl vs.length (fG vs)))),(24, .d (dN .i64 vs.length)),(25, .d (dN .i64 (i+1:Nat)))],[(7003,some ((A2 ([]:List Rat)).take (([]:List Rat).length*4)++aQ q)),(3006,some [.val (.int .i64 rp), .val (.int .i64 rc), .val (.int .i64 rn), .val (.int .i64 rq), .val (.bool rs), .val (.bool b1), .val (.bool b2)])]⟩) (weak ⟨rfl,rfl,rfl,rfl,rfl,ai O_ O_,trivial⟩ ⟨rfl,rfl,trivial⟩ rfl) ((aD (q:=8) (j:=7003) (j':=7001) (m:=([]:List Rat).length+1) (k:=4) (e:=38) rfl rfl rfl rfl).trans kw)
   |cons q0 qr=>
    have hml:(q0::qr).length<=1000000:=O_
    refine kI ?_;refine kT ?_;refine E7 ?_;refine iQ ?_;refine OP ?_;refine⟨(i+1,(q0::qr)++[q]),⟨hlt,hs2,by rw[L_];exact Nat.succ_le_succ hql⟩,by dsimp only;omega,?_⟩;show aM _ ⟨[(8,qV ((q0::qr)++[q])),(1, .d (da l)),(6, .box 3006 0),(23, .d (.leaf (.sl vs.length (fG vs)))),(24, .d (dN .i64 vs.length)),(25, .d (dN .i64 (i+1:Nat)))],[(7001,qX ((q0::qr)++[q])),(3006,some [.val (.int .i64 rp), .val (.int .i64 rc), .val (.int .i64 rn), .val (.int .i64 rq), .val (.bool rs), .val (.bool b1), .val (.bool b2)])]⟩;rw[wE,xX]
    exact aM.trans (b:=⟨[(8, .own 7003 ((q0::qr:List Rat).length+1) 4 38),(1, .d (da l)),(6, .box 3006 0),(23, .d (.leaf (.sl vs.length (fG vs)))),(24, .d (dN .i64 vs.length)),(25, .d (dN .i64 (i+1:Nat)))],[(7003,some ((A2 (q0::qr)).take ((q0::qr:List Rat).length*4)++aQ q)),(3006,some [.val (.int .i64 rp), .val (.int .i64 rc), .val (.int .i64 rn), .val (.int .i64 rq), .val (.bool rs), .val (.bool b1), .val (.bool b2)])]⟩) (weak ⟨rfl,rfl,rfl,rfl,rfl,ai O_ O_,trivial⟩ ⟨rfl,rfl,trivial⟩ rfl) ((aD (q:=8) (j:=7003) (j':=7001) (m:=(q0::qr:List Rat).length+1) (k:=4) (e:=38) rfl rfl rfl rfl).trans kw)
 ·rw[K_ O_]at hq
  rw[hq];cases qs with
  |nil=>
   refine kI ?_;refine kE ?_;exact aj
  |cons q0 qr=>
   refine kI ?_;refine kE ?_;refine jP ?_;refine kI ?_;refine y5 af rfl rfl rfl rfl (bf (q:=44) rfl rfl) ?_;exact aj
theorem wJ {c:Cn} {l:Tb} (cV:aa Tryz.prog 17 [dC c,dN .i64 200,dN .i64 200] (.one (dB false))):aa Tryz.prog 22 [dC c,da l] (Il (.error 1)):=by
 obtain⟨k,ps,cs,vs,s⟩:=c;show aa Tryz.prog _ [.agg (cC k ps cs vs s),da l] _;have cV:aa Tryz.prog 17 [.agg (cC k ps cs vs s),dN .i64 200,dN .i64 200] (.one (dB false)):=cV;refine kV func22 ?_;refine kC (cV) ?_;exact aj
theorem VH:fmt 5=[53]:=by
 unfold fmt;rw[if_neg D_,if_neg D_];show []++mE 5=_;rw[eG D_];show []++(mE 0++[dg 5])=_;rw[ez];rfl
theorem UN:fmt 0=[48]:=rfl
theorem Wt:gg ((5:Int):Rat)=some [53]:=by
 unfold gg;rw[if_neg D_,lK,if_pos (by rfl),show(pw ((5:Int):Rat) 0).num=5 from rfl,VH];rfl
def u7:Ex:= .bin .div (.nam [119]) (.num ((2:Int):Rat) [])
def wl:Ex:= .num ((5:Int):Rat) [99,109]
theorem Vh:cx u7 0=[119,32,47,32,50]:=by
 show cx (.nam [119]) 2++oy .div++yS 4 3 (NL ((2:Int):Rat)++tq [])=_;unfold NL;rw[VN];rfl
theorem T0 (z:Int) (h:z.natAbs<4294967296):b8 1 (z:Rat):=⟨Sz.small h,Sz.small (by show(1:Int).natAbs<_;decide)⟩
theorem LD:qB u7:=⟨show pO [119]=true by decide,by rw[VN];rfl,(T0 2 D_).mono D_, .inl rfl⟩
theorem T9:qB wl:=⟨by rw[Wt];rfl,(T0 5 D_).mono D_, .inr D_⟩
theorem sE {n:Nat} (h:n<4294967296):(digs n).length<=8:=V_ (aS (k:=1) (by simpa using h)) D_
theorem C2 (v:Rat) (u:List UInt8) (hu:u.length<=60):j3 (rx (.num v u)):= .mk D_ D_ (ae _) (ae _) O_ S_ (fun x hx=>by cases hx)
theorem NB (u:List UInt8) (hu:u.length<=60):j3 (rx (.nam u)):= .mk D_ D_ it it O_ S_ (fun x hx=>by cases hx)
theorem QU:j3 (rx u7):= .mk D_ D_ it it D_ D_ (fun x hx=>by
 rcases f_.1 hx with rfl|hx
 ·exact NB _ D_
 ·cases d_.1 hx;exact C2 _ _ D_)
theorem VS:j3 (rx wl):=C2 _ _ D_
theorem Jz {e:Ex} (h1:qB e) (h2:j3 (rx e)) (h4:uq (rx e)<=40) (hlt:oB (rx e)=true) (hsz:f8 (rx e)<=120):AG (rx e)/\iH (rx e)=0:=by
 refine⟨⟨h2,hlt,hsz⟩,?_⟩;unfold iH;rw[if_pos (xW e h1),if_pos h4]
theorem zy:AG (rx u7)/\iH (rx u7)=0:=Jz LD QU D_ (by
 have h1:(digs 2).length<=8:=sE D_;have h2:(digs 1).length<=8:=sE D_;have h0:(digs 0).length<=8:=sE D_
 simp[u7,rx,oB,oX]
 exact⟨h1,h2⟩) (by simp[u7,rx,f8,eQ])
theorem UW:AG (rx wl)/\iH (rx wl)=0:=Jz T9 VS D_ (by
 have h1:(digs 5).length<=8:=sE D_;have h2:(digs 1).length<=8:=sE D_
 simp[wl,rx,oB,oX]
 exact⟨h1,h2⟩) (by simp[wl,rx,f8,eQ])
def c5:Cn:=⟨2,[0,1],[],[rx u7],0⟩
def d5:Cn:=⟨17,[],[0,2],[],-1⟩
def s5:L8:=[116,97,110,103,101,110,116,99,105,114,99,108,101,32,99,48,32,99,50,32,105,110,115,105,100,101]
theorem UD:GA c5 200 200=true:=by
 rw[nw (r:=⟨[100,105,115,116,97,110,99,101],2,0,1,2,1,false⟩) (by rfl)]
 simp[c5,zy.2]
 decide
theorem TL:GA d5 200 200=true:=D_
def r5:Kd:=⟨[100,105,115,116,97,110,99,101],2,0,1,2,1,false⟩
def PZ:Kd:=⟨[116,97,110,103,101,110,116,99,105,114,99,108,101],0,2,0,0,1,true⟩
theorem Rm:pR c5.k=some r5:=by rfl
theorem VZ:pR d5.k=some PZ:=by rfl
theorem V5:Vp c5 r5 200 200:=by
 obtain⟨r,h⟩:=wB.1 UD;have:=h.k;rw[Rm]at this;cases this;exact h
theorem WI:Vp d5 PZ 200 200:=by
 obtain⟨r,h⟩:=wB.1 TL;have:=h.k;rw[VZ]at this;cases this;exact h
def t5:L8:=[100,105,115,116,97,110,99,101,32,112,48,32,112,49,32,61,32,119,32,47,32,50]
theorem Wk:GN r5 c5 [[119,32,47,32,50]]=t5:=by
 have h:Vj r5 c5=[r5.nm,[112,48],[112,49]]:=by
  show [r5.nm,112::fmt 0,112::fmt 1]=_;rw[UN,VE]
 unfold GN;rw[h];rfl
theorem Vg:GN PZ d5 []=s5:=by
 have h:Vj PZ d5=[PZ.nm,[99,48],[99,50],[105,110,115,105,100,101]]:=by
  show [PZ.nm,99::fmt 0,99::fmt 2,[105,110,115,105,100,101]]=_;rw[UN,Tv]
 unfold GN;rw[h];rfl
def T5:Tb:=[([119],rx wl)]
theorem Is:ul T5:=fun p hp=>by
 cases d_.1 hp;exact⟨by decide,UW.1⟩
theorem PT:ur T5=0:=by
 have hn:pO [119]=true:=D_
 simp[ur,DQ,T5,UW.2,hn]
theorem Uu:ju (rx wl)=[]:=by simp[wl,rx,ju,fH,iz]
theorem Sp:bW T5=([[119]],0):=by
 have h1:AJ T5 []=[119]:=by simp[AJ,T5,jQ,tf,uj,Uu]
 have h3:iD T5 T5.length []=some [[119]]:=by
  show iD T5 1 []=_;rw[iD,h1,if_neg D_];rfl
 unfold bW;rw[if_pos PT,if_pos (by simp[T5,uj,Uu]),h3]
theorem RW:Sk [99,109]=some ((10:Int):Rat):=by rfl
def E5:EL:=[([119],(((5:Int):Rat)*((10:Int):Rat),1))]
theorem Ou:ug T5= .ok E5:=by
 unfold ug;rw[Sp,if_pos rfl];have f1:NR T5 [119]=rx wl:=by simp[NR,T5,il]
 have e1:ba (aB []) wl= .ok (((5:Int):Rat)*((10:Int):Rat),1):=by
  rw[wl,ba,if_neg D_,RW]
 simp only[lc,f1,xr T9,e1]
 rfl
theorem VW:Ed T5:=by
 refine⟨Is,by decide,fun n x h=>?_⟩;obtain⟨_,_,_,hk,hv,_⟩:=IZ (fun h=>h.fx_of Is) Ou;obtain⟨u,hu⟩:=(hk n).2 (by cases h with|mk f hp _ _=>exact⟨_,hp,rfl⟩);have:x=u:=h.fn (tC PT) (hv _ hu);subst this;cases d_.1 hu;exact⟨((T0 5 D_).mul (T0 10 D_)).mono D_,rfl⟩
theorem WL:GQ T5 (rx u7)=bM (.ok (((25:Int):Rat),1)):=by
 unfold GQ;rw[if_pos zy.2,Ou];dsimp only;have h2:((5:Int):Rat)*((10:Int):Rat)/((2:Int):Rat)=((25:Int):Rat):=by kernel_rfl
 have h:ba (aB E5) u7= .ok (((25:Int):Rat),1):=by
  rw[<- h2];rfl
 rw[xr LD,h]
theorem V7:GQ [] (rx u7)=bM (.error 4):=by
 unfold GQ
 have hv:ug []= .ok []:=by
  unfold ug;rfl
 rw[if_pos zy.2,hv];dsimp only;rw[xr LD];rfl
end Go.Proofs.YtnchbpoopnjghaaGreatDoor
