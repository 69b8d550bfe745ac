/- Parts of a proof: contracts of the functions that the laws reach. -/
import Derived.Test.YtmkggcjajcdlcaaGreatDoorVZ11
set_option maxHeartbeats 100000000
set_option linter.all false
open Go.Proofs.Tryz
namespace Go.Proofs.YtmkggcjajcdlcaaGreatDoor
open Go.RowKit
theorem TE {T:TypeId->Option Ty} {s:AS} {t t2 j m m' k e n n':Nat} {a a' b b':List AV} {rs:List ResultVar} (h1:m=m') (h2:a=a') (h3:n=n') (h4:b=b') (hr:rs=[.tmp t, .tmp t2]) (ht:s.tv t= .own j m k e) (hj:s.bx j=some a) (hq:jB T s [.tmp t2]=some [.leaf (.sl n b)]):OA T s rs (.ot j m' k e [.leaf (.sl n' b')]) [(j,a')]:=by
 subst h1 h2 h3 h4;exact⟨⟨t,_,hr,ht,by simp,hq⟩,⟨hj,trivial⟩⟩
theorem TC (ns:List L8) (cv:List AV) (x:L8) (na:Bool) (xs:List Nat) (nb:Bool) (ys:List Nat) (p:Int) (hc:cv.length=ns.length*5) (hB:a8 cv=true) (hl:ns.length<=1000):bw Tryz.prog 63 [.d (iZ ns), .d (.leaf (.sl ns.length cv)), .d (dL x), .d (.agg (TH na xs nb ys p))] [] (.ot 6009 (ns.length+1) 1 9 [.leaf (.sl (ns.length+1) (TJ ns x cv (TH na xs nb ys p)))]) [(6009,au (Lf ns x))]:=by
 have hBn:=km ns;have hcn:=dK ns;have hple:=FV ns x;have hplt:= @Tr ns x;have hpat:= @Li ns x;have hNc:au (Lf ns x)=(au ns).take (Q7 ns x*1)++[.val (vL x)]++(au ns).drop (Q7 ns x*1):=by simp[Lf,au,List.map_take,List.map_drop]
 rw[hNc,TJ];clear hNc;generalize Q7 ns x=q at *;refine bf ac fo func63 rfl rfl rfl rfl rfl ((em.nil _)) ?_;refine kR ?_;refine kR ?_;refine j4 ⟨[(0, .d (iZ ns)),(1, .d (.leaf (.sl ns.length cv))),(2, .d (dL x)),(7, .box 0 0),(10, .d (dN .i64 q))],[(0,some (TH na xs nb ys p))]⟩ (fun s' hw=>?_) (fun R hR _=>?_)
 case refine_2=>
  refine kW ?_;refine ay Nat (fun k=>k<=q) (fun k=>⟨[(0, .d (iZ ns)),(1, .d (.leaf (.sl ns.length cv))),(2, .d (dL x)),(7, .box 0 0),(10, .d (dN .i64 k))],[(0,some (TH na xs nb ys p))]⟩) (fun k=>q-k) 0 (Nat.zero_le _) kw ?_;intro k hk;refine kI ?_
  refine kO3 ?_
  by_cases hkn:k<ns.length
  ·refine kT ?_
   obtain⟨y,hy⟩:∃y,ns[k]? =some y:=⟨ns[k],by simp[hkn]⟩
   refine kO3 ?_
   refine bP (i:=k) (cs':=[.val (vL y)]) hkn (ib hy) (Nat.zero_lt_succ 0) rfl rfl rfl rfl rfl rfl rfl rfl ?_
   refine kO2 ?_
   by_cases hkq:k<q
   ·refine aO rfl rfl rfl rfl rfl rfl rfl (G1 (a:=y) (b:=x) (hplt hkq hy)) ?_
    refine kW ?_;exact⟨k+1,hkq,by omega,weak ⟨rfl,rfl,rfl,rfl,ak (by omega) (by omega),trivial⟩ ⟨rfl,trivial⟩ rfl⟩
   ·obtain rfl:k=q:=by omega
    refine aO rfl rfl rfl rfl rfl rfl rfl (G1 (a:=y) (b:=x) (hpat hy)) ?_;refine kW ?_;exact hR _ kw
  ·obtain rfl:k=q:=by omega
   refine kY ?_;exact hR _ kw
 refine bG (T:=TT) ?_;refine bV hw rfl ?_;clear hw s' hplt hpat;obtain⟨d,hd⟩:∃d,ns.length-q=d:=⟨_,rfl⟩;have hb:∀m,m<=1001->m*72<=140737488355328:=fun m hm=>by omega
 have hb1:∀m,m<=1001->m*16<=140737488355328:=fun m hm=>by omega
 rcases Nat.eq_zero_or_pos q with hq0|hq0<;>rcases Nat.eq_zero_or_pos d with hd0|hd0
 ·subst hq0 hd0;have hdr:au ns=[]:=List.eq_nil_of_length_eq_zero (by rw[hcn];omega);have hdr5:cv=[]:=List.eq_nil_of_length_eq_zero (by omega)
  refine kO ?_;refine Ru ?_;refine Si ?_;refine po ?_;refine ST ?_;refine Si ?_;refine P3 ?_;refine ST ?_;refine ML ?_;exact Oc
 ·subst hq0;have hdr:=trivial;have hdr5:=trivial
  refine kO ?_;refine Ru ?_;refine Si ?_;refine po ?_;refine u5 6003 (m1:=0+1) (m2:=d) ac hd0 (hb1 _ (by omega)) (by rw[List.length_drop,hcn];omega) rfl rfl rfl rfl rfl rfl rfl rfl rfl (.own rfl rfl) rfl rfl (by rw[jh hBn];rfl) rfl ?_;refine Si ?_;refine P3 ?_;refine u5 7003 (m1:=0+1) (m2:=d) ac hd0 (hb _ (by omega)) (by rw[List.length_drop,hc];omega) rfl rfl rfl rfl rfl rfl rfl rfl rfl (.own rfl rfl) rfl rfl (by rw[jh hB];rfl) rfl ?_;refine Ql ?_;exact Oc
 ·subst hd0;have hdr:(au ns).drop q=[]:=List.drop_eq_nil_of_le (by rw[hcn];omega);have hdr5:cv.drop (q*5)=[]:=List.drop_eq_nil_of_le (by omega)
  refine kO ?_;refine Ru ?_;refine Si ?_;refine PK ?_;refine ST ?_;refine Si ?_;refine RK ?_;refine ST ?_;refine ML ?_;exact Oc
 ·have hdr:=trivial;have hdr5:=trivial
  refine kO ?_;refine Ru ?_;refine Si ?_;refine PK ?_;refine u5 6003 (m1:=0+q+1) (m2:=d) ac hd0 (hb1 _ (by omega)) (by rw[List.length_drop,hcn];omega) rfl rfl rfl rfl rfl rfl rfl rfl rfl (.own rfl rfl) rfl rfl (by rw[jh hBn];rfl) rfl ?_;refine Si ?_;refine RK ?_;refine u5 7003 (m1:=0+q+1) (m2:=d) ac hd0 (hb _ (by omega)) (by rw[List.length_drop,hc];omega) rfl rfl rfl rfl rfl rfl rfl rfl rfl (.own rfl rfl) rfl rfl (by rw[jh hB];rfl) rfl ?_;refine Ql ?_;exact Oc
section
variable {P:Program} {T:TypeId->Option Ty} {n:Nat} {ops:Array Oper} {id:Nat} {draw:Bool} {K:AS->Prop} {s:AS} {k:Nat} {o:Oper} {os:List Oper} {fps:List FP}
theorem TD {x:Operand} {j m q e:Nat} {ds:List DV} {cs:List AV} (h1:gd ops s o=some true) (ho:o.op= .extract x 0) (hx:s.ev x= .ot j m q e ds) (hj:s.bx j=some cs) (h3:aF n o.dst=true) (h4:eT draw ops (ar ops o ⟨.own j m q e,none⟩ [j]) k fps=true)
 (h:am P T n ops id draw K (k+1) os (s.eff o.dst ⟨.own j m q e,none⟩) (ar ops o ⟨.own j m q e,none⟩ [j]::fps)):am P T n ops id draw K k (o::os) s fps:=by
 refine .run h1 (.gen fun s2 ht hrb=>?_) h3 h4 h;have hx2:=(an ht (x:=x) (by simp[ho,Op.operands])).trans hx;refine af fun n S0 w0 g a w hM=>?_
 have hm:=hM.ev x;rw[hx2]at hm;obtain⟨u,us,e0,h5,_⟩:=hm;refine⟨u,w,?_,Below.refl _ _,h5⟩;unfold execOp;rw[ho]
 simp[e0,Instr.extract]
theorem TG {x:Operand} {j m q e i:Nat} {ds:List DV} {dv:DV} (h1:gd ops s o=some true) (ho:o.op= .extract x (i+1)) (hx:s.ev x= .ot j m q e ds) (hd:ds[i]? =some dv) (h3:aF n o.dst=true) (h4:eT draw ops (ar ops o ⟨.d dv,none⟩ []) k fps=true)
 (h:am P T n ops id draw K (k+1) os (s.eff o.dst ⟨.d dv,none⟩) (ar ops o ⟨.d dv,none⟩ []::fps)):am P T n ops id draw K k (o::os) s fps:=by
 refine .run h1 (.gen fun s2 ht hrb=>?_) h3 h4 h;have hx2:=(an ht (x:=x) (by simp[ho,Op.operands])).trans hx;refine af fun n S0 w0 g a w hM=>?_
 have hm:=hM.ev x;rw[hx2]at hm;obtain⟨u,us,e0,_,hl,hv⟩:=hm;have hlt:i<us.length:=by rw[<- hl];exact(List.getElem?_eq_some_iff.1 hd).1
 refine⟨us[i],w,?_,Below.refl _ _,hv i dv us[i] hd (by simp[hlt])⟩;unfold execOp;rw[ho]
 simp[e0,Instr.extract,hlt]
end
def TN (R:List L8):RT:=match R with
 | []=> .nil
 |y::r=> .own 6009 (y::r).length 1 9
def TO (R:List L8):BL:=match R with
 | []=>[]
 |y::r=>[(6009,au (y::r))]
def sO (F:List L8):Nat->AS
 |0=>⟨[(5, .d (iZ F)),(11, .nil),(12, .d (dN .i64 0))],[]⟩
 |j+1=>⟨[(5, .d (iZ F)),(11, .own 6009 ((F.take (j+1)).foldl Lf []).length 1 9),(12, .d (dN .i64 (j+1:Nat)))],[(6009,some (au ((F.take (j+1)).foldl Lf [])))]⟩
theorem lF (l:Tb) (n:L8) (hs:mg l) (hl:l.length<=500) (R:List L8) (hv:ie l=0) (hn:0<=gH l n) (hR:∀F,KF l n F->SW l n F->L4 F=R):bw Tryz.prog 20 [.d (bX l), .d (dL n)] [] (TN R) (TO R):=by
 have cv:=uL l hs (by omega);have cf:=mG l n (by omega);rw[hv]at cv;generalize gH l n=f at *;refine bf ac fo func20 rfl rfl rfl (by cases R<;>rfl) (by cases R<;>rfl) (em.nil _) ?_;refine kW ?_;refine kC (cv) ?_
 refine kO4 ?_
 refine kC (cf) ?_;refine kY ?_;refine qR 3001 ac rfl rfl rfl rfl rfl rfl rfl rfl ?_;refine kW ?_;refine ay (List L8 × Bool) (fun x=>KF l n x.1/\(x.2=false->SW l n x.1)) (fun x=>⟨[(5, .own 3001 x.1.length 1 9),(0, .d (bX l)),(1, .d (dL n)),(6, .d (dB x.2))],[(3001,some (au x.1))]⟩) (fun x=>2*(l.length-x.1.length)+(if x.2 then 1 else 0)) ([],true) ⟨⟨List.nodup_nil,by simp⟩,by simp⟩ kw ?_;rintro⟨F,b⟩ ⟨hD,hC⟩;dsimp only at hD hC ⊢;have hFl:=hD.len;cases b with
 |false=>
  have hCF:=hC rfl;have hfin:=hR F hD hCF;refine kI ?_;refine jw ?_;refine bG (T:=TT) ?_;refine bV (a7 (q:=5) rfl rfl) rfl ?_;refine kW ?_;refine ay Nat (fun j=>j<=F.length) (sO F) (fun j=>F.length-j) 0 (Nat.zero_le _) kw ?_;intro j hj
  by_cases hjl:j<F.length
  ·obtain⟨x,hx⟩:∃x,F[j]? =some x:=⟨F[j],by simp[hjl]⟩
   have hstep:Lf ((F.take j).foldl Lf []) x=(F.take (j+1)).foldl Lf []:=by rw[bE hx,List.foldl_append];rfl
   have hOl:((F.take j).foldl Lf []).length=j:=by rw[TZ,List.length_take];simp;omega
   have hW:bi (sO F j) ⟨[(5, .d (iZ F)),(11, .d (iZ ((F.take j).foldl Lf []))),(12, .d (dN .i64 j))],[]⟩:=by
    cases j with
    |zero=>exact(xJ (q:=11) rfl).tr kw
    |succ j=>exact(a7 (q:=11) rfl rfl).tr kw
   have hS:sO F (j+1)=⟨[(5, .d (iZ F)),(11, .own 6009 (((F.take j).foldl Lf []).length+1) 1 9),(12, .d (dN .i64 (j+1:Nat)))],[(6009,some (au (Lf ((F.take j).foldl Lf []) x)))]⟩:=by
    unfold sO;dsimp only;rw[<- hstep,xc]
   generalize(F.take j).foldl Lf []=O at *;have cp:=TC O (cZ [.val (.bool false), .sl 0 [], .val (.bool false), .sl 0 [], .val (.int .i64 0)] O.length) x false [] false [] 0 (uQ _ _) (Ge rfl _) (by omega)
   repeat refine bG (T:=TT) ?_
   refine bV hW rfl ?_
   refine kO3 ?_
   refine kT ?_;refine AY ?_;refine KO ?_
   refine kO3 ?_
   refine Tv 23001 (m:=O.length) ac (Nat.le_trans (Nat.mul_le_mul_left _ (show O.length<=1000 by omega)) (by decide)) (by omega) rfl rfl rfl rfl rfl rfl rfl rfl rfl rfl rfl rfl rfl rfl rfl ?_
   refine kO2 ?_
   refine bP (i:=j) (cs':=[.val (vL x)]) hjl (ib hx) (Nat.zero_lt_succ 0) rfl rfl rfl rfl rfl rfl rfl rfl ?_
   refine kO2 ?_
   refine gK cp rfl rfl rfl rfl rfl trivial rfl rfl rfl rfl ?_;refine kO ?_;refine TD rfl rfl rfl rfl rfl rfl ?_;refine TG (i:=0) rfl rfl rfl rfl rfl rfl ?_;refine kW ?_;refine⟨j+1,hjl,by omega,?_⟩;rw[hS];exact weak ⟨rfl,rfl,ak (by omega) (by omega),trivial⟩ ⟨rfl,trivial⟩ rfl
  ·obtain rfl:j=F.length:=by omega
   subst hfin;cases F with
   |nil=>
    refine kI ?_
    refine kO3 ?_
    refine kB false ?_ ?_
    ·exact decide_eq_false (by decide)
    refine kW ?_;exact⟨⟨_,rfl,rfl,rfl⟩,trivial⟩
   |cons y F=>
    have hOl:((y::F).foldl Lf []).length=F.length+1:=by rw[TZ];simp
    show gk _ _ _ _ _ (⟨[(5, .d (iZ (y::F))),(11, .own 6009 (((y::F).take (F.length+1)).foldl Lf []).length 1 9),(12, .d (dN .i64 (F.length+1:Nat)))],[(6009,some (au (((y::F).take (F.length+1)).foldl Lf [])))]⟩:AS);rw[List.take_of_length_le (by simp)];obtain⟨O,hO⟩:∃O,L4 (y::F)=O:=⟨_,rfl⟩;rw[show List.foldl Lf [] (y::F)=O from hO]at hOl ⊢;rw[hO];cases O with
    |nil=>cases hOl
    |cons z O=>
     refine kI ?_
     refine kO3 ?_
     refine kB false ?_ ?_
     ·exact decide_eq_false (by simp)
     exact Sl
 |true=>
  clear hC;refine kW ?_;refine ay (Nat × List L8 × Bool) (fun x=>x.1<=l.length/\KF l n x.2.1/\(x.2.2=true->F.length<x.2.1.length)/\(x.2.2=false->x.2.1=F/\ ∀p∈l.take x.1,R9 n F p=true->p.1∈F)) (fun x=>⟨[(5, .own 3001 x.2.1.length 1 9),(0, .d (bX l)),(1, .d (dL n)),(6, .d (dB x.2.2)),(7, .d (dN .i64 x.1))],[(3001,some (au x.2.1))]⟩) (fun x=>l.length-x.1) (0,F,false) ⟨Nat.zero_le _,hD,(fun h=>by cases h),fun _=>⟨rfl,by simp⟩⟩ kw ?_;rintro⟨i,G,c⟩ ⟨hi,hG,hc1,hc0⟩;dsimp only at hi hG hc1 hc0 ⊢;have hGl:=hG.len
  by_cases hil:i<l.length
  ·obtain⟨p,hx⟩:∃p,l[i]? =some p:=⟨l[i],by simp[hil]⟩
   have hp:=List.mem_of_getElem? hx;have hsx:=(hs p hp).2;have cn:=jk p.2 hsx.wd (by have:=hsx.sz;omega);have hnl:=hs.ns hp
   have hkeep:(R9 n G p=true->p.1∈G)->c=false->G=F/\ ∀q∈l.take (i+1),R9 n F q=true->q.1∈F:=fun h hc=>by
    obtain⟨rfl,h2⟩:=hc0 hc;refine⟨rfl,fun q hq=>?_⟩;rw[bE hx]at hq;rcases List.mem_append.1 hq with hq|hq
    ·exact h2 q hq
    ·rw[List.mem_singleton.1 hq];exact h
   have hsn:R9 n G p=true->p.1 ∉ G->KF l n (G++[p.1]):=fun h1 h2=>hG.snoc hp h1 h2
   have hgr:F.length<=G.length:=by
    cases c with
    |true=>exact Nat.le_of_lt (hc1 rfl)
    |false=>rw[(hc0 rfl).1];exact Nat.le_refl _
   obtain⟨o1,na1,xs1,nb1,ys1,nm1,n1,cs1,hA,hB⟩:=aX p;have hat:∀(j:Nat) (a:AV),(bl p.1 o1 na1 xs1 nb1 ys1 nm1 n1 cs1)[j]? =some a->(bY l)[i*8+j]? =some a:=fun j a h=>cY l i p hx j a (by rw[hB];exact h)
   rw[show dR p.2= .agg (ab o1 na1 xs1 nb1 ys1 nm1 n1 cs1) from congrArg DV.agg hA]at cn;have hndB:R9 n G p=(decide (n∈eu p.2) || G.any fun y=>decide (y∈eu p.2)):=rfl;generalize eu p.2=ns at *;generalize R9 n G p=nd at *;have ch:=Bv ns n (by omega);refine OW ?_;refine kW ?_;refine fZ ?_;refine Pb ?_;refine kW ?_;refine kQ (ch) ?_;refine ay Nat (fun k=>k<=G.length) (fun k=>⟨[(5, .own 3001 G.length 1 9),(0, .d (bX l)),(1, .d (dL n)),(6, .d (dB c)),(7, .d (dN .i64 i)),(8, .d (iZ ns)),(9, .d (dB (decide (n∈ns) || (G.take k).any fun y=>decide (y∈ns)))),(10, .d (dN .i64 k))],[(3001,some (au G))]⟩) (fun k=>G.length-k) 0 (Nat.zero_le _) (weak ⟨rfl,rfl,rfl,rfl,rfl,rfl,congrArg (fun b=>TV.d (dB b)) (by simp),rfl,trivial⟩ ⟨rfl,trivial⟩ rfl) ?_;intro k hk
   by_cases hkl:k<G.length
   ·obtain⟨y,hy⟩:∃y,G[k]? =some y:=⟨G[k],by simp[hkl]⟩
    have cy:=Bv ns y (by omega);have hst:=LZ hy (fun y=>decide (y∈ns));have hst2:(decide (n∈ns) || (G.take (k+1)).any fun y=>decide (y∈ns))=((decide (n∈ns) || (G.take k).any fun y=>decide (y∈ns)) || decide (y∈ns)):=by rw[hst,Bool.or_assoc]
    generalize(decide (n∈ns) || (G.take k).any fun y=>decide (y∈ns))=bb at *;cases bb with
    |true=>
     refine OW ?_;exact HL
    |false=>
     refine OW ?_;refine AY ?_;refine KO ?_
     refine kO5 ?_
     refine gn (i:=k) hkl rfl rfl rfl rfl rfl rfl rfl rfl rfl ?_;refine CO (DB hy) rfl rfl rfl rfl rfl rfl rfl rfl rfl ?_;refine kC (cy) ?_;exact HL
   ·rw[List.take_of_length_le (show G.length<=k by omega),<- hndB]
    cases nd with
    |false=>
     refine GU ?_;refine kW ?_;exact⟨(i+1,G,c),⟨hil,hG,hc1,hkeep (fun h=>by cases h)⟩,by dsimp only;omega,weak ⟨rfl,rfl,rfl,rfl,ak (by dsimp only;omega) (by omega),trivial⟩ ⟨rfl,trivial⟩ rfl⟩
    |true=>
     have cg:=Bv G p.1 (by omega)
     by_cases hm:p.1∈G
     ·rw[decide_eq_true hm]at cg
      refine GU ?_;refine kW ?_;refine fZ ?_;refine L7 ?_;exact⟨(i+1,G,c),⟨hil,hG,hc1,hkeep (fun _=>hm)⟩,by dsimp only;omega,weak ⟨rfl,rfl,rfl,rfl,ak (by dsimp only;omega) (by omega),trivial⟩ ⟨rfl,trivial⟩ rfl⟩
     ·rw[decide_eq_false hm]at cg
      have hG2:=hsn rfl hm;refine GU ?_;refine kW ?_;refine fZ ?_;refine L7 ?_;refine fZ ?_
      refine kO3 ?_
      refine cK 17002 (m1:=G.length) (m2:=1) ac (by decide) (Nat.le_trans (Nat.mul_le_mul_right _ (show G.length+1<=1000001 by omega)) (by decide)) rfl rfl rfl rfl rfl rfl rfl rfl rfl rfl rfl (.own rfl rfl) rfl rfl rfl ?_;refine kW ?_;refine⟨(i+1,G++[p.1],true),⟨hil,hG2,(fun _=>by simp only[List.length_append,List.length_singleton];omega),(fun h=>by cases h)⟩,by dsimp only;omega,Eq.mpr (congrArg (bi _) (TF _ _ G p.1)) ?_⟩;exact bi.trans (b:=⟨[(5, .own 17002 (G.length+1) 1 9),(0, .d (bX l)),(1, .d (dL n)),(6, .d (dB true)),(7, .d (dN .i64 (i+1:Nat)))],[(17002,some ((au G).take (G.length*1)++[.val (vL p.1)]))]⟩) (weak ⟨rfl,rfl,rfl,rfl,ak (by omega) (by omega),trivial⟩ ⟨rfl,trivial⟩ rfl) ((aA (q:=5) (j:=17002) (j':=3001) rfl rfl rfl rfl).trans kw)
  ·refine GU ?_
   refine kW ?_;refine⟨(G,c),⟨hG,fun hc=>?_⟩,?_,weak ⟨rfl,rfl,rfl,rfl,trivial⟩ ⟨rfl,trivial⟩ rfl⟩
   ·obtain⟨rfl,h2⟩:=hc0 hc
    rw[List.take_of_length_le (by omega)]at h2;exact h2
   ·cases c with
    |true=>have:=hc1 rfl;simp only[if_true];omega
    |false=>have:=(hc0 rfl).1;subst this;simp
theorem pg (l:Tb) (n:L8) (hs:mg l) (hl:l.length<=500) (hv:ie l=0) (hn:0<=gH l n):bw Tryz.prog 20 [.d (bX l), .d (dL n)] [] (TN (DR l n)) (TO (DR l n)):=lF l n hs hl _ hv hn fun F h hc=>h.ns hc
end Go.Proofs.YtmkggcjajcdlcaaGreatDoor
