/- Parts of a proof: contracts of the functions that the laws reach. -/
import Derived.Test.YtmkggcjajcdlcaaGreatDoorVZ10
set_option maxHeartbeats 100000000
set_option linter.all false
open Go.Proofs.Tryz
namespace Go.Proofs.YtmkggcjajcdlcaaGreatDoor
open Go.RowKit
theorem Py.mono {q:Rat} {m n:Nat} (h:Py q m) (hm:m<=n):Py q n:=fun hn=>(h (by omega)).mono hm
def sn (l:Tb):Nat->L8->Nat
 |0,_=>0
 |k+1,n=>if b5 l n<l.length then lS (sn l k) (Jr l n)else 0
theorem Gm {b c:L8->Nat} (h:∀n,b n<=c n):∀x,lS b x<=lS c x:=by
 refine du fun op na xs nb ys nm args ih=>?_
 have key:∀l:List Rx,(∀y∈l,lS b y<=lS c y)->jC b l<=jC c l:=by
  intro l
  induction l with
  |nil=>intro _;exact Nat.le_refl _
  |cons y r ihr=>intro hy;simp only[jC];exact Nat.add_le_add (hy y (by simp)) (ihr fun z hz=>hy z (by simp[hz]))
 have h1:=key args ih;have h2:=h nm
 simp only[lS]
 omega
theorem xS (l:Tb):∀(k:Nat) (n:L8),sn l k n<=sn l (k+1) n
 |0,n=>Nat.zero_le _
 |k+1,n=>by
  rw[sn,sn]
  split
  ·exact Gm (xS l k) _
  ·exact Nat.le_refl _
theorem xM (l:Tb) {j k:Nat} (h:j<=k) (n:L8):sn l j n<=sn l k n:=by
 induction h with
 |refl=>exact Nat.le_refl _
 |step _ ih=>exact Nat.le_trans ih (xS l _ n)
theorem Hv.bd {l:Tb} (hl:oS l) (hf:Ju l) {o:List L8} (h:mY l o):∀(k:Nat) (n:L8) (x:Rat × Int),o[k]? =some n->Hv l n x->Py x.1 (sn l (k+1) n):=by
 intro k
 induction k using Nat.strongRecOn with
 |_ k ih=>
  intro n x hk hx;obtain⟨p,hp,e0,e1,_,e3⟩:=h.at hl hf hk;cases hx with
  | @mk q _ f hq hg hy=>
   have hqp:q=p:=by
    obtain⟨i,hi⟩:=List.getElem?_of_mem hp;obtain⟨j,hj⟩:=List.getElem?_of_mem hq;have:=hl.nd _ _ _ _ hi hj e0;subst this;rw[hi]at hj;cases hj;rfl
   subst hqp
   have hb:=C2 (b:=sn l k) hy fun s hs y hys=>by
    cases hys;obtain⟨i,hi⟩:=List.getElem?_of_mem (e3 s hs);rw[List.getElem?_take]at hi
    split at hi
    ·rename_i hik
     exact(ih i hik s (f s) hi (hg s hs)).mono (xM l (by omega) s)
    ·cases hi
   rw[(qW (hf q hp)).1]at hb;rw[sn,if_pos (jS.2 ⟨q,hp,rfl⟩),e1];exact hb
theorem nM:∀(e:Ex),mD (rx e)=true->xd e
 | .num v u,h=>by
  simp only[rx,mD,mf,Bool.and_eq_true,decide_eq_true_eq]at h
  exact⟨Sz.of_digs h.2.1.1,Sz.of_digs h.2.1.2⟩
 | .nam s,_=>trivial
 | .neg a,h=>by
  simp only[rx,mD,mf,Bool.and_eq_true]at h
  exact nM a h.1.1
 | .bin k a b,h=>by
  simp only[rx,mD,mf,Bool.and_eq_true]at h
  exact⟨nM a h.1.1,nM b h.1.2.1⟩
theorem rv:∀(e:Ex),mN e<=400*gr (rx e)
 | .num v u=>by simp[mN,rx,gr,ej]
 | .nam s=>by simp[mN,rx,gr,ej]
 | .neg a=>by have:=rv a;simp only[mN,rx,gr,ej];omega
 | .bin k a b=>by have:=rv a;have:=rv b;simp only[mN,rx,gr,ej];omega
theorem Hv.inR {l:Tb} (hf:Ju l) (hs:∀p∈l,pA p.2) (hb:∀n x,Hv l n x->dy 400 x.1) {n:L8} {x:Rat × Int} (h:Hv l n x):nT x.2=true:=by
 induction h with
 | @mk p x f hp hg hy ih=>
  have hx0:b7 (fun n=>if n∈vl (jD p.2)then some (f n)else none) (jD p.2)= .ok x:=by
   rw[<- hy];exact gC fun n hn=>by simp[hn]
  refine(iR (fun s y hys=>?_) (nM _ (by rw[(qW (hf p hp)).1];exact(hs p hp).lt)) hx0).2
  split at hys
  ·rename_i hn;cases hys;exact⟨hb _ _ (hg s hn),ih s hn⟩
  ·cases hys
def R1 (l:Tb):Prop:=l.length<=8->(bI l).2=0-> ∀p∈l,lS (sn l (l.length-1)) p.2<=2000
theorem Hv.ok {l:Tb} (hli:R1 l) (h8:l.length<=8) (h0:(bI l).2=0) (hf:Ju l) (hs:∀p∈l,pA p.2) {n:L8} {x:Rat × Int} (h:Hv l n x):dy 400 x.1/\nT x.2=true:=by
 obtain⟨o,ho⟩:∃o,(bI l).1=o:=⟨_,rfl⟩;obtain⟨hl,ht,hn⟩:=mE (l:=l) (o:=o) (by rw[<- ho,<- h0])
 have key:∀n x,Hv l n x->dy 400 x.1:=fun n x h=>by
  have hp:∃p∈l,p.1=n:=by cases h with|mk f hp=>exact⟨_,hp,rfl⟩
  obtain⟨p,hp,rfl⟩:=hp;obtain⟨k,hk⟩:=List.getElem?_of_mem (ht.all hn p hp);have hkl:=(List.getElem?_eq_some_iff.1 hk).1;have h1:=h.bd hl hf ht k _ _ hk
  have h2:sn l (k+1) p.1<=2000:=by
   refine Nat.le_trans (xM l (show k+1<=(l.length-1)+1 by omega) p.1) ?_;rw[sn,if_pos (jS.2 ⟨p,hp,rfl⟩),hl.fx hp];exact hli h8 h0 p hp
  exact(h1 (by omega)).szQ (by omega)
 exact⟨key n x h,h.inR hf hs key⟩
section
variable {P:Program} {T:TypeId->Option Ty} {n:Nat} {ops:Array Oper} {id:Nat} {draw:Bool} {K:AS->Prop} {s:AS} {k:Nat} {o:Oper} {os:List Oper} {fps:List FP}
theorem P1 {x y:Operand} {ts:Array TypeId} {a b m:Int} (hm:min a b=m) (h1:gd ops s o=some true) (h2:o.op= .call ⟨.builtin .min,#[x,y],ts⟩) (h7:s.ev x= .d (dN .i64 a)) (h8:s.ev y= .d (dN .i64 b))
 (h3:aF n o.dst=true) (h4:eT draw ops (ar ops o ⟨.d (dN .i64 m),none⟩ []) k fps=true) (h:am P T n ops id draw K (k+1) os (s.eff o.dst ⟨.d (dN .i64 m),none⟩) (ar ops o ⟨.d (dN .i64 m),none⟩ []::fps)):am P T n ops id draw K k (o::os) s fps:=by
 subst hm;refine .run h1 (.gen fun s2 ht _=>?_) h3 h4 h;have hx:=(an ht (x:=x) (by simp[h2,Op.operands,Call.operands])).trans h7;have hy:=(an ht (x:=y) (by simp[h2,Op.operands,Call.operands])).trans h8;refine af fun n S0 w0 g a' w hM=>⟨.int .i64 (min a b),w,?_,Below.refl _ _,AV.M.val rfl⟩
 have hm:(Builtin.min2 (.int .i64 a) (.int .i64 b)).run P w= .ok (.int .i64 (min a b)) w:=by
  have e:min a b=if b<a then b else a:=by split <;>omega
  rw[e];rfl
 simp[execOp,h2,resolve,invoke,builtin,Builtin.min_,aY hM hx,aY hM hy,Sem.run_bind,hm]
end
def lg (l:List Nat):List AV:=l.map fun n:Nat=>AV.val (.int .i64 n)
def Fg (l:List Nat):DV:= .leaf (.sl l.length (lg l))
theorem Gd (l:List Nat):(lg l).length=l.length:=List.length_map ..
theorem zn {l:List Nat} {i b:Nat} (h:l[i]? =some b):∀(j:Nat) (a:AV),[AV.val (.int .i64 b)][j]? =some a->(lg l)[i*1+j]? =some a:=by
 intro j a hj
 match j,hj with
 |0,hj=>rw[Nat.mul_one,Nat.add_zero,lg,List.getElem?_map,h];exact hj
def Fj (l:Tb) (bs:List Nat) (n:L8):Nat:=if b5 l n<l.length then bs.getD (b5 l n) 0 else 0
def zv (l:Tb):Nat->List Nat
 |0=>List.replicate l.length 0
 |k+1=>l.map fun p=>lS (sn l k) p.2
theorem AR (b:L8->Nat) (x:Rx):lS b x<=1048576:=by
 obtain⟨op,na,xs,nb,ys,nm,args⟩:=x
 simp only[lS]
 exact Nat.min_le_right _ _
theorem p8 (l:Tb) (k:Nat):(zv l k).length=l.length:=by cases k<;>simp[zv]
theorem OK (l:Tb) (k:Nat):∀x∈zv l k,x<=1048576:=by
 cases k with
 |zero=>intro x hx;have:=(List.mem_replicate.1 hx).2;omega
 |succ k=>intro x hx;obtain⟨p,_,rfl⟩:=List.mem_map.1 hx;exact AR _ _
theorem NP (l:Tb) (k:Nat):Fj l (zv l k)=sn l k:=by
 funext n
 unfold Fj;cases k with
 |zero=>
  split
  ·rw[zv,List.getD_eq_getElem?_getD,List.getElem?_replicate];split <;>rfl
  ·rfl
 |succ k=>
  rw[sn]
  split
  ·rename_i h
   obtain⟨p,hp,_⟩:=n6 h;rw[zv,List.getD_eq_getElem?_getD,List.getElem?_map];unfold Jr;rw[hp];rfl
  ·rfl
theorem Ep {b:L8->Nat} {args:List Rx} {i:Nat} {x:Rx} (h:args[i]? =some x):jC b (args.take (i+1))=jC b (args.take i)+lS b x:=by
 rw[bE h];generalize args.take i=l
 induction l with
 |nil=>simp[jC]
 |cons y r ih=>simp only[List.cons_append,jC,ih];omega
theorem CC (b:L8->Nat):∀l:List Rx,jC b l<=1048576*l.length
 | []=>Nat.le_refl _
 |x::r=>by have:=AR b x;have:=CC b r;simp only[jC,List.length_cons];omega
theorem DW (l:Tb) (bs:List Nat) (hbl:bs.length=l.length) (hb:∀x∈bs,x<=1048576) (hl:l.length<=1000):∀x,yi x->gr x<=1000000->aa Tryz.prog 74 [dR x,bX l,Fg bs] (.one (dN .i64 (lS (Fj l bs) x))):=by
 refine du fun op na xs nb ys nm args ih hm hs=>?_
 obtain⟨hx1,hy1,hn1,hm1⟩:xs.length<=510/\ys.length<=510/\nm.length<=65536/\ ∀x∈args,yi x:=by cases hm with|mk a b c d=>exact⟨a,b,c,d⟩
 rw[gr]at hs;have hge:=jn args;have cf:=mG l nm (by omega)
 have hih:∀(i:Nat) (x:Rx),args[i]? =some x->aa Tryz.prog 74 [dR x,bX l,Fg bs] (.one (dN .i64 (lS (Fj l bs) x))):=fun i x hi=>ih x (List.mem_of_getElem? hi) (hm1 x (List.mem_of_getElem? hi)) (by
  have:∀(l:List Rx) (i:Nat),l[i]? =some x->gr x<=ej l:=by
   intro l
   induction l with
   |nil=>intro i h;simp at h
   |cons y r ih=>intro i h;cases i with
    |zero=>simp at h;subst h;simp[ej]
    |succ i=>have:=ih i (by simpa using h);simp only[ej];omega
  have:=this args i hi
  omega)
 rw[lS];have hsl:=CC (Fj l bs);have htk:= @Ep (Fj l bs) args
 have hbf:Fj l bs nm<=1048576:=by
  unfold Fj
  split
  ·rw[List.getD_eq_getElem?_getD]
   cases h:bs[b5 l nm]? with
   |none=>exact Nat.zero_le _
   |some x=>exact hb x (List.mem_of_getElem? h)
  ·exact Nat.zero_le _
 have hfI:(gH l nm= -1/\Fj l bs nm=0)∨ ∃(k:Nat) (b:Nat),gH l nm=k/\bs[k]? =some b/\Fj l bs nm=b:=by
  unfold gH Fj
  split
  ·rename_i h
   have h2:b5 l nm<bs.length:=by omega
   exact .inr ⟨_,bs[b5 l nm],rfl,by simp[h2],by rw[List.getD_eq_getElem?_getD,List.getElem?_eq_getElem h2];rfl⟩
  ·exact .inl ⟨rfl,rfl⟩
 generalize Fj l bs=wf at *;generalize gH l nm=f at *;obtain⟨B0,hB0⟩:∃B0,1+32*(xs.length+ys.length)+(if nm=[]then 0 else 32)+wf nm=B0:=⟨_,rfl⟩;rw[hB0];have hB0le:B0<=1100000:=by rw[<- hB0];split <;>omega
 show aa Tryz.prog _ [.agg (ab op na xs nb ys nm args.length (da args)),_,_] _;refine kU func74 ?_
 iterate 2 refine kG ?_
 iterate 10 refine kO ?_
 refine kJ ((xs.length+ys.length:Nat)) ?_;refine kJ ((32*(xs.length+ys.length):Nat)) ?_;refine kJ ((1+32*(xs.length+ys.length):Nat)) ?_;refine kN ?_;refine j4 ⟨[(1, .d (bX l)),(2, .d (Fg bs)),(3, .box 0 0),(7, .d (dN .i64 (1+32*(xs.length+ys.length)+(if nm=[]then 0 else 32):Nat)))],[(0,some (ab op na xs nb ys nm args.length (da args)))]⟩ (fun s' hw=>?_) (fun R hR _=>?_)
 case refine_2=>
  refine kI ?_
  refine kO2 ?_
  by_cases hn:nm=[]
  ·rw[if_pos hn]at hR
   refine aO rfl rfl rfl rfl rfl rfl rfl (gY (a:=nm) (b:=[]) hn) ?_;refine kW ?_;exact hR _ kw
  ·rw[if_neg hn]at hR
   refine aO rfl rfl rfl rfl rfl rfl rfl (f6 (a:=nm) (b:=[]) hn) ?_;refine AY ?_;refine kI ?_;refine kO ?_;refine kJ ((1+32*(xs.length+ys.length)+32:Nat)) ?_;refine kW ?_;exact hR _ kw
 refine bG (T:=TT) ?_;refine bV hw rfl ?_;generalize(1+32*(xs.length+ys.length)+if nm=[]then 0 else 32)=B1 at *;clear hw s'
 refine kO3 ?_
 refine kC (cf) ?_;refine kN ?_;refine j4 ⟨[(1, .d (bX l)),(2, .d (Fg bs)),(3, .box 0 0),(7, .d (dN .i64 (B0:Nat)))],[(0,some (ab op na xs nb ys nm args.length (da args)))]⟩ (fun s' hw=>?_) (fun R hR _=>?_)
 case refine_2=>
  refine kI ?_;refine kO ?_;rcases hfI with⟨rfl,h0⟩| ⟨k,b,rfl,hk,h0⟩
  ·refine kB false ?_ ?_
   ·exact decide_eq_false (by decide)
   refine kW ?_;exact hR _ (weak ⟨rfl,rfl,rfl,by rw[<- hB0,h0];rfl,trivial⟩ ⟨rfl,trivial⟩ rfl)
  ·refine kT ?_
   refine AY ?_;refine kI ?_
   refine kO3 ?_
   refine bP (i:=k) (cs':=[.val (.int .i64 b)]) (List.getElem?_eq_some_iff.1 hk).1 (zn hk) (Nat.zero_lt_succ 0) rfl rfl rfl rfl rfl rfl rfl rfl ?_;refine kO ?_;refine kJ ((B0:Nat)) ?_;refine kW ?_;exact hR _ kw
 refine bG (T:=TT) ?_;refine bV hw rfl ?_;clear hw s';refine kW ?_;refine ay Nat (fun i=>i<=args.length) (fun i=>⟨[(1, .d (bX l)),(2, .d (Fg bs)),(3, .box 0 0),(7, .d (dN .i64 (B0+jC wf (args.take i):Nat))),(9, .d (dN .i64 i))],[(0,some (ab op na xs nb ys nm args.length (da args)))]⟩) (fun i=>args.length-i) 0 (Nat.zero_le _) kw ?_;intro i hi;have hsl1:=hsl (args.take i);have htl:(args.take i).length<=1000000:=by rw[List.length_take];omega
 refine kI ?_
 refine kO4 ?_
 by_cases hlt:i<args.length
 ·refine kT ?_
  obtain⟨x,hx⟩:∃x,args[i]? =some x:=⟨args[i],by simp[hlt]⟩;have hst:=htk hx;have c:=hih i x hx;obtain⟨o1,na1,xs1,nb1,ys1,nm1,n1,cs1,hA⟩:=bv x;have hat:∀(j:Nat) (a:AV),(ab o1 na1 xs1 nb1 ys1 nm1 n1 cs1)[j]? =some a->(da args)[i*7+j]? =some a:=fun j a h=>fw args i x hx j a (by rw[hA];exact h)
  rw[show dR x= .agg (ab o1 na1 xs1 nb1 ys1 nm1 n1 cs1) from congrArg DV.agg hA]at c;have hwx:=AR wf x;generalize lS wf x=v at *;generalize jC wf (args.take i)=V at *;refine AY ?_;refine KO ?_
  refine kO4 ?_
  refine Gu ?_
  refine kO3 ?_
  refine kC (c) ?_;refine kJ ((B0+(V+v):Nat)) ?_;refine kW ?_;refine⟨i+1,hlt,by omega,weak ⟨rfl,rfl,rfl,?_,ak (by omega) (by omega),trivial⟩ ⟨rfl,trivial⟩ rfl⟩;rw[hst];rfl
 ·refine kE ?_
  rw[List.take_of_length_le (by omega)];rw[List.take_of_length_le (by omega)]at hsl1;refine jw ?_;refine kI ?_;refine kO ?_;refine P1 (m:=((min (B0+jC wf args) 1048576:Nat):Int)) (by omega) rfl rfl rfl rfl rfl rfl ?_;exact aD
def FN (l:Tb):Bool:=decide (8<l.length) || (decide ((bI l).2≠0) || l.all fun p=>decide (lS (sn l (l.length-1)) p.2<=2000))
theorem Ir {l:Tb} (h:FN l=true):R1 l:=fun h8 h0 p hp=>by
 unfold FN at h;rw[decide_eq_false (by omega),decide_eq_false (fun h=>h h0),Bool.false_or,Bool.false_or]at h
 simpa using List.all_eq_true.1 h p hp
theorem qN:∀n,cZ [AV.val (.int .i64 0)] n=lg (List.replicate n 0)
 |0=>rfl
 |n+1=>by rw[cZ,qN n,List.replicate_succ];rfl
def IP (A:List Nat) (i n:Nat):List Nat:=A.take i++List.replicate (n-i) 0
theorem KE {A:List Nat} {i n:Nat} (h:A.length=n) (hi:i<=n):(IP A i n).length=n:=by simp[IP];omega
theorem II (A:List Nat) (n:Nat):IP A 0 n=List.replicate n 0:=by simp[IP]
theorem KI {A:List Nat} {n:Nat} (h:A.length=n):IP A n n=A:=by subst h;simp[IP]
theorem Kd {A:List Nat} {i n x:Nat} (h:A.length=n) (hx:A[i]? =some x):aB (lg (IP A i n)) (i*1) [.val (.int .i64 x)]=lg (IP A (i+1) n):=by
 have hi:=(List.getElem?_eq_some_iff.1 hx).1;unfold aB IP;rw[bE hx,show n-i=(n-(i+1))+1 by omega,List.replicate_succ]
 have e1:(lg (A.take i++0::List.replicate (n-(i+1)) 0)).take (i*1)=lg (A.take i):=by
  rw[lg,<- List.map_take,Nat.mul_one,List.take_append_of_le_length (by simp;omega),List.take_take,Nat.min_self];rfl
 have e2:(lg (A.take i++0::List.replicate (n-(i+1)) 0)).drop (i*1+[AV.val (.int .i64 (x:Int))].length)=lg (List.replicate (n-(i+1)) 0):=by
  rw[lg,<- List.map_drop,Nat.mul_one,List.length_singleton,List.drop_append,List.drop_eq_nil_of_le (by simp;omega),List.nil_append,List.length_take,Nat.min_eq_left (by omega),show i+1-i=1 by omega];rfl
 rw[e1,e2]
 simp[lg]
theorem zg (l:Tb) (hs:mg l) (hl:l.length<=1000):aa Tryz.prog 34 [bX l] (.one (dB (FN l))):=by
 by_cases h8:8<l.length
 ·rw[show FN l=true by unfold FN;rw[decide_eq_true h8];rfl]
  refine kU func34 ?_;refine MV ?_;exact aD
 have hco:=ni l hs hl
 have e0:Fg (zv l 0)= .leaf (.sl l.length (cZ [AV.val (.int .i64 0)] l.length)):=by
  rw[qN];unfold Fg;rw[p8];rfl
 have hlo:(bI l).2=0->(bI l).1.length=l.length:=fun h=>(mE (l:=l) (o:=(bI l).1) (by rw[<- h])).2.2
 obtain⟨BT,hBT⟩:∃BT,FN l=BT:=⟨_,rfl⟩;rw[hBT]
 have hfal:(bI l).2=0->(∃p∈l,2000<lS (sn l (l.length-1)) p.2)->BT=false:=fun h ⟨p,hp,hw⟩=>by
  rw[<- hBT,FN,decide_eq_false h8,decide_eq_false (fun h2=>h2 h),Bool.false_or,Bool.false_or,List.all_eq_false];exact⟨p,hp,by simp;omega⟩
 have htru:((bI l).2=0-> ∀p∈l,lS (sn l (l.length-1)) p.2<=2000)->BT=true:=fun h=>by
  rw[<- hBT,FN,decide_eq_false h8,Bool.false_or]
  by_cases h0:(bI l).2=0
  ·rw[decide_eq_false (fun h2=>h2 h0),Bool.false_or,List.all_eq_true]
   exact fun p hp=>decide_eq_true (h h0 p hp)
  ·rw[decide_eq_true h0];rfl
 clear hBT;generalize(bI l).2=oe at *;generalize(bI l).1=oo at *;refine kV func34 ?_;refine Ki ?_;refine kW ?_;refine BI 5001 ac (m:=l.length) (c:=l.length) (Nat.le_refl _) (Nat.le_trans (Nat.mul_le_mul_left _ hl) (by decide)) (by omega) rfl rfl rfl rfl rfl rfl rfl rfl rfl rfl rfl rfl rfl rfl rfl ?_;refine kW ?_;refine ay Nat (fun k=>k<=l.length) (fun k=>⟨[(0, .d (bX l)),(3, .d (Fg (zv l k))),(4, .d (dN .i64 k))],[]⟩) (fun k=>l.length-k) 0 (Nat.zero_le _) ((a7 (q:=3) rfl rfl).tr (weak ⟨rfl,congrArg TV.d e0.symm,rfl,trivial⟩ trivial rfl)) ?_;intro k hk;refine kI ?_
 refine kO3 ?_
 by_cases hlt:k<l.length
 ·refine kT ?_
  have hbl:=p8 l k;have hble:=OK l k;have hbf:=NP l k;have hA:(zv l (k+1)).length=l.length:=p8 l (k+1);have hAi:∀(i:Nat) (p:Pm),l[i]? =some p->(zv l (k+1))[i]? =some (lS (sn l k) p.2):=fun i p hi=>by rw[zv,List.getElem?_map,hi];rfl
  obtain⟨A,hAe⟩:∃A,zv l (k+1)=A:=⟨_,rfl⟩;rw[hAe]at hA
  simp only[hAe]at hAi
  have eA:Fg A= .leaf (.sl l.length (lg (IP A l.length l.length))):=by unfold Fg;rw[KI hA,hA]
  generalize zv l k=bk at *;refine kW ?_;refine BI 5002 ac (m:=l.length) (c:=l.length) (Nat.le_refl _) (Nat.le_trans (Nat.mul_le_mul_left _ hl) (by decide)) (by omega) rfl rfl rfl rfl rfl rfl rfl rfl rfl rfl rfl rfl rfl rfl rfl ?_;refine kW ?_;refine ay Nat (fun i=>i<=l.length) (fun i=>⟨[(5, .own 5002 l.length 1 3),(0, .d (bX l)),(3, .d (Fg bk)),(4, .d (dN .i64 k)),(6, .d (dN .i64 i))],[(5002,some (lg (IP A i l.length)))]⟩) (fun i=>l.length-i) 0 (Nat.zero_le _) (weak ⟨rfl,rfl,rfl,rfl,rfl,trivial⟩ ⟨by show some _=some _;rw[II,<- qN],trivial⟩ rfl) ?_;intro i hi;refine kI ?_
  refine kO3 ?_
  by_cases hil:i<l.length
  ·refine kT ?_
   obtain⟨p,hx⟩:∃p,l[i]? =some p:=⟨l[i],by simp[hil]⟩;have hsx:=(hs p (List.mem_of_getElem? hx)).2;have hAx:=hAi i p hx;have hset:=Kd hA hAx;have hrl:=KE hA hi;have c:=DW l bk hbl hble hl p.2 hsx.lm (by have:=hsx.sz;omega);rw[hbf]at c;obtain⟨o1,na1,xs1,nb1,ys1,nm1,n1,cs1,hAA,hB⟩:=aX p;have hat:∀(j:Nat) (a:AV),(bl p.1 o1 na1 xs1 nb1 ys1 nm1 n1 cs1)[j]? =some a->(bY l)[i*8+j]? =some a:=fun j a h=>cY l i p hx j a (by rw[hB];exact h)
   rw[show dR p.2= .agg (ab o1 na1 xs1 nb1 ys1 nm1 n1 cs1) from congrArg DV.agg hAA]at c;generalize lS (sn l k) p.2=wv at *;refine AY ?_;refine KO ?_
   refine kO4 ?_
   refine fZ ?_
   refine kO4 ?_
   refine kC (c) ?_;refine gn (i:=i) hil rfl rfl rfl rfl rfl rfl rfl rfl rfl ?_;refine xm (by rw[Gd,hrl];omega) hset rfl rfl rfl rfl rfl rfl rfl rfl rfl rfl ?_;exact Mb
  ·obtain rfl:i=l.length:=by omega
   refine kY ?_;exact⟨k+1,hlt,by omega,(a7 (q:=3) rfl rfl).tr (weak ⟨rfl,congrArg TV.d (by rw[hAe];exact eA.symm),ak (by omega) (by omega),trivial⟩ trivial rfl)⟩
 ·obtain rfl:k=l.length:=by omega
  refine kE ?_;have hbl:=p8 l l.length
  have hAi:∀(i:Nat) (p:Pm),l[i]? =some p->(zv l l.length)[i]? =some (lS (sn l (l.length-1)) p.2):=fun i p hi=>by
   obtain⟨n,hn⟩:∃n,l.length=n+1:=⟨l.length-1,by have:=(List.getElem?_eq_some_iff.1 hi).1;omega⟩;rw[hn,zv,List.getElem?_map,hi];rfl
  generalize zv l l.length=A at *;generalize sn l (l.length-1)=bt at *;refine kW ?_;refine ay Nat (fun i=>i<=l.length/\(oe=0-> ∀p∈l.take i,lS bt p.2<=2000)) (fun i=>⟨[(0, .d (bX l)),(3, .d (Fg A)),(7, .d (dN .i64 i))],[]⟩) (fun i=>l.length-i) 0 ⟨Nat.zero_le _,fun _ p h=>by simp at h⟩ kw ?_;rintro i ⟨hi,hall⟩;refine kI ?_
  refine kO3 ?_
  by_cases hil:i<l.length
  ·refine kT ?_
   obtain⟨p,hx⟩:∃p,l[i]? =some p:=⟨l[i],by simp[hil]⟩;have hAx:=hAi i p hx;have hp:=List.mem_of_getElem? hx;have hw:lS bt p.2=lS bt p.2:=rfl;generalize hwv:lS bt p.2=wv at *;refine AY ?_;refine KO ?_;refine kO ?_;refine kC (hco) ?_;refine Ru ?_
   by_cases h0:oe=0
   ·have hol:=hlo h0
    refine kB true ?_ ?_
    ·exact beq_iff_eq.2 h0
    refine kO3 ?_
    refine kT ?_
    refine kO4 ?_
    refine bP (i:=i) (cs':=[.val (.int .i64 wv)]) (by omega) (zn hAx) (Nat.zero_lt_succ 0) rfl rfl rfl rfl rfl rfl rfl rfl ?_;refine kO ?_
    by_cases hb:2000<wv
    ·refine kT ?_
     refine N0 ?_;rw[hfal h0 ⟨p,hp,by rw[hwv];exact hb⟩];rfl
    ·refine kE ?_
     refine kW ?_;refine⟨i+1,⟨hil,fun _ q hq=>?_⟩,by omega,weak ⟨rfl,rfl,ak (by omega) (by omega),trivial⟩ trivial rfl⟩;rw[bE hx]at hq;rcases List.mem_append.1 hq with hq|hq
     ·exact hall h0 q hq
     ·rw[List.mem_singleton.1 hq,hwv];omega
   ·refine kB false ?_ ?_
    ·exact beq_eq_false_iff_ne.2 h0
    refine kW ?_;exact⟨i+1,⟨hil,fun h=>absurd h h0⟩,by omega,weak ⟨rfl,rfl,ak (by omega) (by omega),trivial⟩ trivial rfl⟩
  ·refine kE ?_
   refine N0 ?_;rw[List.take_of_length_le (by omega)]at hall;rw[htru hall];rfl
def Fk (l:Tb):Bool:=!((decide (8<l.length) && decide (l.length<=200)) || decide (220<l.length)) && (l.all (fun p=>!(decide (40<p.1.length) || !(decide (py p.2 120<=120) && mD p.2))) && FN l)
theorem Jb {l:Tb} (hw:∀p∈l,jN p.2) (h:Fk l=true):mg l/\(∀p∈l,p.1.length<=40)/\R1 l/\(l.length<=8∨(200<l.length/\l.length<=220)):=by
 simp only[Fk,Bool.and_eq_true,Bool.not_eq_true',Bool.or_eq_false_iff,Bool.and_eq_false_iff,decide_eq_false_iff_not,List.all_eq_true,Bool.not_eq_false',decide_eq_true_eq]at h
 obtain⟨⟨h1,h2⟩,h3,h4⟩:=h;refine⟨fun p hp=>⟨by have:=(h3 p hp).1;omega,hw p hp,(h3 p hp).2.2,?_⟩,fun p hp=>by have:=(h3 p hp).1;omega,Ir h4,by omega⟩;have:=(h3 p hp).2.1;have h5:=(sc p.2 120).2.2 this;omega
theorem mO (l:Tb) (hw:∀p∈l,p.1.length<=9223372036854775807/\jN p.2) (hl0:l.length<=9223372036854775807):aa Tryz.prog 13 [bX l] (.one (dB (Fk l))):=by
 obtain⟨BT,hBT⟩:∃BT,Fk l=BT:=⟨_,rfl⟩;rw[hBT]
 by_cases h1:8<l.length/\l.length<=200
 ·have:BT=false:=by rw[<- hBT,Fk,decide_eq_true h1.1,decide_eq_true h1.2];rfl
  subst this;refine kU func13 ?_;refine Qm ?_;refine kT ?_
  refine kO3 ?_
  refine kT ?_;exact aD
 by_cases h2:220<l.length
 ·have:BT=false:=by rw[<- hBT,Fk,decide_eq_true h2,Bool.or_true];rfl
  subst this;refine kU func13 ?_;refine Qm ?_;refine kT ?_
  refine kO3 ?_
  refine kE ?_
  refine kO4 ?_
  refine kT ?_;exact aD
 have hl:l.length<=220:=by omega
 have hsm:Fk l=(l.all (fun p=>!(decide (40<p.1.length) || !(decide (py p.2 120<=120) && mD p.2))) && FN l):=by
  unfold Fk
  have:(decide (8<l.length) && decide (l.length<=200))=false:=by
   rw[Bool.and_eq_false_iff,decide_eq_false_iff_not,decide_eq_false_iff_not];omega
  rw[this,decide_eq_false h2];rfl
 rw[hBT]at hsm
 have hgood:(∀p∈l,(!(decide (40<p.1.length) || !(decide (py p.2 120<=120) && mD p.2)))=true)->mg l:=fun h p hp=>by
  have h:=h p hp
  simp only[Bool.not_eq_true',Bool.or_eq_false_iff,decide_eq_false_iff_not,Bool.not_eq_false',Bool.and_eq_true,decide_eq_true_eq]at h
  refine⟨by omega,(hw p hp).2,h.2.2,?_⟩;have h5:=(sc p.2 120).2.2 h.2.1;omega
 have start:∀(K:aa Tryz.prog 13 [bX l] (.one (dB BT))),aa Tryz.prog 13 [bX l] (.one (dB BT)):=fun K=>K
 refine kU func13 ?_;refine kR ?_;refine j4 ⟨[(0, .d (bX l))],[]⟩ (fun s' hw2=>?_) (fun R hR _=>?_)
 case refine_2=>
  refine kI ?_
  refine kO2 ?_
  by_cases h8:8<l.length
  ·refine kT ?_
   refine kO3 ?_
   refine kE ?_
   refine kO4 ?_
   refine kY ?_;exact hR _ kw
  ·refine kE ?_
   iterate 8 refine kO ?_
   refine kY ?_;exact hR _ kw
 refine bG (T:=TT) ?_;refine bV hw2 rfl ?_;clear hw2 s' start;refine kW ?_;refine ay Nat (fun i=>i<=l.length/\ ∀p∈l.take i,(!(decide (40<p.1.length) || !(decide (py p.2 120<=120) && mD p.2)))=true) (fun i=>⟨[(0, .d (bX l)),(3, .d (dN .i64 i))],[]⟩) (fun i=>l.length-i) 0 ⟨Nat.zero_le _,fun p h=>by simp at h⟩ kw ?_;rintro i ⟨hi,hall⟩;refine kI ?_
 refine kO3 ?_
 by_cases hil:i<l.length
 ·refine kT ?_
  obtain⟨p,hx⟩:∃p,l[i]? =some p:=⟨l[i],by simp[hil]⟩;have hp:=List.mem_of_getElem? hx;have hpw:=hw p hp;have hsz:=aT p.1;have c:=we p.2 hpw.2;obtain⟨o1,na1,xs1,nb1,ys1,nm1,n1,cs1,hAA,hB⟩:=aX p;have hat:∀(j:Nat) (a:AV),(bl p.1 o1 na1 xs1 nb1 ys1 nm1 n1 cs1)[j]? =some a->(bY l)[i*8+j]? =some a:=fun j a h=>cY l i p hx j a (by rw[hB];exact h)
  rw[show dR p.2= .agg (ab o1 na1 xs1 nb1 ys1 nm1 n1 cs1) from congrArg DV.agg hAA]at c
  have bad:(!(decide (40<p.1.length) || !(decide (py p.2 120<=120) && mD p.2)))=false->BT=false:=fun h=>by
   rw[hsm,show(l.all (fun p=>!(decide (40<p.1.length) || !(decide (py p.2 120<=120) && mD p.2))))=false from List.all_eq_false.2 ⟨p,hp,by rw[h];decide⟩];rfl
  refine AY ?_;refine KO ?_
  refine kO2 ?_
  refine fZ ?_
  refine kO3 ?_
  by_cases h40:40<p.1.length
  ·refine kT ?_
   refine N0 ?_;rw[bad (by rw[decide_eq_true h40];rfl)];rfl
  ·refine kE ?_
   refine kO3 ?_
   refine fZ ?_
   refine kO2 ?_
   cases hb:(decide (py p.2 120<=120) && mD p.2)
   ·rw[hb]at c
    refine kC (c) ?_;refine N0 ?_;rw[bad (by rw[hb,decide_eq_false h40];rfl)];rfl
   ·rw[hb]at c
    refine kQ (c) ?_;refine⟨i+1,⟨hil,fun q hq=>?_⟩,by omega,weak ⟨rfl,ak (by omega) (by omega),trivial⟩ trivial rfl⟩;rw[bE hx]at hq;rcases List.mem_append.1 hq with hq|hq
    ·exact hall q hq
    ·rw[List.mem_singleton.1 hq,hb,decide_eq_false h40];rfl
 ·rw[List.take_of_length_le (by omega)]at hall
  have c:=zg l (hgood hall) (by omega);rw[List.all_eq_true.2 hall,Bool.true_and]at hsm;rw[<- hsm]at c;refine kY ?_;refine kC (c) ?_;exact aD
section
variable {P:Program} {T:TypeId->Option Ty} {n:Nat} {ops:Array Oper} {id:Nat} {draw:Bool} {K:AS->Prop} {s:AS} {k:Nat} {o:Oper} {os:List Oper} {fps:List FP}
theorem TI (hT:∀t d,T t=some d->aU P t d) {t:TypeId} {ty:Ty} {x y:Operand} {et q m i:Nat} {ik:IntKind} {cs:List AV} (hi:i<=m) (h1:gd ops s o=some true) (h2:o.op= .slice t x none (some y) none) (h5:T t=some ty) (h6:ty.elem=some (et,q)) (h7:s.ev x= .d (.leaf (.sl m cs))) (h8:s.ev y= .d (.leaf (.val (.int ik (i:Nat)))))
 (h3:aF n o.dst=true) (h4:eT draw ops (ar ops o ⟨.d (.leaf (.sl i (cs.take (i*q)))),none⟩ []) k fps=true) (h:am P T n ops id draw K (k+1) os (s.eff o.dst ⟨.d (.leaf (.sl i (cs.take (i*q)))),none⟩) (ar ops o ⟨.d (.leaf (.sl i (cs.take (i*q)))),none⟩ []::fps)):am P T n ops id draw K k (o::os) s fps:=by
 refine .run h1 (.gen fun s2 ht _=>?_) h3 h4 h;have hx:=(an ht (x:=x) (by simp[h2,Op.operands])).trans h7;have hy:=(an ht (x:=y) (by simp[h2,Op.operands])).trans h8;obtain⟨u,hu,_,hel,_⟩:=(hT _ _ h5).und;obtain⟨rfl,hks⟩:=hel et q h6;refine af fun n S0 w0 g a w hM=>?_
 have hm:=hM.ev x;rw[hx]at hm;have hm:AV.M (Own S0 g s2) w (.sl m cs) (a.eval x):=hm;have hiv:=aY hM hy
 have key:∃v,(Instr.sliceAt t (a.eval x) none (some (.int ik (i:Nat))) none).run P w= .ok v w/\AV.M (Own S0 g s2) w (.sl i (cs.take (i*q))) v:=by
  generalize a.eval x=v at hm;cases hm with
  |emp e1 e2 e3=>
   rename_i A c
   refine⟨_,qo hu hks A ik (by omega),?_⟩;rw[List.take_nil];refine .emp (by omega) (by omega) (fun hA=>?_)
   split at hA
   ·assumption
   ·exact e3 (by cases A<;>simp_all)
  |sl f e1 e2 e3 e4 e5 e6=>
   rename_i b off c
   have hA:(if c=0 then some (⟨b,off,none⟩:Addr)else(some (⟨b,off,none⟩:Addr)).map (·.add (0*q)))=some ⟨b,off,none⟩:=by
    split
    ·rfl
    ·show some ((⟨b,off,none⟩:Addr).add (0*q))=_
     rw[b8,Nat.zero_mul,Nat.add_zero]
   have hr:=qo (P:=P) (w:=w) hu hks (some (⟨b,off,none⟩:Addr)) (m:=m) (i:=i) (c:=c) ik (by omega);rw[hA]at hr;refine⟨_,hr,?_⟩
   have hc:∀(p:Nat) (b:AV),(cs.take (i*q))[p]? =some b->cs[p]? =some b:=fun p b hb=>by
    rw[List.getElem?_take]at hb
    split at hb
    ·exact hb
    ·cases hb
   exact .sl f (by omega) (by omega) e3 e4 (fun j x hj=>e5 _ _ (hc j x hj)) (fun j x hj=>e6 _ _ (hc j x hj))
 obtain⟨v,hr,hv⟩:=key;refine⟨v,w,?_,Below.refl _ _,hv⟩;unfold execOp;rw[h2]
 simp only[hiv,Option.map_some,Option.map_none,Sem.run_bind,hr,Result.andThen_ok]
 rfl
theorem uE (hT:∀t d,T t=some d->aU P t d) {t:TypeId} {ty:Ty} {x y:Operand} {et q m i d:Nat} {ik:IntKind} {cs:List AV} (hcs:cs.length<=m*q) (hi:i<=m) (hd:m-i=d) (h1:gd ops s o=some true) (h2:o.op= .slice t x (some y) none none) (h5:T t=some ty) (h6:ty.elem=some (et,q)) (h7:s.ev x= .d (.leaf (.sl m cs))) (h8:s.ev y= .d (.leaf (.val (.int ik (i:Nat)))))
 (h3:aF n o.dst=true) (h4:eT draw ops (ar ops o ⟨.d (.leaf (.sl d (cs.drop (i*q)))),none⟩ []) k fps=true) (h:am P T n ops id draw K (k+1) os (s.eff o.dst ⟨.d (.leaf (.sl d (cs.drop (i*q)))),none⟩) (ar ops o ⟨.d (.leaf (.sl d (cs.drop (i*q)))),none⟩ []::fps)):am P T n ops id draw K k (o::os) s fps:=by
 subst hd;exact Dy hT hcs hi h1 h2 h5 h6 h7 h8 h3 h4 h
end
theorem TK (x:L8):aB (cZ [AV.val (Value.string ByteArray.empty)] 1) 0 (dL x).cells=[.val (vL x)]:=rfl
theorem TL (na nb:Bool) (xs ys:List Nat) (p:Int):aB (cZ [AV.val (Value.bool false),AV.sl 0 [],AV.val (Value.bool false),AV.sl 0 [],AV.val (Value.int IntKind.i64 0)] 1) 0 (DV.agg [AV.val (Value.bool na),aW xs,AV.val (Value.bool nb),aW ys,AV.val (Value.int IntKind.i64 p)]).cells=[AV.val (Value.bool na),aW xs,AV.val (Value.bool nb),aW ys,AV.val (Value.int IntKind.i64 p)]:=rfl
theorem ng:∀{cs:List AV},a8 cs=true↔ ∀a∈cs,EN a=true
 | []=>by simp[a8]
 |a::cs=>by
  simp only[a8,List.mem_cons,forall_eq_or_imp]
  cases h:EN a
  ·simp
  ·simp[ng (cs:=cs)]
theorem sa {a b:List AV} (h:a8 a=true) (k:a8 b=true):a8 (a++b)=true:=ng.2 fun x hx=>by
 rcases List.mem_append.1 hx with hx|hx
 ·exact ng.1 h x hx
 ·exact ng.1 k x hx
theorem rZ {a:List AV} (h:a8 a=true) (i:Nat):a8 (a.take i)=true:=ng.2 fun x hx=>ng.1 h x (List.mem_of_mem_take hx)
theorem jh {a:List AV} (h:a8 a=true) (i:Nat):a8 (a.drop i)=true:=ng.2 fun x hx=>ng.1 h x (List.mem_of_mem_drop hx)
def TH (na:Bool) (xs:List Nat) (nb:Bool) (ys:List Nat) (p:Int):List AV:=[.val (.bool na),aW xs, .val (.bool nb),aW ys, .val (.int .i64 p)]
def TJ (ns:List L8) (x:L8) (cv vv:List AV):List AV:=cv.take (Q7 ns x*5)++vv++cv.drop (Q7 ns x*5)
theorem xc (l:List L8) (n:L8):(Lf l n).length=l.length+1:=by
 have:=FV l n
 simp[Lf]
 omega
section
variable {P:Program} {T:TypeId->Option Ty} {n:Nat} {ops:Array Oper} {id:Nat} {draw:Bool} {K:AS->Prop} {s:AS} {k:Nat} {o:Oper} {os:List Oper} {fps:List FP}
theorem iL {t:TypeId} {ty:Ty} {x y:Operand} {i off:Nat} {cs cs':List AV} {dv:DV} (hl:off+ty.size<=cs.length) (hs:aB cs off dv.cells=cs') (h1:gd ops s o=some true) (h2:o.op= .store t x y) (h0:o.dst=none) (h5:T t=some ty) (h8:s.ev x= .box i off) (h9:s.bx i=some cs) (h10:E5 (s.ev y)=some dv) (h7:Nat.beq dv.cells.length ty.size=true) (h11:QT i dv.cells=true)
 (h4:eT draw ops (ar ops o ⟨.junk,some [(i,some cs')]⟩ [i]) k fps=true) (h:am P T n ops id draw K (k+1) os (s.eff o.dst ⟨.junk,some [(i,some cs')]⟩) (ar ops o ⟨.junk,some [(i,some cs')]⟩ [i]::fps)) (hlb:fO i=false:=by rfl):am P T n ops id draw K k (o::os) s fps:=by
 refine gi h1 ?_ (by rw[h0];rfl) h4 h;have hb:Nat.ble (off+ty.size) cs.length=true:=Nat.ble_eq_true_of_le hl;unfold eK
 simp only[h0,h2,h5,h8,h9,hb,h10,h11,hs,hlb,Js,h7]
end
theorem kM (a b:Tb):bY (a++b)=bY a++bY b:=by
 induction a with
 |nil=>rfl
 |cons x a ih=>simp only[List.cons_append,bY,ih,List.append_assoc]
theorem pU (p:Pm):bY [p]=ve p:=by rw[bY,bY,List.append_nil]
theorem xR:∀(l:Tb) (i:Nat),(bY l).take (i*8)=bY (l.take i)
 | [],i=>by simp[bY]
 |p::r,0=>by simp[bY]
 |p::r,i+1=>by
  rw[List.take_succ_cons,bY,bY,show(i+1)*8=(ve p).length+i*8 by rw[fy];omega,List.take_length_add_append,xR r i]
theorem yr:∀(l:Tb) (i:Nat),(bY l).drop (i*8)=bY (l.drop i)
 | [],i=>by simp[bY]
 |p::r,0=>by simp
 |p::r,i+1=>by
  rw[List.drop_succ_cons,bY,show(i+1)*8=(ve p).length+i*8 by rw[fy];omega,List.drop_length_add_append,yr r i]
theorem JN {l:Tb} {i:Nat} (p:Pm) (hi:i<l.length):aB (bY l) (i*8) (ve p)=bY (l.set i p):=by
 unfold aB;rw[fy,show i*8+8=(i+1)*8 by omega,xR,yr,<- pU p,<- kM,<- kM]
 congr 1
 rw[List.set_eq_take_append_cons_drop,if_pos hi]
 simp
theorem vD (x:Rx):a8 (aR x)=true:=by obtain⟨op,na,xs,nb,ys,nm,args⟩:=x;rfl
theorem mQ:∀l:Tb,a8 (bY l)=true
 | []=>rfl
 |p::r=>sa (show a8 (.val (vL p.1)::aR p.2)=true from vD p.2) (mQ r)
theorem mg.set {l:Tb} (hs:mg l) {p:Pm} (hp:p.1.length<=60/\pA p.2):mg (dP l p):=fun q hq=>by
 unfold dP at hq
 split at hq
 ·rcases List.mem_or_eq_of_mem_set hq with h|h
  ·exact hs q h
  ·rw[h];exact hp
 ·rcases List.mem_append.1 hq with h|h
  ·exact hs q h
  ·rw[List.mem_singleton.1 h];exact hp
def FT (x:Tb × Int):RV:= .tup [bX x.1,dN .i64 x.2]
theorem zL (l:Tb) (p:Pm) (hs:mg l) (hp:p.1.length<=60/\pA p.2) (hl:l.length<=500):aa Tryz.prog 23 [bX l,sv p] (FT (zO l p)):=by
 have hml:=qj l p;have cf:=mG l p.1 (by omega);have co:=ni (dP l p) (hs.set hp) (by omega);have hok:=mQ l;have hokp:a8 (ve p)=true:=vD p.2;have hpl:=fy p;have hfl:=od l p.1;obtain⟨R,hR⟩:∃R,zO l p=R:=⟨_,rfl⟩;have hst:R=if(bI (dP l p)).2=0 then(dP l p,0)else([],(bI (dP l p)).2):=by rw[<- hR];rfl
 rw[hR];clear hR
 have hset:(b5 l p.1<l.length/\gH l p.1=(b5 l p.1:Nat)/\bX (dP l p)= .leaf (.sl l.length (aB (bY l) (b5 l p.1*8) (ve p))))∨(gH l p.1= -1/\bX (dP l p)= .leaf (.sl (l.length+1) (bY l++ve p))):=by
  exact Qk
 obtain⟨o1,na1,xs1,nb1,ys1,nm1,n1,cs1,hA,hB⟩:=aX p;rw[show sv p= .agg (bl p.1 o1 na1 xs1 nb1 ys1 nm1 n1 cs1) from congrArg DV.agg hB];rw[hB]at hset hokp hpl;generalize gH l p.1=fi at *;generalize b5 l p.1=f at *;generalize dP l p=m at *;generalize(bI m).1=oo at *;generalize(bI m).2=oe at *
 have hfin:∀(c:List AV) (k:Nat),bX m= .leaf (.sl k c)->(oe=0->qC [.leaf (.sl k c),dN .i64 0]=FT R)/\(oe≠0->qC [.leaf (.sl 0 []),dN .i64 oe]=FT R):=fun c k e=>by
  exact LF
 have hby:∀k,k<=1001->k*128<=140737488355328:=fun k hk=>by omega
 cases l with
 |nil=>
  rcases hset with⟨h,_,_⟩| ⟨rfl,hm⟩
  ·exact absurd h (Nat.not_lt_zero _)
  have hfin:=hfin _ _ hm;rw[hm]at co;refine kV func23 ?_;refine qR 5001 ac rfl rfl rfl rfl rfl rfl rfl rfl ?_;refine kO ?_;refine ST ?_;refine Px ?_;refine cK 5002 (m1:=0) (m2:=1) ac (by decide) (by decide) rfl rfl rfl rfl rfl rfl rfl rfl rfl rfl rfl (.own rfl rfl) rfl rfl rfl ?_;refine P9 ?_;refine Ny ?_;exact BW
 |cons a r=>
  rcases hset with⟨h,rfl,hm⟩| ⟨rfl,hm⟩
  ·have hfin:=hfin _ _ hm
   rw[hm]at co;have hlc:=d9 (a::r);refine LV ?_;refine NE ?_;refine iL (cs:=bY (a::r)) (show f*8+8<=_ by rw[hlc];omega) rfl rfl rfl rfl rfl rfl rfl rfl rfl rfl rfl ?_;refine P9 ?_;refine Ny ?_;exact BW
  ·have hfin:=hfin _ _ hm
   rw[hm]at co;have hlc:=d9 (a::r);refine LV ?_;refine Px ?_;refine cK 5003 (m1:=(a::r).length) (m2:=1) ac (by decide) (hby _ (by omega)) rfl rfl rfl rfl rfl rfl rfl rfl rfl rfl rfl (.own rfl rfl) rfl rfl rfl ?_;have ht:(bY (a::r)).take ((a::r).length*8)=bY (a::r):=List.take_of_length_le (Nat.le_of_eq hlc);refine P9 ?_;refine bV ((a7 (q:=6) rfl rfl).tr (weak (s':=⟨[(6, .d (.leaf (.sl ((a::r).length+1) (bY (a::r)++bl p.1 o1 na1 xs1 nb1 ys1 nm1 n1 cs1))))],[]⟩) ⟨congrArg (fun z=>TV.d (.leaf (.sl ((a::r).length+1) (z++bl p.1 o1 na1 xs1 nb1 ys1 nm1 n1 cs1)))) ht,trivial⟩ trivial rfl)) rfl ?_;refine kO ?_;refine kC (co) ?_;exact BW
theorem Jy.of:∀x,yi x->gr x<=1000000->Jy x:=by
 refine du fun op na xs nb ys nm args ih hm hs=>?_
 obtain⟨hx1,hy1,_,hm1⟩:xs.length<=510/\ys.length<=510/\nm.length<=65536/\ ∀x∈args,yi x:=by cases hm with|mk a b c d=>exact⟨a,b,c,d⟩
 rw[gr]at hs;have hge:=jn args
 have key:∀l:List Rx,∀x∈l,gr x<=ej l:=by
  intro l
  induction l with
  |nil=>intro x h;cases h
  |cons y r ihr=>
   intro x h;rcases List.mem_cons.1 h with rfl|h
   ·simp[ej]
   ·have:=ihr x h;simp only[ej];omega
 exact .mk (by omega) (by omega) (by omega) (fun x hx=>ih x hx (hm1 x hx) (by have:=key args x hx;omega))
theorem pA.lw {x:Rx} (h:pA x):Jy x:=Jy.of x h.lm (by have:=h.sz;omega)
theorem vm (env:EL):gt env=iZ (env.map (·.1)):=by
 unfold gt iZ au;rw[List.length_map,List.map_map];rfl
theorem Kr (a b:EL):kp (a++b)=kp a++kp b:=by
 induction a with
 |nil=>rfl
 |cons x a ih=>simp only[List.cons_append,kp,ih,List.append_assoc]
theorem pM (q:Rat) (p:Int):(j7 q p).length=5:=rfl
theorem CH:∀l:EL,(kp l).length=l.length*5
 | []=>rfl
 |x::r=>by rw[kp,List.length_append,pM,CH r,List.length_cons];omega
theorem zp:∀(l:EL) (i:Nat),(kp l).take (i*5)=kp (l.take i)
 | [],i=>by simp[kp]
 |x::r,0=>by simp[kp]
 |x::r,i+1=>by
  rw[List.take_succ_cons,kp,kp,show(i+1)*5=(j7 x.2.1 x.2.2).length+i*5 by rw[pM];omega,List.take_length_add_append,zp r i]
theorem wX:∀(l:EL) (i:Nat),(kp l).drop (i*5)=kp (l.drop i)
 | [],i=>by simp[kp]
 |x::r,0=>by simp
 |x::r,i+1=>by
  rw[List.drop_succ_cons,kp,show(i+1)*5=(j7 x.2.1 x.2.2).length+i*5 by rw[pM];omega,List.drop_length_add_append,wX r i]
theorem CQ:∀l:EL,a8 (kp l)=true
 | []=>rfl
 |x::r=>sa (a:=j7 x.2.1 x.2.2) rfl (CQ r)
def Nj:Except Int EL->RV
 | .ok env=> .tup [gt env,ip env,dN .i64 0]
 | .error e=> .tup [.leaf (.sl 0 []), .leaf (.sl 0 []),dN .i64 e]
structure IF (l:Tb):Prop where
 sm:mg l
 len:l.length<=500
 hv:∀n x,Hv l n x->dy 400 x.1/\nT x.2=true
theorem oS.fx_of {l:Tb} (hs:mg l) (ho:oS l):Ju l:=fun p hp=>Jq (hs p hp).2.wd (hs p hp).2.lm (ho.ex p hp)
theorem IF.of {l:Tb} (hs:mg l) (hli:R1 l) (h8:l.length<=8) (h0:(bI l).2=0):IF l:=by
 have ho:=(mE (l:=l) (o:=(bI l).1) (by rw[<- h0])).1;exact⟨hs,by omega,fun n x h=>h.ok hli h8 h0 (ho.fx_of hs) (fun p hp=>(hs p hp).2)⟩
theorem O8 {l:Tb} (hs:mg l) (ho:oS l) {p:Pm} (hp:p∈l):xd (jD p.2)/\mN (jD p.2)<=1000000/\rx (jD p.2)=p.2:=by
 have h1:=qW (ho.fx_of hs p hp);refine⟨nM _ (by rw[h1.1];exact(hs p hp).2.lt),?_,h1.1⟩;have h2:=rv (jD p.2);rw[h1.1]at h2;have:=(hs p hp).2.sz;omega
theorem FW {l:Tb} (h:(bI l).2≠0):wQ l= .error (bI l).2:=by unfold wQ;rw[if_neg h]
noncomputable def Qu (l:Tb) (x:Rx):RV:=if pT x=0 then(match wQ l with
 | .ok env=>fM (b7 (bu env) (jD x))
 | .error e=> .tup [D7,dN .i64 e])else .tup [D7,dN .i64 (pT x)]
theorem CE {l:Tb} (hs:mg l) (hV:(bI l).2=0->IF l) {env:EL} (h:wQ l= .ok env):fb env/\env.length<=1000000/\ ∀x∈env,dy 400 x.2.1/\nT x.2.2=true:=by
 obtain⟨h1,h2,h3,_,h5,h6⟩:=AO (fun h=>h.fx_of hs) h;have hv:=hV h2;exact⟨h3,by have:=hv.len;omega,fun x hx=>hv.hv _ _ (h5 x hx)⟩
theorem Pf {x:Rx} (hx:pA x) (h0:pT x=0):xd (jD x)/\mN (jD x)<=1000000/\rx (jD x)=x:=by
 have h1:=qW (Jq hx.wd hx.lm h0);refine⟨nM _ (by rw[h1.1];exact hx.lt),?_,h1.1⟩;have h2:=rv (jD x);rw[h1.1]at h2;have:=hx.sz;omega
theorem z6 {l:Tb} {e:Int} (h:wQ l= .error e):e≠0:=by
 unfold wQ at h
 split at h
 ·exact xf h
 ·rename_i h0;cases h;exact h0
section
variable {P:Program} {T:TypeId->Option Ty} {n:Nat} {ops:Array Oper} {id:Nat} {draw:Bool} {K:AS->Prop} {s:AS} {k:Nat} {o:Oper} {os:List Oper} {fps:List FP}
theorem zd {s:AS} {d t et q m j':Nat} {ty te:Ty} {x y:Operand} {ik ik':IntKind} (hT:aU P t ty) (hE:aU P et te) (ho:o.op= .makeSlice t x y) (hd:o.dst=some d) (hel:ty.elem=some (et,q)) (hq:te.size=q) (hq0:0<q) (hx:s.ev x= .d (.leaf (.val (.int ik (m:Nat))))) (hy:s.ev y= .d (.leaf (.val (.int ik' (m:Nat))))) (hb:te.bytes*m<=281474976710656) (h63:m<=9223372036854775807)
 (hnew:fB s j'=true) (hwb:(bR j' || a8 te.zero)=true) (hno:∀a∈te.zero,E7 a=true):bA P o s ⟨.d (.leaf (.sl m (cZ te.zero m))),some [(j',none)]⟩:=by
 intro n S0 w0 g a w K' Q hM hdn hK;refine zM (c:=m) hT hE ho hd hel hq hq0 hx hy (Nat.le_refl m) hb h63 hnew hwb hno n S0 w0 g a w K' Q hM hdn fun g' a' w' h=>?_
 rw[hd]at h;have hK:=fun g2 h2=>hK g2 a' w' h2
 rw[hd]at hK;obtain⟨g2,h2⟩:=a7 (s:=s.eff (some d) ⟨.own j' m q et,some [(j',some (cZ te.zero m))]⟩) (q:=d) (j:=j') (m:=m) (k:=q) (e:=et) (cs:=cZ te.zero m) (by simp[AS.eff,AS.tv,ah]) (by simp[AS.eff,AS.bx,ah]) n S0 w0 a' w' ⟨g',h⟩;refine hK g2 (h2.ext (fun i=>?_) (fun i=>?_))
 ·by_cases e:d=i
  ·subst e;simp[AS.eff,AS.tv,ah]
  ·simp[AS.eff,AS.tv,aq _ _ e]
 ·by_cases e:j'=i
  ·subst e;simp[AS.eff,ah]
  ·simp[AS.eff,aq _ _ e]
theorem Tv (j':Nat) {d t et q m:Nat} {ty te:Ty} {x y:Operand} {ik ik':IntKind} (hT:∀t d,T t=some d->aU P t d) (hb:te.bytes*m<=281474976710656) (h63:m<=9223372036854775807) (h1:gd ops s o=some true) (ho:o.op= .makeSlice t x y) (hd:o.dst=some d) (h3:aF n o.dst=true) (ht:T t=some ty) (hel:ty.elem=some (et,q)) (hte:T et=some te) (hq:te.size=q) (hq0:Nat.ble 1 q=true) (hx:s.ev x= .d (.leaf (.val (.int ik (m:Nat))))) (hy:s.ev y= .d (.leaf (.val (.int ik' (m:Nat)))))
 (hnew:fB s j'=true) (hwb:(bR j' || a8 te.zero)=true) (hno:te.zero.all E7=true)
 (h4:eT draw ops (ar ops o ⟨.d (.leaf (.sl m (cZ te.zero m))),some [(j',none)]⟩ [j']) k fps=true) (h:am P T n ops id draw K (k+1) os (s.eff o.dst ⟨.d (.leaf (.sl m (cZ te.zero m))),some [(j',none)]⟩) (ar ops o ⟨.d (.leaf (.sl m (cZ te.zero m))),some [(j',none)]⟩ [j']::fps)):am P T n ops id draw K k (o::os) s fps:=
 .run h1 (.gen fun _ ht2 hrb=>zd (hT _ _ ht) (hT _ _ hte) ho hd hel hq (Nat.le_of_ble_eq_true hq0) ((an ht2 (x:=x) (by rw[ho];simp[Op.operands])).trans hx) ((an ht2 (x:=y) (by rw[ho];simp[Op.operands])).trans hy) hb h63 ((dY (hrb j' (by simp))).trans hnew) hwb (fun b hb=>List.all_eq_true.1 hno b hb)) h3 h4 h
end
structure KF (l:Tb) (n:L8) (F:List L8):Prop where
 nd:F.Nodup
 dep:∀x∈F,wR l n x
theorem KF.len {l:Tb} {n:L8} {F:List L8} (h:KF l n F):F.length<=l.length:=by
 exact MW
def R9 (n:L8) (F:List L8) (p:Pm):Bool:=decide (n∈eu p.2) || F.any fun y=>decide (y∈eu p.2)
theorem uT {n:L8} {F:List L8} {p:Pm}:R9 n F p=true↔n∈eu p.2∨ ∃y∈F,y∈eu p.2:=by
 unfold R9
 simp
theorem KF.snoc {l:Tb} {n:L8} {F:List L8} (h:KF l n F) {p:Pm} (hp:p∈l) (hn:R9 n F p=true) (hf:p.1 ∉ F):KF l n (F++[p.1]):=by
 have hd:wR l n p.1:=by
  rcases uT.1 hn with h1| ⟨y,h1,h2⟩
  ·exact .base hp h1
  ·exact .step hp h2 (h.dep y h1)
 refine⟨?_,fun x hx=>?_⟩
 ·rw[List.nodup_append]
  refine⟨h.nd,List.nodup_cons.2 ⟨by simp,List.nodup_nil⟩,fun a ha b hb=>?_⟩;rw[List.mem_singleton.1 hb];exact fun e=>hf (e ▸ ha)
 ·rcases List.mem_append.1 hx with hx|hx
  ·exact h.dep x hx
  ·rw[List.mem_singleton.1 hx];exact hd
def SW (l:Tb) (n:L8) (F:List L8):Prop:=∀p∈l,R9 n F p=true->p.1∈F
theorem KF.full {l:Tb} {n:L8} {F:List L8} (h:KF l n F) (hc:SW l n F) (x:L8):x∈F↔wR l n x:=by
 refine⟨h.dep x,fun hd=>?_⟩
 induction hd with
 |base hp hn=>exact hc _ hp (uT.2 (.inl hn))
 |step hp hy _ ih=>exact hc _ hp (uT.2 (.inr ⟨_,ih,hy⟩))
theorem BU (F:List L8) (x:L8):(au F).take (F.length*1)++[.val (vL x)]=au (F++[x]):=by
 rw[Nat.mul_one,List.take_of_length_le (Nat.le_of_eq (dK F)),jF];rfl
theorem uQ (z:List AV):∀k,(cZ z k).length=k*z.length
 |0=>by simp[cZ]
 |k+1=>by simp[cZ,uQ z k,Nat.add_mul];try omega
theorem Ge {z:List AV} (h:a8 z=true):∀k,a8 (cZ z k)=true
 |0=>rfl
 |k+1=>sa h (Ge h k)
theorem TF (t:List (Nat × TV)) (b:List (Nat × Option (List AV))) (G:List L8) (x:L8):(⟨(5, .own 3001 (G++[x]).length 1 9)::t,(3001,some (au (G++[x])))::b⟩:AS)=⟨(5, .own 3001 (G.length+1) 1 9)::t,(3001,some ((au G).take (G.length*1)++[.val (vL x)]))::b⟩:=by
 rw[BU,List.length_append];rfl
theorem TZ:∀(F acc:List L8),(F.foldl Lf acc).length=acc.length+F.length
 | [],acc=>rfl
 |x::F,acc=>by rw[List.foldl_cons,TZ F,xc];simp;omega
theorem LZ {G:List L8} {k:Nat} {y:L8} (hy:G[k]? =some y) (f:L8->Bool):(G.take (k+1)).any f=((G.take k).any f || f y):=by
 rw[bE hy,List.any_append];simp
noncomputable def DR (l:Tb) (n:L8):List L8:=gh ((l.map (·.1)).filter fun x=> @decide (wR l n x) (Classical.propDecidable _))
theorem pL (l:Tb) (n:L8):rI (DR l n):=lK _
theorem mX {l:Tb} {n x:L8}:x∈DR l n↔wR l n x:=by
 unfold DR;rw[eY,List.mem_filter]
 constructor
 ·rintro⟨_,h⟩;exact @of_decide_eq_true _ (Classical.propDecidable _) h
 ·intro h
  obtain⟨p,hp,e⟩:=h.mem;exact⟨List.mem_map.2 ⟨p,hp,e⟩,@decide_eq_true _ (Classical.propDecidable _) h⟩
theorem KF.ns {l:Tb} {n:L8} {F:List L8} (h:KF l n F) (hc:SW l n F):L4 F=DR l n:=by
 rw[Ev h.nd];exact nh (lK _) (pL l n) fun x=>by rw[eY,h.full hc,mX]
noncomputable def lj (l:Tb) (n:L8):List L8:=if ie l=0/\0<=gH l n then DR l n else []
abbrev zB (n:L8):List AV:=[.val (vL n)]
theorem nZ {n:L8}:em [(900,zB n)] [(900,zB n)]:=em.one (Nat.le_refl 1)
theorem EQ (q:Pm) (n:L8):bw Tryz.prog 115 [.d (sv q), .box 900 0] [(900,zB n)] (.v (.one (dB (decide (q.1=n))))) [(900,zB n)]:=by
 obtain⟨o1,na1,xs1,nb1,ys1,nm1,n1,cs1,hA,hB⟩:=aX q;refine DD ?_
 by_cases e:q.1=n
 ·rw[decide_eq_true e]
  refine bf ac fo func115 rfl rfl rfl rfl rfl (nZ) ?_;refine kR ?_;refine kI ?_
  refine kO3 ?_
  refine aO rfl rfl rfl rfl rfl rfl rfl (bO (a:=q.1) (b:=n) e) ?_;exact Qn
 ·rw[decide_eq_false e]
  refine bf ac fo func115 rfl rfl rfl rfl rfl (nZ) ?_;refine kR ?_;refine kI ?_
  refine kO3 ?_
  refine aO rfl rfl rfl rfl rfl rfl rfl (b6 (a:=q.1) (b:=n) e) ?_;exact Qn
theorem ny {fid:FuncId} {p:Pm->Bool} {n:L8} (l:Tb) (hp:∀x∈l,bw Tryz.prog fid [.d (sv x), .box 900 0] [(900,zB n)] (.v (.one (dB (p x)))) [(900,zB n)]) (hl:l.length<=1000000):bw Tryz.prog 114 [.d (bX l), .clo (.func fid) [] [.box 900 0]] [(900,zB n)] (.v (.one (dN .i64 (if l.findIdx p<l.length then((l.findIdx p:Nat):Int)else -1)))) [(900,zB n)]:=by
 have hf:=List.findIdx_le_length (p:=p) (xs:=l)
 have hn:∀(i:Nat) (hi:i<l.length),i<l.findIdx p->p l[i]=false:=fun i hi h=>by
  exact Na
 have hy:∀(h:l.findIdx p<l.length),p (l[l.findIdx p])=true:=fun h=>List.findIdx_getElem
 generalize l.findIdx p=f at *;refine bf ac fo func114 rfl rfl rfl rfl rfl (nZ) ?_;refine kW ?_
 refine ay Nat (fun i=>i<=f) (fun i=>⟨[(0, .d (bX l)),(1, .clo (.func fid) [] [.box 900 0]),(4, .d (dN .i64 0)),(7, .d (dN .i64 l.length)),(8, .d (dN .i64 i))],[(900,some (zB n))]⟩) (fun i=>l.length-i) 0 (Nat.zero_le _)
  kw ?_
 intro i hi;refine kI ?_
 by_cases hlt:i<l.length
 ·refine kT ?_
  have hx:l[i]? =some l[i]:=by simp[hlt]
  have c:=hp l[i] (List.getElem_mem hlt);have hni:=hn i hlt;have hyi:∀h:i=f,p l[i]=true:=fun h=>by subst h;exact hy hlt
  generalize l[i]=q at *;obtain⟨o1,na1,xs1,nb1,ys1,nm1,n1,cs1,hA,hB⟩:=aX q;have hat:∀(j:Nat) (a:AV),(bl q.1 o1 na1 xs1 nb1 ys1 nm1 n1 cs1)[j]? =some a->(bY l)[i*8+j]? =some a:=fun j a h=>cY l i q hx j a (by rw[hB];exact h)
  rw[show sv q= .agg (bl q.1 o1 na1 xs1 nb1 ys1 nm1 n1 cs1) from congrArg DV.agg hB]at c;refine kW ?_;refine bP (i:=i) (cs':=bl q.1 o1 na1 xs1 nb1 ys1 nm1 n1 cs1) hlt hat (Nat.zero_lt_succ 7) rfl rfl rfl rfl rfl rfl rfl rfl ?_;refine kO ?_;exact Dj
 ·rw[if_neg (by omega)]
  refine kE ?_;exact Qn
theorem xr:∀(l:Tb) (n:L8),b5 l n=l.findIdx fun q=>decide (q.1=n)
 | [],_=>rfl
 |p::r,n=>by
  rw[b5,List.findIdx_cons,<- xr r n]
  by_cases e:p.1=n<;>simp[e]
theorem ia (l:Tb) (n:L8) (hl:l.length<=1000000):aa Tryz.prog 60 [bX l,dL n] (.one (dN .i64 (gH l n))):=by
 have c:=(ny (fid:=115) (p:=fun q=>decide (q.1=n)) (n:=n) l (fun x _=>EQ x n) hl).swap 900 0 rfl;rw[<- xr l n]at c;unfold gH;generalize(if b5 l n<l.length then((b5 l n:Nat):Int)else -1)=f at *;refine kV func60 ?_;refine kD (c) ?_;exact aD
section
open Go.RowKit Go.Lib
theorem C0 {S:Nat->Prop} {w:World} {v:Value} (h:AV.M S w (.sl 0 []) v):∃A c,v= .slice A 0 c:=by
 cases h with
 |emp=>exact⟨_,_,rfl⟩
 |sl=>exact⟨_,_,rfl⟩
theorem x8:aa Tryz.prog 71 [.leaf (.sl 0 [])] (.tup []):=
 ⟨aJ func71 rfl rfl,fun S w vs hS hv=>by
  match vs,hv with
  | [v],⟨h1,_⟩=>
   obtain⟨A,c,rfl⟩:=C0 (show AV.M S w (.sl 0 []) v from h1);refine(Tryz.slices_Sort_string_none A c w).mono ?_;rintro e w' ⟨rfl,rfl⟩;exact⟨_,rfl,⟨[],rfl,rfl,fun i x u h=>by simp at h⟩,Below.refl _ _⟩⟩
theorem xw:aa Tryz.prog 172 [.leaf (.sl 0 [])] (.one (.leaf (.sl 0 []))):=
 ⟨aJ func172 rfl rfl,fun S w vs hS hv=>by
  match vs,hv with
  | [v],⟨h1,_⟩=>
   have h1:AV.M S w (.sl 0 []) v:=h1;obtain⟨A,c,rfl⟩:=C0 h1;refine(Tryz.slices_Compact_string_empty A c w).mono ?_;rintro e w' ⟨rfl,rfl⟩;exact⟨_,rfl,h1,Below.refl _ _⟩⟩
theorem qk:∀x,jN x->gr x<=1000000->aa Tryz.prog 107 [dR x] (.one (.leaf (.sl (eu x).length (au (eu x))))):=by
 refine du fun op na xs nb ys nm args ih hx hs=>?_
 obtain⟨_,_,_,_,_,_,hargs⟩:=hx;rw[gr]at hs;have hge:=jn args;rw[eu]
 have hz:(if op=2 then [nm]else [])=cond (decide (op=2)) [nm] []:=by
  exact xt
 rw[hz];clear hz;have hbl:(cond (decide (op=2)) [nm] []).length<=1:=by cases decide (op=2)<;>simp
 generalize hb:decide (op=2)=b at *;obtain⟨al,hal⟩:∃al:Nat->List L8,∀i,al i=cond b [nm] []++fG (args.take i):=⟨_,fun _=>rfl⟩;have hal0:al 0=cond b [nm] []:=by rw[hal];simp[fG]
 have hall:∀i,(al i).length<=1000000:=fun i=>by
  have:=lx args i;rw[hal,List.length_append];omega
 have hsn:∀i (h:i<args.length),al (i+1)=al i++eu args[i]:=fun i h=>by rw[hal,hal,uF h,List.append_assoc]
 have hend:cond b [nm] []++fG args=al args.length:=by rw[hal,List.take_length]
 rw[hend];have hlenA:=hall args.length;obtain⟨A,hA0⟩:∃A,al args.length=A:=⟨_,rfl⟩;rw[hA0]at hlenA ⊢;rw[<- mi];refine OU ?_;refine kU func107 ?_;refine kR ?_;refine kR ?_;refine j4 ⟨[(3,li 5001 (al 0)),(1, .box 0 0),(2, .nil)],[(5001,mq (al 0)),(0,some (ab op na xs nb ys nm args.length (da args)))]⟩ (fun s' hw2=>?_) (fun R hR _=>?_)
 ·clear hb hal hal0 hend
  refine bG (T:=TT) ?_;refine bV hw2 rfl ?_;refine kW ?_
  refine ay Nat (fun i=>i<=args.length) (fun i=>⟨[(3,li 5001 (al i)),(2, .nil),(15, .d (.leaf (.sl args.length (da args)))),(16, .d (dN .i64 args.length)),(17, .d (dN .i64 i))],[(5001,mq (al i))]⟩) (fun i=>args.length-i) 0 (Nat.zero_le _)
   (by dsimp only;generalize al 0=B;cases B<;>first|exact weak ⟨rfl,rfl,rfl,rfl,rfl,trivial⟩ trivial rfl|exact weak ⟨rfl,rfl,rfl,rfl,rfl,trivial⟩ ⟨rfl,trivial⟩ rfl) ?_
  intro i hi
  by_cases hlt:i<args.length
  ·obtain⟨o1,na1,xs1,nb1,ys1,nm1,n1,cs1,hA⟩:=bv args[i]
   have hx:args[i]? =some args[i]:=by simp[hlt]
   have hat:∀(j:Nat) (a:AV),(ab o1 na1 xs1 nb1 ys1 nm1 n1 cs1)[j]? =some a->(da args)[i*7+j]? =some a:=fun j a h=>fw args i args[i] hx j a (by rw[hA];exact h)
   have c:=ih args[i] (List.getElem_mem hlt) (hargs _ (List.getElem_mem hlt)) (by have:=jg (List.getElem_mem hlt);omega);rw[show dR args[i]= .agg (ab o1 na1 xs1 nb1 ys1 nm1 n1 cs1) from congrArg DV.agg hA]at c;have hsi:=hsn i hlt;have hl2:=hall (i+1);rw[hsi]at hl2;generalize eu args[i]=Y at *;generalize al i=B at *;cases B with
   |nil=>
    cases Y with
    |nil=>
     refine kI ?_;refine kT ?_;refine ue ?_;refine NF ?_;refine SK ?_;rw[hsi];exact weak ⟨rfl,rfl,rfl,rfl,ak (by omega) (by omega),trivial⟩ trivial rfl
    |cons y r=>
     refine kI ?_;refine kT ?_;refine ue ?_;refine cK 5002 (m1:=0) (m2:=(y::r).length) ac (Nat.succ_pos _) (Nat.le_trans (Nat.mul_le_mul_right _ (show 0+(y::r).length<=1000000 by simp at hl2 ⊢;omega)) (by decide)) (by simp[au]) rfl rfl rfl rfl rfl rfl rfl rfl rfl rfl (.nil rfl rfl) rfl rfl (by rw[km];rfl) ?_;refine SK ?_;rw[hsi]
     refine Eq.mpr (congrArg (bi _) (ju [(2, .nil),(15, .d (.leaf (.sl args.length (da args)))),(16, .d (dN .i64 args.length)),(17, .d (dN .i64 (i+1:Nat)))] [] 3 5001 ([]:List L8) y r)) (bi.trans (b:=⟨[(3, .own 5002 (0+(y::r).length) 1 9),(2, .nil),(15, .d (.leaf (.sl args.length (da args)))),(16, .d (dN .i64 args.length)),(17, .d (dN .i64 (i+1:Nat)))],[(5002,some ((au ([]:List L8)).take (0*1)++au (y::r)))]⟩) (weak ⟨rfl,rfl,rfl,rfl,ak (by omega) (by omega),trivial⟩ ⟨rfl,trivial⟩ rfl) ((aA (q:=3) (j:=5002) (j':=5001) rfl rfl rfl rfl).trans kw))
   |cons a B=>
    cases Y with
    |nil=>
     refine kI ?_;refine kT ?_;refine ue ?_;refine ST ?_;refine SK ?_;rw[hsi,List.append_nil];exact weak ⟨rfl,rfl,rfl,rfl,ak (by omega) (by omega),trivial⟩ ⟨rfl,trivial⟩ rfl
    |cons y r=>
     refine kI ?_;refine kT ?_;refine ue ?_;refine cK 5002 (m1:=(a::B).length) (m2:=(y::r).length) ac (Nat.succ_pos _) (Nat.le_trans (Nat.mul_le_mul_right _ (show(a::B).length+(y::r).length<=1000000 by simp at hl2 ⊢;omega)) (by decide)) (by simp[au]) rfl rfl rfl rfl rfl rfl rfl rfl rfl rfl (.own rfl rfl) rfl rfl (by rw[km];rfl) ?_;refine SK ?_;rw[hsi]
     refine Eq.mpr (congrArg (bi _) (ju [(2, .nil),(15, .d (.leaf (.sl args.length (da args)))),(16, .d (dN .i64 args.length)),(17, .d (dN .i64 (i+1:Nat)))] [] 3 5001 (a::B) y r)) (bi.trans (b:=⟨[(3, .own 5002 ((a::B).length+(y::r).length) 1 9),(2, .nil),(15, .d (.leaf (.sl args.length (da args)))),(16, .d (dN .i64 args.length)),(17, .d (dN .i64 (i+1:Nat)))],[(5002,some ((au (a::B)).take ((a::B).length*1)++au (y::r)))]⟩) (weak ⟨rfl,rfl,rfl,rfl,ak (by omega) (by omega),trivial⟩ ⟨rfl,trivial⟩ rfl) ((aA (q:=3) (j:=5002) (j':=5001) rfl rfl rfl rfl).trans kw))
  ·have hO:A=al i:=by rw[show i=args.length by omega,hA0]
   generalize al i=B at *;cases B with
   |nil=>
    refine HE ?_;refine kQ (x8) ?_;refine kC (xw) ?_;refine N0 ?_;rw[hO,mi];rfl
   |cons a r=>
    have hlB:(a::r).length<=1000000:=by rw[<- hO];exact hlenA
    have ct1:bw Tryz.prog 71 [.own 5001 (a::r).length 1 9] [(5001,au (a::r))] (.v (.tup [])) [(5001,au ((a::r).mergeSort fun x y=>decide (x<=y)))]:=(C4 hlB).swap 901 5001 rfl;have hms:((a::r).mergeSort fun x y=>decide (x<=y)).length=(a::r).length:=List.length_mergeSort _;have ct2:bw Tryz.prog 172 [.own 5001 ((a::r).mergeSort fun x y=>decide (x<=y)).length 1 9] [(5001,au ((a::r).mergeSort fun x y=>decide (x<=y)))] (.own 5001 (Lib.compact ((a::r).mergeSort fun x y=>decide (x<=y))).length 1 9) [(5001,au (Lib.compact ((a::r).mergeSort fun x y=>decide (x<=y))++List.replicate (((a::r).mergeSort fun x y=>decide (x<=y)).length-(Lib.compact ((a::r).mergeSort fun x y=>decide (x<=y))).length) []))]:=(AE (by omega)).swap 901 5001 rfl;rw[hms]at ct2
    have hcut:∀M:List L8,(au (Lib.compact M++List.replicate ((a::r).length-(Lib.compact M).length) [])).take (Lib.compact M).length=au (Lib.compact M):=fun M=>by
     rw[jF,List.take_left' (dK _)]
    generalize hM:((a::r).mergeSort fun x y=>decide (x<=y))=M at *;have hcM:=hcut M;refine HE ?_;refine kZ (ct1) ?_;refine kD (ct2) ?_;refine Ml ac rfl rfl rfl rfl ((a7 (q:=2) rfl rfl).trans (yu (q:=2) (Lib.compact M).length rfl)) ?_;refine N0 ?_;rw[hO,hM,<- hcM];rfl
 ·exact Nw
end
theorem rn (l:Tb) (hs:mg l) (hl:l.length<=1000000):aa Tryz.prog 17 [bX l] (.one (dN .i64 (ie l))):=by
 by_cases h200:200<l.length
 ·refine kU func17 ?_
  refine MV ?_;refine N0 ?_;exact oY
 have hv:ie l=xH l 0 (l.drop 0):=by unfold ie;rw[if_neg h200];rfl
 rw[hv];clear hv;refine kV func17 ?_;refine Ki ?_;refine kW ?_;refine ay Nat (fun i=>i<=l.length/\xH l 0 (l.drop 0)=xH l i (l.drop i)) (fun i=>⟨[(0, .d (bX l)),(9, .d (bX l)),(10, .d (dN .i64 l.length)),(11, .d (dN .i64 i))],[]⟩) (fun i=>l.length-i) 0 ⟨Nat.zero_le _,rfl⟩ kw ?_;rintro i ⟨hi,hv⟩;refine kI ?_
 by_cases hlt:i<l.length
 ·refine kT ?_
  obtain⟨p,hx⟩:∃p,l[i]? =some p:=⟨l[i],by simp[hlt]⟩;rw[Jo hx]at hv;have hp:=List.mem_of_getElem? hx;obtain⟨hn,hsx⟩:=hs p hp;obtain⟨o1,na1,xs1,nb1,ys1,nm1,n1,cs1,hA,hB⟩:=aX p;have hat:∀(j:Nat) (a:AV),(bl p.1 o1 na1 xs1 nb1 ys1 nm1 n1 cs1)[j]? =some a->(bY l)[i*8+j]? =some a:=fun j a h=>cY l i p hx j a (by rw[hB];exact h)
  have c1:=jE p.1 (by omega);have c2:=oL p.2 hsx.wd hsx.lm (by have:=hsx.sz;omega);rw[show dR p.2= .agg (ab o1 na1 xs1 nb1 ys1 nm1 n1 cs1) from congrArg DV.agg hA]at c2;have c3:=ia l p.1 hl;have hf:=jS.2 ⟨p,hp,rfl⟩;rw[show gH l p.1=(b5 l p.1:Nat) by unfold gH;rw[if_pos hf]]at c3;rcases Bool.eq_false_or_eq_true (mh p.1)with hb|hb
  ·rw[if_pos hb]at hv
   rw[hb]at c1;refine kW ?_;refine vr ?_;refine mb ?_;refine kC (c2) ?_
   by_cases h0:pT p.2=0
   ·rw[if_pos h0]at hv
    refine Ru ?_;refine RE ?_;refine kW ?_;refine kC (c3) ?_;refine kO ?_
    by_cases h5:b5 l p.1<i
    ·rw[if_pos h5]at hv
     refine kT ?_;refine N0 ?_;exact Pv
    ·rw[if_neg h5]at hv
     refine kY ?_;exact⟨i+1,⟨hlt,hv⟩,by omega,weak ⟨rfl,rfl,rfl,ak (by omega) (by omega),trivial⟩ trivial rfl⟩
   ·rw[if_neg h0]at hv
    refine Ru ?_;refine Q2 ?_;refine N0 ?_;exact Pv
  ·rw[if_neg (by rw[hb];decide)]at hv
   rw[hb]at c1;refine kW ?_;refine vr ?_;refine kW ?_;refine kC (c1) ?_;refine N0 ?_;exact Pv
 ·exact Tw
def K8 (l:Tb) (n:L8):Int × Int:=if ie l=0 then(if gH l n<0 then(0,4)else(gH l n,0))else(0,ie l)
theorem oz (l:Tb) (n:L8) (hs:mg l) (hl:l.length<=1000000):aa Tryz.prog 66 [bX l,dL n] (.tup [dN .i64 (K8 l n).1,dN .i64 (K8 l n).2]):=by
 have cv:=rn l hs hl;have cf:=ia l n hl;unfold K8
 by_cases hv:ie l=0
 ·rw[if_pos hv]
  rw[hv]at cv;generalize gH l n=f at *
  by_cases hf:f<0
  ·rw[if_pos hf]
   refine kU func66 ?_;refine NG ?_;refine kC (cf) ?_;refine Ru ?_;refine kB true ?_ ?_
   ·exact decide_eq_true hf
   exact aD
  ·rw[if_neg hf]
   refine kU func66 ?_;refine NG ?_;refine kC (cf) ?_;refine Ru ?_;refine kB false ?_ ?_
   ·exact decide_eq_false hf
   exact aD
 ·rw[if_neg hv]
  generalize ie l=z at *;refine kU func66 ?_;exact BQ
theorem Em (l:List L8) (n:L8) (hl:l.length<=1000000):aa Tryz.prog 21 [iZ l,dL n] (.one (dN .i64 (if l.findIdx (fun x=>decide (n=x))<l.length then((l.findIdx fun x=>decide (n=x):Nat):Int)else -1))):=by
 have hf:=List.findIdx_le_length (p:=fun x=>decide (n=x)) (xs:=l)
 have hn:∀(i:Nat) (hi:i<l.length),i<l.findIdx (fun x=>decide (n=x))-> ¬n=l[i]:=fun i hi h=>by
  exact Na
 have hy:∀(h:l.findIdx (fun x=>decide (n=x))<l.length),n=(l[l.findIdx (fun x=>decide (n=x))]):=fun h=>of_decide_eq_true (List.findIdx_getElem (p:=fun x=>decide (n=x)) (xs:=l) (w:=h))
 generalize l.findIdx (fun x=>decide (n=x))=f at *;refine kV func21 ?_
 refine ay Nat (fun i=>i<=f) (fun i=>⟨[(0, .d (iZ l)),(1, .d (dL n)),(4, .d (dN .i64 0)),(7, .d (dN .i64 l.length)),(8, .d (dN .i64 i))],[]⟩) (fun i=>l.length-i) 0 (Nat.zero_le _)
  kw ?_
 intro i hi;refine kI ?_
 by_cases hlt:i<l.length
 ·refine kT ?_
  have hx:l[i]? =some l[i]:=by simp[hlt]
  have hni:=hn i hlt;have hyi:∀h:i=f,n=l[i]:=fun h=>by subst h;exact hy hlt
  generalize l[i]=q at *
  by_cases e:n=q
  ·have e2:i=f:=by
    by_cases e3:i<f
    ·exact absurd e (hni e3)
    ·omega
   subst e2;rw[if_pos hlt];refine Cb ?_;refine aO rfl rfl rfl rfl rfl rfl rfl (bO (a:=n) (b:=q) e) ?_;exact aD
  ·refine Cb ?_
   refine aO rfl rfl rfl rfl rfl rfl rfl (b6 (a:=n) (b:=q) e) ?_;refine kW ?_;refine⟨i+1,?_,by omega,weak ⟨rfl,rfl,rfl,rfl,ak (by omega) (by omega),trivial⟩ trivial rfl⟩
   by_cases e3:i=f
   ·exact absurd (hyi e3) e
   ·omega
 ·rw[if_neg (by omega)]
  refine kE ?_;exact aD
theorem Ea (l:List L8) (n:L8) (hl:l.length<=1000000):∃i:Int,(0<=i↔n∈l)/\aa Tryz.prog 21 [iZ l,dL n] (.one (dN .i64 i)):=by
 refine⟨_,?_,Em l n hl⟩;have:=List.findIdx_lt_length (p:=fun x=>decide (n=x)) (xs:=l)
 split
 ·rename_i h
  obtain⟨x,hx,e⟩:=this.1 h;have e:=of_decide_eq_true e;subst e;exact⟨fun _=>hx,fun _=>by omega⟩
 ·rename_i h
  exact⟨fun h=>by omega,fun hm=>absurd (this.2 ⟨n,hm,decide_eq_true rfl⟩) h⟩
theorem dX (l:List L8) (n:L8) (hl:l.length<=1000000):aa Tryz.prog 36 [iZ l,dL n] (.one (dB (decide (n∈l)))):=by
 obtain⟨i,h1,c⟩:=Ea l n hl
 by_cases h:n∈l
 ·rw[decide_eq_true h]
  have:=h1.2 h;refine kV func36 ?_;refine kC (c) ?_;refine kT ?_;exact aD
 ·rw[decide_eq_false h]
  have:=fun h2=>h (h1.1 h2)
  refine kV func36 ?_;refine kC (c) ?_;refine kE ?_;exact aD
theorem tI (q:Pm) (n:L8) (hq:pA q.2):aa Tryz.prog 70 [sv q,dL n] (.one (dB (decide (n∈eu q.2)))):=by
 have cn:=qk q.2 hq.wd (by have:=hq.sz;omega);have cc:=dX (eu q.2) n (Nat.le_trans (pK q.2) (by have:=hq.sz;omega));obtain⟨o1,na1,xs1,nb1,ys1,nm1,n1,cs1,hA,hB⟩:=aX q;refine DD ?_;rw[show dR q.2= .agg (ab o1 na1 xs1 nb1 ys1 nm1 n1 cs1) from congrArg DV.agg hA]at cn;generalize eu q.2=ns at *;refine kV func70 ?_;refine kC (cn) ?_;refine kO ?_;refine kC (cc) ?_;exact aD
end Go.Proofs.YtmkggcjajcdlcaaGreatDoor
