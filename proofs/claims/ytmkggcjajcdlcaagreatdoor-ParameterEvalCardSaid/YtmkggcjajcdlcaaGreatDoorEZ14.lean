/- Parts of a proof: contracts of the functions that the laws reach. -/
import Derived.Test.YtmkggcjajcdlcaaGreatDoorEZ13
set_option maxHeartbeats 100000000
set_option linter.all false
open Go.Proofs.Tryz
namespace Go.Proofs.YtmkggcjajcdlcaaGreatDoor
open Go.RowKit
section
variable {P:Program} {T:TypeId->Option Ty} {n:Nat} {ops:Array Oper} {id:Nat} {draw:Bool} {K:AS->Prop} {s:AS} {k:Nat} {o:Oper} {os:List Oper} {fps:List FP}
theorem pv {a:Act} {w:World} {x:Operand} {t t' et:Nat} (ho:o.op= .binOp .eql t x (.const (.slice none 0 0)) t') (hu:P.underlying t=some (.slice et)) {A:Option Addr} {m c:Nat} (hv:a.eval x= .slice A m c):(execOp a.eval o).run P w= .ok (.value (.bool A.isNone)) w:=by
 have hr:=Lib.run_eql_slice_nil w t et A m c 0 0 hu;have hn:a.eval (.const (.slice none 0 0))= .slice none 0 0:=rfl;unfold execOp;rw[ho]
 simp[hv,hn,eqGuard,Sem.run_bind,Sem.run_pure,Result.andThen_ok,hr]
theorem IU (hT:∀t d,T t=some d->aU P t d) {x:Operand} {t t' et q m:Nat} {ty:Ty} {cs:List AV} (hpos:0<cs.length) (h1:gd ops s o=some true) (ho:o.op= .binOp .eql t x (.const (.slice none 0 0)) t') (ht:T t=some ty) (hel:ty.elem=some (et,q)) (hx:s.ev x= .d (.leaf (.sl m cs)))
 (h3:aH n o.dst=true) (h4:eS draw ops (aw ops o ⟨.d (.leaf (.val (.bool false))),none⟩ []) k fps=true) (h:ak P T n ops id draw K (k+1) os (s.eff o.dst ⟨.d (.leaf (.val (.bool false))),none⟩) (aw ops o ⟨.d (.leaf (.val (.bool false))),none⟩ []::fps)):ak P T n ops id draw K k (o::os) s fps:=by
 refine .run h1 (.gen fun s2 ht2 hrb=>?_) h3 h4 h;have hx2:=(an ht2 (x:=x) (by simp[ho,Op.operands])).trans hx;obtain⟨u,hu,_,hel',_⟩:=(hT _ _ ht).und;obtain⟨rfl,_⟩:=hel' et q hel;refine ai fun n S0 w0 g a w hM=>⟨.bool false,w,?_,Below.refl _ _,AV.M.val rfl⟩
 have hv:=hM.ev x;rw[hx2]at hv;have hv:AV.M (Own S0 g s2) w (.sl m cs) (a.eval x):=hv;generalize hav:a.eval x=v at hv;cases hv with
 |emp=>simp at hpos
 |sl=>exact pv ho hu hav
theorem CU (hT:∀t d,T t=some d->aU P t d) {x:Operand} {t t' et q m:Nat} {ty:Ty} {cs:List AV} (h0:draw=false) (h1:gd ops s o=some true) (ho:o.op= .binOp .eql t x (.const (.slice none 0 0)) t') (ht:T t=some ty) (hel:ty.elem=some (et,q)) (hx:s.ev x= .d (.leaf (.sl m cs)))
 (h3:aH n o.dst=true) (h:∀b:Bool,ak P T n ops id draw K (k+1) os (s.eff o.dst ⟨.d (.leaf (.val (.bool b))),none⟩) (aw ops o ⟨.junk,none⟩ []::fps)):ak P T n ops id draw K k (o::os) s fps:=by
 refine .alt (fun s'=>∃b:Bool,s'=s.eff o.dst ⟨.d (.leaf (.val (.bool b))),none⟩) h0 h1 (fun S0 w0 g a w K Q hM hK=>?_) (by rintro s' ⟨b,rfl⟩;exact h b);obtain⟨u,hu,_,hel',_⟩:=(hT _ _ ht).und;obtain⟨rfl,_⟩:=hel' et q hel;have hv:=hM.ev x;rw[hx]at hv;have hv:AV.M (Own S0 g s) w (.sl m cs) (a.eval x):=hv
 have key:∃b:Bool,(execOp a.eval o).run P w= .ok (.value (.bool b)) w:=by
  generalize hav:a.eval x=v at hv;cases hv with
  |emp=>exact⟨_,pv ho hu hav⟩
  |sl=>exact⟨_,pv ho hu hav⟩
 obtain⟨b,hb⟩:=key;unfold Oper.wp;rw[hb];show K (a.put o.dst _) w;cases hd:o.dst with
 |none=>exact hK _ ⟨b,rfl⟩ g _ _ (by rw[hd];exact hM)
 |some d=>exact hK _ ⟨b,rfl⟩ g _ _ (by rw[hd];exact hM.put (d7 h3 d hd) (Below.refl _ _) (AV.M.val rfl))
end
theorem Dj:aa Tryz.prog 119 [.leaf (.sl 0 [])] (.one (.leaf (.sl 0 []))):=by
 refine kU func119 ?_;refine fT ?_;refine CU ac rfl rfl rfl rfl rfl rfl rfl fun b=>?_
 cases b
 ·refine kW ?_
  refine qC 3000 ac rfl rfl rfl rfl rfl rfl rfl rfl ?_;refine kO ?_;refine th ?_;refine CT ?_;exact ax
 ·exact ax
theorem FY {m:Nat} {cs:List AV} (hm:0<m) (hl:m<=1000000) (hcs:cs.length=m*7) (hB:a8 cs=true):bA Tryz.prog 119 [.d (.leaf (.sl m cs))] [] (.own 1003 m 7 41) [(1003,cs)]:=by
 refine bv ac fH func119 rfl rfl rfl rfl rfl ((eK.nil _)) ?_;refine fT ?_;refine IU ac (by omega) rfl rfl rfl rfl rfl rfl rfl ?_;refine kW ?_;refine qC 3000 ac rfl rfl rfl rfl rfl rfl rfl rfl ?_;refine kO ?_;refine cY 1003 (m1:=0) (m2:=m) ac hm (by show(0+m)*112<=_;omega) hcs rfl rfl rfl rfl rfl rfl rfl rfl rfl rfl (.own rfl rfl) rfl rfl ?_ ?_
 ·rw[hB];rfl
 rw[Nat.zero_add m];exact zD
theorem El:∀l:List Rx,a8 (db l)=true
 | []=>rfl
 |x::r=>nZ (xA x) (El r)
theorem Cu {l:List Rx} {i:Nat} {x:Rx} (h:l[i]? =some x):aF (db l) (i*7) (aR x)=db l:=by
 have hi:=(List.getElem?_eq_some_iff.1 h).1
 have h1:l=l.take i++x::l.drop (i+1):=by
  obtain⟨h2,h3⟩:=List.getElem?_eq_some_iff.1 h;rw[<- h3,<- List.drop_eq_getElem_cons h2,List.take_append_drop]
 have app:∀a b:List Rx,db (a++b)=db a++db b:=fun a b=>by
  induction a with
  |nil=>rfl
  |cons y a ih=>simp only[List.cons_append,db,ih,List.append_assoc]
 have h4:db l=db (l.take i)++(aR x++db (l.drop (i+1))):=by
  conv=>lhs;rw[h1]
  rw[app,db]
 rw[h4,ga (by rw[ov,List.length_take];omega),List.drop_left,List.append_assoc]
theorem pW:∀x:Rx,j0 x->gL x<=1000000->aa Tryz.prog 65 [dR x] (.one (dR x)):=by
 refine dq fun op na xs nb ys nm args ih hx hsz=>?_
 obtain⟨_,_,hw,hw',_,hlen,hargs⟩:=hx;rw[gL]at hsz;have hal:=jC args;have hih:∀i (hi:i<args.length),aa Tryz.prog 65 [dR args[i]] (.one (dR args[i])):=fun i hi=>ih args[i] (List.getElem_mem hi) (hargs _ (List.getElem_mem hi)) (by have:=jB (List.getElem_mem hi);omega)
 show aa Tryz.prog _ [.agg (ab op na xs nb ys nm args.length (db args))] (.one (.agg (ab op na xs nb ys nm args.length (db args))))
 by_cases h0:args.length=0
 ·have e0:args=[]:=List.eq_nil_of_length_eq_zero h0
  subst e0;refine kU func65 ?_;refine kI ?_;refine OK 801 rfl rfl rfl rfl rfl rfl rfl rfl rfl rfl ?_;refine kW ?_;refine kQ (Dj) ?_;refine aq Unit (fun _=>True) (fun _=>⟨[(1, .box 801 0),(2, .box 1 0),(11, .d (dN .i64 0)),(12, .d (dN .i64 0))],[(1,some (ab 0 false [] false [] [] 0 [])),(801,some (ab op na xs nb ys nm 0 []))]⟩) (fun _=>0) () trivial kw ?_;intro _ _;exact ax
 have c1:=FY (m:=args.length) (cs:=db args) (by omega) (by omega) (ov args) (El args);refine kU func65 ?_;refine kI ?_;refine OK 801 rfl rfl rfl rfl rfl rfl rfl rfl rfl rfl ?_;refine kW ?_;refine jo c1 rfl rfl rfl rfl rfl trivial rfl rfl rfl rfl ?_;refine kW ?_;refine aq Nat (fun i=>i<=args.length) (fun i=>⟨[(1, .box 801 0),(2, .box 1 0),(10, .own 1003 args.length 7 41),(11, .d (dN .i64 args.length)),(12, .d (dN .i64 i))],[(1,some (ab 0 false [] false [] [] 0 [])),(801,some [.val (.int .i64 op), .val (.bool na),aW xs, .val (.bool nb),aW ys, .val (vL nm), .ow 1003 args.length 7 41]),(1003,some (db args))]⟩) (fun i=>args.length-i) 0 (Nat.zero_le _) kw ?_;intro i hi;refine kI ?_
 by_cases hlt:i<args.length
 ·obtain⟨o1,na1,xs1,nb1,ys1,nm1,n1,cs1,hA⟩:=bz args[i]
  have hxi:args[i]? =some args[i]:=by simp[hlt]
  have c:=hih i hlt;have hsp:=Cu hxi
  have hld:((db args).drop (i*7)).take 7=ab o1 na1 xs1 nb1 ys1 nm1 n1 cs1:=by
   have hat:=fq args i args[i] hxi;rw[hA]at hat;refine List.ext_getElem? fun j=>?_
   by_cases hj:j<7
   ·have h7:(ab o1 na1 xs1 nb1 ys1 nm1 n1 cs1)[j]? =some ((ab o1 na1 xs1 nb1 ys1 nm1 n1 cs1)[j]'hj):=List.getElem?_eq_getElem hj
    rw[List.getElem?_take,if_pos hj,List.getElem?_drop,h7];exact hat j _ h7
   ·rw[List.getElem?_take,if_neg hj,List.getElem?_eq_none (by show 7<=j;omega)]
  have hl7:i*7+7<=(db args).length:=by rw[ov];omega
  rw[show dR args[i]= .agg (ab o1 na1 xs1 nb1 ys1 nm1 n1 cs1) from congrArg DV.agg hA]at c;rw[hA]at hsp;refine kX ?_;refine fY (i:=i) hlt rfl rfl rfl rfl rfl rfl rfl rfl rfl ?_;refine Ak (cs':=ab o1 na1 xs1 nb1 ys1 nm1 n1 cs1) hl7 hld rfl rfl rfl rfl rfl rfl rfl rfl ?_;refine kW ?_;refine kC (c) ?_;refine fY (i:=i) hlt rfl rfl rfl rfl rfl rfl rfl rfl rfl ?_;refine jh (cs:=db args) hl7 hsp rfl rfl rfl rfl rfl rfl rfl rfl rfl rfl ?_;refine kW ?_;exact⟨i+1,hlt,by omega,weak ⟨rfl,rfl,rfl,rfl,ae (by omega) (by omega),trivial⟩ ⟨rfl,rfl,rfl,trivial⟩ rfl⟩
 ·refine wN ?_
  refine bW (wY (i:=801) (off:=6) (j:=1003) rfl rfl rfl rfl rfl) rfl ?_;exact ax
section
variable {q m i:Nat} {cs:List AV}
theorem R2 (hi:i<m) (hcs:cs.length=m*q):aF cs ((0+i)*q) ((cs.drop ((0+(i+1))*q)).take ((m-(i+1))*q))=(cs.take (i*q)++cs.drop ((i+1)*q))++cs.drop ((m-1)*q):=by
 have h1:(m-(i+1))*q=m*q-(i+1)*q:=Nat.sub_mul _ _ _;have h2:(i+1)*q=i*q+1*q:=Nat.add_mul _ _ _;have h3:(i+1)*q<=m*q:=Nat.mul_le_mul_right _ hi;have h4:(m-1)*q=m*q-1*q:=Nat.sub_mul _ _ _;rw[Nat.zero_add,Nat.zero_add,List.take_of_length_le (l:=cs.drop ((i+1)*q)) (by rw[List.length_drop];omega)];unfold aF;rw[List.length_drop,hcs,show i*q+(m*q-(i+1)*q)=(m-1)*q by omega]
theorem Sr (hi:i<m) (hcs:cs.length=m*q) (Z:List AV) (hZ:Z.length=1*q):aF ((cs.take (i*q)++cs.drop ((i+1)*q))++cs.drop ((m-1)*q)) ((0+(m-1))*q) Z=(cs.take (i*q)++cs.drop ((i+1)*q))++Z:=by
 have h2:(i+1)*q=i*q+1*q:=Nat.add_mul _ _ _;have h3:(i+1)*q<=m*q:=Nat.mul_le_mul_right _ hi;have h4:(m-1)*q=m*q-1*q:=Nat.sub_mul _ _ _;rw[Nat.zero_add,ga (a:=cs.take (i*q)++cs.drop ((i+1)*q)) (by rw[List.length_append,List.length_take,List.length_drop];omega),hZ,List.drop_drop,show cs.drop ((m-1)*q+1*q)=[] from List.drop_of_length_le (by rw[hcs];omega),List.append_nil]
theorem Tg (hi:i+1=m) (hcs:cs.length=m*q) (Z:List AV) (hZ:Z.length=1*q):aF cs ((0+(m-1))*q) Z=(cs.take (i*q)++cs.drop ((i+1)*q))++Z:=by
 subst hi;have h2:(i+1)*q=i*q+1*q:=Nat.add_mul _ _ _;rw[Nat.zero_add,Nat.add_sub_cancel];unfold aF;rw[hZ,<- h2,List.drop_of_length_le (Nat.le_of_eq hcs),List.append_nil,List.append_nil]
end
theorem Gl (l:Tb) (i:Nat):bR (l.eraseIdx i)=(bR l).take (i*8)++(bR l).drop ((i+1)*8):=by
 rw[List.eraseIdx_eq_take_drop_succ,jy]
 have h1:∀(l:Tb) (i:Nat),bR (l.take i)=(bR l).take (i*8):=by
  intro l
  induction l with
  |nil=>intro i;simp[bR]
  |cons p r ih=>
   intro i;cases i with
   |zero=>simp[bR]
   |succ i=>rw[List.take_succ_cons,bR,bR,ih,show(i+1)*8=(wQ p).length+i*8 by rw[fO];omega,List.take_length_add_append]
 have h2:∀(l:Tb) (i:Nat),bR (l.drop i)=(bR l).drop (i*8):=by
  intro l
  induction l with
  |nil=>intro i;simp[bR]
  |cons p r ih=>
   intro i;cases i with
   |zero=>simp[bR]
   |succ i=>rw[List.drop_succ_cons,bR,ih,show(i+1)*8=(wQ p).length+i*8 by rw[fO];omega,List.drop_length_add_append]
 rw[h1,h2]
theorem Qa {l:Tb} {i:Nat} (hi:i<l.length) (hl:l.length<=1000000):bA Tryz.prog 84 [.own 901 l.length 8 43, .d (dN .i64 i), .d (dN .i64 (i+1:Nat))] [(901,bR l)] (.own 901 (l.length-1) 8 43) [(901,bR (l.eraseIdx i)++cG K6 1)]:=by
 have hcs:=dO l;have hB:=oE l;have hik:(i+1)*8<=l.length*8:=Nat.mul_le_mul_right _ hi;have d1:=R2 hi hcs;have d2:=Sr hi hcs (cG K6 1) rfl;have d3:=fun h=> @Tg 8 _ i _ h hcs (cG K6 1) rfl
 have hlen:(bR (l.eraseIdx i)++cG K6 1).length=l.length*8:=by
  rw[List.length_append,dO,List.length_eraseIdx,if_pos hi];show _+8=_;omega
 rw[<- Gl]at d1 d2 d3;generalize bR l=cs at *;have hld:(bR (l.eraseIdx i)).length+8=l.length*8:=by rw[<- hlen,List.length_append];rfl
 generalize bR (l.eraseIdx i)=ds at *;generalize l.length=m at *;refine bv ac fH func84 rfl rfl rfl rfl rfl ((eK.one (by omega))) ?_;refine kR ?_
 repeat refine bM (T:=TT) ?_
 refine nv 0 rfl rfl fun c hc1 hc2=>?_
 refine bG (T:=TT) rfl ?_
 refine kO5 ?_
 refine Rz ac (i:=i) (i2:=i+1) (i3:=m) (by omega) (by omega) hc1 rfl rfl rfl rfl rfl rfl rfl rfl rfl rfl rfl ?_;refine kW ?_;refine zy ?_;refine kW ?_;refine BG ac (show i<=c by omega) rfl rfl rfl rfl rfl rfl rfl rfl rfl ?_
 refine kO2 ?_
 by_cases he:i+1=m
 ·have d3:=d3 he
  refine Eg ac he rfl rfl rfl rfl rfl rfl rfl rfl rfl ?_;refine G4 ac rfl rfl rfl rfl rfl rfl rfl rfl rfl ?_;refine kW ?_;refine E6 ac (i:=i) (show i<=m by omega) (show i<c by omega) hc1 rfl rfl rfl rfl rfl rfl rfl rfl rfl rfl ?_;refine DR ac (cs':=ds++cG K6 1) (m:=m-i) (p:=(0+i)*8) (by omega) (by rw[Nat.zero_add];omega) (by rw[show m-i=1 by omega,show 0+i=0+(m-1) by omega];exact d3) rfl rfl rfl rfl rfl rfl rfl rfl (.vs rfl rfl rfl) rfl rfl ?_;refine nL ?_;refine bW ((tX (q:=0) rfl rfl (by omega)).tr (weak (s':=⟨[(0, .own 901 (m-1) 8 43)],[(901,some (ds++cG K6 1))]⟩) ⟨congrArg (fun z=>TV.own 901 z 8 43) (show i=m-1 by omega),trivial⟩ ⟨rfl,trivial⟩ rfl)) rfl ?_;exact zD
 have hq1:(0+(i+1)+(m-(i+1)))*8<=cs.length:=by rw[hcs];exact Nat.mul_le_mul_right _ (by omega)
 refine ly ac (show i+1<=m by omega) (show i+1<c by omega) rfl rfl rfl rfl rfl rfl rfl rfl rfl ?_;refine E4 ac (m1:=i) (m2:=m-(i+1)) (m3:=m-1) (p:=0) (by omega) (by omega) (by omega) d1 ?_ rfl rfl rfl rfl rfl rfl rfl rfl rfl rfl (.vs rfl rfl hq1 rfl) rfl rfl ?_
 ·rw[fh (l0 hB _)];rfl
 refine kW ?_;refine E6 ac (show m-1<=m by omega) (show m-1<c by omega) hc1 rfl rfl rfl rfl rfl rfl rfl rfl rfl rfl ?_;refine DR ac (cs':=ds++cG K6 1) (m:=m-(m-1)) (p:=(0+(m-1))*8) (by omega) (by rw[Nat.zero_add,List.length_append];omega) (by rw[show m-(m-1)=1 by omega];exact d2) rfl rfl rfl rfl rfl rfl rfl rfl (.vs rfl rfl rfl) rfl rfl ?_;refine nL ?_;refine bW (tX (q:=0) rfl rfl (by omega)) rfl ?_;exact zD
theorem BV (l:Tb) (n:L8):(gC l≠0/\Mu l n=(0,gC l)/\Bw l n=([],gC l))∨(gC l=0/\Mu l n=(0,4)/\Bw l n=([],4))∨(gC l=0/\bX l n<l.length/\Mu l n=((bX l n:Int),0)/\Bw l n=(if(l.eraseIdx (bX l n)).any (fun p=>decide (n∈ej p.2))=true then([],14)else(l.eraseIdx (bX l n),0))):=by
 unfold Mu Bw gt
 by_cases h:gC l=0
 ·by_cases hf:bX l n<l.length
  ·rw[if_pos h,if_pos h,if_pos hf,if_pos hf,if_neg (by omega)]
   exact .inr (.inr ⟨h,hf,rfl,rfl⟩)
  ·rw[if_pos h,if_pos h,if_neg hf,if_neg hf,if_pos (by omega)]
   exact .inr (.inl ⟨h,rfl,rfl⟩)
 ·rw[if_neg h,if_neg h]
  exact .inl ⟨h,rfl,rfl⟩
theorem qF (l:Tb) (n:L8) (hs:jP l) (hl:l.length<=500):aa Tryz.prog 40 [bF l,dL n] (CZ (Bw l n)):=by
 have cf:=pj l n hs (by omega);have ct:=s8 l (fun x hx=>pW x.2 (hs x hx).2.wd (by have:=(hs x hx).2.sz;omega)) (by omega);rcases BV l n with⟨h1,h2,h3⟩| ⟨h1,h2,h3⟩| ⟨h1,hf,h2,h3⟩
 ·rw[h2]at cf
  rw[h3];generalize gC l=z at *;refine kU func40 ?_;refine BW ?_;refine eC (T:=TT) rfl ?_ ?_
  ·exact bne_iff_ne.2 h1
  exact ax
 ·rw[h2]at cf
  rw[h3];refine kV func40 ?_;refine kC (cf) ?_;exact ax
 rw[h2]at cf;rw[h3];have cd:=(Qa hf (by omega)).swap 901 1003 rfl;have hsub:∀x∈l.eraseIdx (bX l n),x∈l:=fun x hx=>List.mem_of_mem_eraseIdx hx
 have hel:(l.eraseIdx (bX l n)).length=l.length-1:=by rw[List.length_eraseIdx,if_pos hf]
 have cc:=(pP (n:=n) (l.eraseIdx (bX l n)) (fun x hx=>Dm x n (hs x (hsub x hx)).2) (by omega)).swap 900 0 rfl
 have hcut:(bR (l.eraseIdx (bX l n))++cG K6 1).take ((l.length-1)*8)=bR (l.eraseIdx (bX l n)):=by
  rw[<- hel,<- dO,List.take_left]
 have hdp:bF (l.eraseIdx (bX l n))= .leaf (.sl (l.length-1) (bR (l.eraseIdx (bX l n)))):=by unfold bF;rw[hel]
 have hbig:=pm l n;clear hsub hel h2 h3 h1;generalize(l.eraseIdx (bX l n)).any (fun p=>decide (n∈ej p.2))=b at *;generalize hds:l.eraseIdx (bX l n)=ds at *;clear hds;rw[hdp]at cc;generalize bX l n=f at *;have hfin:(if b=true then(([]:Tb),(14:Int))else(ds,0))=if b=true then([],14)else(ds,0):=rfl
 refine kU func40 ?_;refine BW ?_;refine jo ct rfl rfl rfl rfl rfl trivial rfl rfl rfl rfl ?_
 refine kO2 ?_
 refine kJ ((f+1:Nat)) ?_;refine kD (cd) ?_;refine nL ?_;refine bW (((a7 (q:=8) rfl rfl).tr (zh (q:=8) ((l.length-1)*8) rfl)).tr (weak (s':=⟨[(8, .d (.leaf (.sl (l.length-1) (bR ds)))),(3, .box 0 0)],[(0,some (Bv n))]⟩) ⟨congrArg (fun z=>TV.d (.leaf (.sl (l.length-1) z))) hcut,rfl,trivial⟩ ⟨rfl,trivial⟩ rfl)) rfl ?_
 refine kO2 ?_
 refine kD (cc) ?_;cases b
 ·refine iT ?_
  show RV.tup _=RV.tup [bF ds,_];rw[hdp];rfl
 ·exact ax
def FT (f t:L8) (l:Tb) (k:Nat):Tb:=(l.take k).map (fun p=>(p.1,mT f t p.2))++l.drop k
theorem Ih (f t:L8) (l:Tb):FT f t l 0=l:=by simp[FT]
theorem EZ (f t:L8) (l:Tb) (k:Nat):(FT f t l k).length=l.length:=by
 unfold FT;rw[List.length_append,List.length_map,<- List.length_append,List.take_append_drop]
theorem Qt {f t:L8} {l:Tb} {k:Nat} {p:Pm} (h:l[k]? =some p):FT f t l k=(l.take k).map (fun p=>(p.1,mT f t p.2))++p::l.drop (k+1):=by
 obtain⟨h1,h2⟩:=List.getElem?_eq_some_iff.1 h;unfold FT;rw[List.drop_eq_getElem_cons h1,h2]
theorem Hg {f t:L8} {l:Tb} {k:Nat} {p:Pm} (h:l[k]? =some p):FT f t l (k+1)=(l.take k).map (fun p=>(p.1,mT f t p.2))++(p.1,mT f t p.2)::l.drop (k+1):=by
 unfold FT;rw[bi h,List.map_append,List.append_assoc];rfl
theorem nW (A:Tb) (p:Pm) (B:Tb):bR (A++p::B)=(bR A++[.val (vL p.1)])++(aR p.2++bR B):=by
 rw[jy,bR];show _++((.val (vL p.1)::aR p.2)++bR B)=_
 simp
theorem P0 {A B:Tb} {p:Pm} {k:Nat} (hk:A.length=k):((bR (A++p::B)).drop (k*8+1)).take 7=aR p.2:=by
 subst hk;have h1:(bR A++[(.val (vL p.1):AV)]).length=A.length*8+1:=by rw[List.length_append,dO];rfl
 rw[nW,<- h1,List.drop_left,show 7=(aR p.2).length from(pB p.2).symm,List.take_left]
theorem PG {A B:Tb} {p:Pm} {y:Rx} {k:Nat} (hk:A.length=k):aF (bR (A++p::B)) (k*8+1) (aR y)=bR (A++(p.1,y)::B):=by
 subst hk;have h1:(bR A++[(.val (vL p.1):AV)]).length=A.length*8+1:=by rw[List.length_append,dO];rfl
 rw[nW,ga h1,show(aR y).length=(aR p.2).length by rw[pB,pB],List.drop_left,nW,List.append_assoc]
theorem QD {A B:Tb} {p:Pm} {t:L8} {k:Nat} (hk:A.length=k):aF (bR (A++p::B)) (k*8) [.val (vL t)]=bR (A++(t,p.2)::B):=by
 subst hk;have h1:bR (A++p::B)=bR A++([.val (vL p.1)]++(aR p.2++bR B)):=by rw[nW,List.append_assoc]
 rw[h1,ga (dO A),nW];rfl
theorem LH {l:Tb} {k:Nat} {p q:Pm} (h:l[k]? =some p):l=l.take k++p::l.drop (k+1)/\l.set k q=l.take k++q::l.drop (k+1):=by
 obtain⟨h1,h2⟩:=List.getElem?_eq_some_iff.1 h
 constructor
 ·conv=>lhs;rw[<- List.take_append_drop k l,List.drop_eq_getElem_cons h1,h2]
 ·rw[List.set_eq_take_append_cons_drop,if_pos h1]
theorem QQ {l:Tb} (hl:lM l) {f t:L8} {p:Pm} (h:l[bX l f]? =some p) (hp:p.1=f):FT f t (l.set (bX l f) (t,p.2)) l.length=l.map (P6 f t):=by
 unfold FT;rw[List.take_of_length_le (by simp),List.drop_of_length_le (by simp),List.append_nil];refine List.ext_getElem? fun i=>?_
 rw[List.getElem?_map,List.getElem?_map]
 by_cases hi:bX l f=i
 ·subst hi
  have h1:=(List.getElem?_eq_some_iff.1 h).1;rw[List.getElem?_set_self h1,h]
  simp[P6,hp]
 ·rw[List.getElem?_set_ne hi]
  cases hx:l[i]? with
  |none=>rfl
  |some q=>
   have:q.1≠f:=fun e=>hi (hl.nd _ _ _ _ h hx (hp.trans e.symm))
   simp[P6,this]
theorem yP (l:Tb) (f t:L8) (hs:jP l) (ht:t.length<=60) (hl:l.length<=500):aa Tryz.prog 25 [bF l,dL f,dL t] (CZ (Lp l f t)):=by
 have cf:=pj l f hs (by omega);have ci:=lq t (by omega);have cx:=iy l t (by omega);have cc:=s8 l (fun x hx=>pW x.2 (hs x hx).2.wd (by have:=(hs x hx).2.sz;omega)) (by omega);rcases BV l f with⟨h1,h2,_⟩| ⟨h1,h2,_⟩| ⟨h1,hf,h2,_⟩
 ·rw[h2]at cf
  rw[show Lp l f t=([],gC l) by unfold Lp;rw[if_neg h1]];generalize gC l=z at *;refine kU func25 ?_;exact OZ
 ·have hnf:¬bX l f<l.length:=fun hf=>by
   unfold Mu gt at h2;rw[if_pos h1,if_pos hf,if_neg (by omega)]at h2
   injection h2 with _ h3
   cases h3
  rw[h2]at cf;rw[show Lp l f t=([],4) by unfold Lp;rw[if_pos h1,if_neg hnf]];refine kV func25 ?_;refine kC (cf) ?_;exact ax
 rw[h2]at cf
 have hr:Lp l f t=if n6 t=true then(if f≠t/\bX l t<l.length then([],5)else(l.map (P6 f t),0))else([],1):=by
  unfold Lp;rw[if_pos h1,if_pos hf]
 rw[hr];cases hb:n6 t with
 |false=>
  rw[hb]at ci;rw[if_neg (by simp)];refine kU func25 ?_;refine BW ?_;refine kC (ci) ?_;exact ax
 |true=>
 rw[hb]at ci;rw[if_pos rfl];have hok:=lz h1;obtain⟨p,hp,hpf⟩:=nh hf;have hx:gt l t=if bX l t<l.length then(bX l t:Int)else -1:=rfl
 by_cases hbad:f≠t/\bX l t<l.length
 ·rw[if_pos hbad]
  rw[hx,if_pos hbad.2]at cx;generalize bX l f=u at *;generalize bX l t=v at *;refine kU func25 ?_;refine BW ?_;refine kC (ci) ?_;refine kG ?_
  refine kO2 ?_
  refine aC rfl rfl rfl rfl rfl rfl rfl (gA (a:=f) (b:=t) hbad.1) ?_
  refine kO3 ?_
  refine kC (cx) ?_;refine kT ?_;exact ax
 rw[if_neg hbad];have hcx:f≠t->gt l t= -1:=fun h=>by rw[hx,if_neg (fun h2=>hbad ⟨h,h2⟩)]
 have hall:=QQ hok (t:=t) hp hpf;obtain⟨m1,m2⟩:= @LH l (bX l f) p (t,p.2) hp;have hst:= @QD (l.take (bX l f)) (l.drop (bX l f+1)) p t (bX l f) (by rw[List.length_take];omega);rw[<- m1,<- m2]at hst
 have hsl:∀x∈l.set (bX l f) (t,p.2),pe x.2:=fun x hx=>by
  rcases List.mem_or_eq_of_mem_set hx with hx|rfl
  ·exact(hs x hx).2
  ·exact(hs p (List.mem_of_getElem? hp)).2
 have hlen:(l.set (bX l f) (t,p.2)).length=l.length:=List.length_set;have hpl:=dO l;clear hx hr h2 m1 m2 hbad hok hpf;generalize l.map (P6 f t)=R at *;generalize l.set (bX l f) (t,p.2)=l1 at *;generalize gt l t=xi at *;generalize bX l f=u at *;refine kV func25 ?_;refine kC (cf) ?_;refine kN ?_;refine j3 ⟨[(0, .d (bF l)),(1, .d (dL f)),(2, .d (dL t)),(8, .d (dN .i64 u))],[]⟩ (fun s' hw=>?_) (fun R0 hR _=>?_)
 ·repeat refine bM (T:=TT) ?_
  refine bW hw rfl ?_;refine kO ?_;refine jo cc rfl rfl rfl rfl rfl trivial rfl rfl rfl rfl ?_;refine kG ?_
  refine kO3 ?_
  refine fY (i:=u) hf rfl rfl rfl rfl rfl rfl rfl rfl rfl ?_;refine kO ?_;refine Bc (show u*8<_ by rw[hpl];omega) hst rfl rfl rfl rfl rfl rfl rfl rfl rfl rfl ?_;refine kW ?_;refine aq Nat (fun k=>k<=l.length) (fun k=>⟨[(1, .d (dL f)),(2, .d (dL t)),(10, .own 1003 l.length 8 43),(44, .d (dN .i64 l.length)),(45, .d (dN .i64 k))],[(1003,some (bR (FT f t l1 k)))]⟩) (fun k=>l.length-k) 0 (Nat.zero_le _) (weak ⟨rfl,rfl,rfl,rfl,rfl,trivial⟩ ⟨congrArg (fun z=>some (bR z)) (Ih f t l1).symm,trivial⟩ rfl) ?_;intro k hk
  by_cases hlt:k<l.length
  ·obtain⟨q,hq⟩:∃q,l1[k]? =some q:=⟨l1[k]'(by omega),List.getElem?_eq_getElem _⟩
   have hsq:=hsl q (List.mem_of_getElem? hq);have c:=AA f t q.2 hsq.lw hsq.wd;have hA0:((l1.take k).map (fun p:Pm=>(p.1,mT f t p.2))).length=k:=by rw[List.length_map,List.length_take];omega
   have hld:=P0 (B:=l1.drop (k+1)) (p:=q) hA0;have hst2:=PG (B:=l1.drop (k+1)) (p:=q) (y:=mT f t q.2) hA0;rw[<- Qt hq]at hld hst2;rw[<- Hg hq]at hst2;have hrl:k*8+1+7<=(bR (FT f t l1 k)).length:=by rw[dO,EZ];omega
   obtain⟨o1,na1,xs1,nb1,ys1,nm1,n1,cs1,hA1⟩:=bz q.2;obtain⟨o2,na2,xs2,nb2,ys2,nm2,n2,cs2,hA2⟩:=bz (mT f t q.2);rw[show dR q.2= .agg (ab o1 na1 xs1 nb1 ys1 nm1 n1 cs1) from congrArg DV.agg hA1,show dR (mT f t q.2)= .agg (ab o2 na2 xs2 nb2 ys2 nm2 n2 cs2) from congrArg DV.agg hA2]at c;rw[hA1]at hld;rw[hA2]at hst2;generalize FT f t l1 k=lk at *;refine mR ?_;refine fY (i:=k) hlt rfl rfl rfl rfl rfl rfl rfl rfl rfl ?_;refine kO ?_;refine Ak (cs':=ab o1 na1 xs1 nb1 ys1 nm1 n1 cs1) hrl hld rfl rfl rfl rfl rfl rfl rfl rfl ?_
   refine kO2 ?_
   refine kC (c) ?_;refine fY (i:=k) hlt rfl rfl rfl rfl rfl rfl rfl rfl rfl ?_;refine kO ?_;refine jh (cs:=bR lk) hrl hst2 rfl rfl rfl rfl rfl rfl rfl rfl rfl rfl ?_;refine kW ?_;exact⟨k+1,hlt,by omega,weak ⟨rfl,rfl,rfl,rfl,ae (by omega) (by omega),trivial⟩ ⟨rfl,trivial⟩ rfl⟩
  ·obtain rfl:k=l.length:=by omega
   have hRl:R.length=l.length:=by rw[<- hall,EZ,hlen]
   rw[hall];refine kI ?_;refine wN ?_;refine bW (a7 (q:=10) rfl rfl) rfl ?_;refine iT ?_;show RV.tup _=RV.tup [bF R,_];rw[show bF R= .leaf (.sl l.length (bR R)) by unfold bF;rw[hRl]];rfl
 ·by_cases hft:f=t
  ·refine kW ?_
   refine kC (ci) ?_;refine kG ?_
   refine kO2 ?_
   refine aC rfl rfl rfl rfl rfl rfl rfl (fD (a:=f) (b:=t) hft) ?_;refine kW ?_;exact hR _ kw
  ·rw[hcx hft]at cx
   refine kW ?_;refine kC (ci) ?_;refine kG ?_
   refine kO2 ?_
   refine aC rfl rfl rfl rfl rfl rfl rfl (gA (a:=f) (b:=t) hft) ?_
   refine kO3 ?_
   refine kQ (cx) ?_;exact hR _ kw
theorem sQ {out:List L8}:∀(l:Tb) (nx:L8),(∀p∈l,p.1≠[])->(nx≠[]->l.foldl (ij out) nx≠[]/\Op.bytesLess nx (l.foldl (ij out) nx)=false)/\ ∀p∈l,pU out p=true->l.foldl (ij out) nx≠[]/\Op.bytesLess p.1 (l.foldl (ij out) nx)=false
 | [],nx,_=>⟨fun h=>⟨h,gE _⟩,fun p hp=>(by cases hp)⟩
 |p::r,nx,hne=>by
  have ih:=sQ (out:=out) r (ij out nx p) (fun q hq=>hne q (by simp[hq]))
  simp only[List.foldl_cons]
  by_cases h:pU out p=true/\(nx=[]∨Op.bytesLess p.1 nx=true)
  ·have e:ij out nx p=p.1:=if_pos h
   rw[e]at ih ⊢;have h1:=ih.1 (hne p (by simp));refine⟨fun hn=>⟨h1.1,?_⟩,fun q hq hc=>?_⟩
   ·have h2:=h.2.resolve_left hn
    cases h3:Op.bytesLess nx (r.foldl (ij out) p.1)
    ·rfl
    ·rw[dX h2 h3]at h1
     exact absurd h1.2 (by simp)
   ·rcases List.mem_cons.1 hq with rfl|hq
    ·exact h1
    ·exact ih.2 q hq hc
  ·have e:ij out nx p=nx:=if_neg h
   rw[e]at ih ⊢;refine⟨ih.1,fun q hq hc=>?_⟩;rcases List.mem_cons.1 hq with rfl|hq
   ·have hn:nx≠[]:=fun hn=>h ⟨hc, .inl hn⟩
    have hb:Op.bytesLess q.1 nx=false:=by
     cases hb:Op.bytesLess q.1 nx
     ·rfl
     ·exact absurd ⟨hc, .inr hb⟩ h
    have h1:=ih.1 hn;refine⟨h1.1,?_⟩;cases h3:Op.bytesLess q.1 (r.foldl (ij out) nx)
    ·rfl
    ·cases h4:Op.bytesLess nx q.1
     ·have:=i8 hb h4
      rw[this,h1.2]at h3;cases h3
     ·rw[dX h4 h3]at h1
      exact absurd h1.2 (by simp)
   ·exact ih.2 q hq hc
theorem IW {l m:Tb} (hne:∀p∈l,p.1≠[]) (h:∀p,p∈m↔p∈l) (out:List L8):pd m out=pd l out:=by
 have hne':∀p∈m,p.1≠[]:=fun p hp=>hne p ((h p).1 hp)
 have kl:=(sQ (out:=out) l [] hne).2;have km:=(sQ (out:=out) m [] hne').2
 by_cases h1:pd m out=[]
 ·by_cases h2:pd l out=[]
  ·rw[h1,h2]
  ·obtain⟨p,hp,hc,_⟩:=rv h2
   exact absurd h1 (km p ((h p).2 hp) hc).1
 ·obtain⟨p,hp,hc,e⟩:=rv h1
  have h3:=kl p ((h p).1 hp) hc;obtain⟨q,hq,hc',e'⟩:=rv (l:=l) (out:=out) h3.1;have h4:=km q ((h q).2 hq) hc';have h5:Op.bytesLess p.1 (pd l out)=false:=h3.2;have h6:Op.bytesLess q.1 (pd m out)=false:=h4.2;rw[e']at h5;rw[e]at h6;rw[e,e',i8 h5 h6]
theorem vS {l m:Tb} (hne:∀p∈l,p.1≠[]) (h:∀p,p∈m↔p∈l):∀(k:Nat) (out:List L8),fk m k out=fk l k out
 |0,out=>rfl
 |k+1,out=>by rw[fk,fk,IW hne h,vS hne h k]
theorem J1 {l:Tb}:(∀(i j:Nat) (p q:Pm),l[i]? =some p->l[j]? =some q->p.1=q.1->i=j)↔(l.map (·.1)).Nodup:=by
 constructor
 ·intro h
  refine List.nodup_iff_pairwise_ne.2 (List.pairwise_iff_getElem.2 fun i j hi hj hij e=>?_)
  simp only[List.length_map]at hi hj
  simp only[List.getElem_map]at e
  have:=h i j _ _ (List.getElem?_eq_getElem hi) (List.getElem?_eq_getElem hj) e;omega
 ·intro h i j p q hi hj e
  exact Oe (a:=p.1) h (by rw[List.getElem?_map,hi];rfl) (by rw[List.getElem?_map,hj,e];rfl)
theorem lM.perm {l m:Tb} (h:lM l) (hp:m.Perm l):lM m:=
 ⟨by rw[hp.length_eq];exact h.len,fun p hm=>h.nm p (hp.mem_iff.1 hm),fun p hm=>h.ex p (hp.mem_iff.1 hm),J1.2 ((hp.map _).nodup_iff.2 (J1.1 h.nd))⟩
theorem wG {l m:Tb} (h:lM l) (hp:m.Perm l):bf m=bf l:=by
 have hm:=h.perm hp
 have hall:m.all (fun p=>pQ p.2 (m.map (·.1)))=l.all (fun p=>pQ p.2 (l.map (·.1))):=by
  rw[Bool.eq_iff_iff]
  simp only[List.all_eq_true,rB,(hp.map _).mem_iff,hp.mem_iff]
 unfold bf;rw[Is h,Is hm,hall,hp.length_eq,vS (fun p hp=>h.ne hp) (fun p=>hp.mem_iff)]
theorem J8 {l m:Tb} (h:lM l) (hp:m.Perm l) (n:L8):BM m n=BM l n:=by
 have hm:=h.perm hp
 by_cases hn:∃p∈l,p.1=n
 ·obtain⟨p,h1,rfl⟩:=hn
  rw[h.fx h1,hm.fx (hp.mem_iff.2 h1)]
 ·have h1:¬bX l n<l.length:=fun h1=>hn (iC.1 h1)
  have h2:¬bX m n<m.length:=fun h2=>by
   obtain⟨p,h3,h4⟩:=iC.1 h2;exact hn ⟨p,hp.mem_iff.1 h3,h4⟩
  unfold BM;rw[List.getElem?_eq_none (by omega),List.getElem?_eq_none (by omega)]
theorem sv {l m:Tb} (h:∀n,BM m n=BM l n):∀(o:List L8) (env:EL),jk m o env=jk l o env
 | [],env=>rfl
 |n::r,env=>by
  simp only[jk,h n]
  split
  ·exact sv h r _
  ·rfl
theorem Af {l m:Tb} (h:lM l) (hp:m.Perm l):qc m=qc l:=by
 unfold qc;rw[wG h hp,sv (J8 h hp)]
theorem PI {l:Tb} (h:lM l) {k:Nat} {p:Pm} (hk:l[k]? =some p):(dl (l.eraseIdx k) p).Perm l:=by
 obtain⟨hlt,e⟩:=List.getElem?_eq_some_iff.1 hk
 have hn:¬bX (l.eraseIdx k) p.1<(l.eraseIdx k).length:=fun hl=>by
  obtain⟨q,hq,e1⟩:=iC.1 hl;obtain⟨i,hi,h2⟩:=List.mem_eraseIdx_iff_getElem?.1 hq;exact hi (h.nd _ _ _ _ h2 hk e1)
 unfold dl;rw[if_neg hn];refine(List.perm_append_singleton p _).trans ?_
 have h1:l=l.take k++p::l.drop (k+1):=by
  conv=>lhs;rw[<- List.take_append_drop k l,List.drop_eq_getElem_cons hlt,e]
 rw[List.eraseIdx_eq_take_drop_succ]
 conv=>rhs;rw[h1]
 exact List.perm_middle.symm
theorem QY {l m:Tb} {n:L8} (h:Bw l n=(m,0)):lM l/\ ∃p,l[bX l n]? =some p/\p.1=n/\m=l.eraseIdx (bX l n)/\(dl m p).Perm l:=by
 unfold Bw at h
 split at h
 ·rename_i hv
  split at h
  ·rename_i hf
   split at h
   ·cases h
   ·injection h with h1 _
    obtain⟨p,h2,h3⟩:=nh hf;exact⟨lz hv,p,h2,h3,h1.symm,by rw[<- h1];exact PI (lz hv) h2⟩
  ·cases h
 ·rename_i hv
  injection h with _ h2
  exact absurd h2 hv
theorem Hv.here {l:Tb} (hl:lM l) {p:Pm} {x:Rat × Int} (hp:p∈l) (h:Hv l p.1 x):∃f:L8->Rat × Int,(∀n∈xh (ia p.2),Hv l n (f n))/\bh (fun n=>some (f n)) (ia p.2)= .ok x:=by
 generalize hn:p.1=n at h;cases h with
 | @mk q _ f hq hf hx=>
  obtain⟨i,hi⟩:=List.getElem?_of_mem hp;obtain⟨j,hj⟩:=List.getElem?_of_mem hq;have:=hl.nd _ _ _ _ hi hj hn;subst this;rw[hi]at hj;cases hj;exact⟨f,hf,hx⟩
theorem Hv.mem {l:Tb} {n:L8} {x:Rat × Int} (h:Hv l n x):∃p∈l,p.1=n:=by
 cases h with
 |mk f hp _ _=>exact⟨_,hp,rfl⟩
theorem QO {l:Tb} (hf:lM l->I6 l) {env:EL} (h:qc l= .ok env) {p:Pm} (hp:p∈l) {x:Rat × Int} (hx:(p.1,x)∈env):bh (az env) (ia p.2)= .ok x:=by
 obtain⟨hl,_,hs,hk,hv,_⟩:=pV hf h;obtain⟨f,h1,h2⟩:=(hv _ hx).here hl hp;rw[<- h2];refine gc fun n hn=>?_
 have h3:=h1 n hn;obtain⟨u,hu⟩:=(hk n).2 h3.mem;have h5:u=f n:=(hv (n,u) hu).fn hl h3;rw[(tz hs).2 hu,h5]
theorem Lk {l:Tb} {n:L8} {out:List L8} (h:vq l n out []) {d:List L8} (hd:sM d) (hm:∀x,x∈d↔Bq l n x):(out.mergeSort fun x y=>decide (x<=y))=d:=
 oT (BZ h.nd) hd fun x=>by rw[IK,h.full,hm]
theorem QX {l:EL} (hs:fo l) {n:L8} {q:Nat} {x:L8 × (Rat × Int)} (hq:pM l n<=q) (h:l[q]? =some x):Op.bytesLess x.1 n=false:=by
 have hl:=(List.getElem?_eq_some_iff.1 h).1;have hx:l[pM l n]? =some (l[pM l n]'(by omega)):=List.getElem?_eq_getElem _;have h1:=Hp hx
 by_cases e:pM l n=q
 ·subst e;rw[hx]at h;cases h;exact h1
 ·have h2:=hs _ q _ _ (by omega) hx h
  cases h3:Op.bytesLess x.1 n
  ·rfl
  ·rw[dX h2 h3]at h1;cases h1
theorem RP (l:EL) (hs:fo l) (hl:l.length<=1000000) (s:List UInt8) (hn:∀x∈l,x.1≠s):aa Tryz.prog 75 [eU l,dL s] (.tup [dN .i64 (pM l s:Nat),dB false]):=by
 have hp1:=xL l s;have hp2:∀(q:Nat) x,q<pM l s->l[q]? =some x->Op.bytesLess x.1 s=true:=fun q x=>Ii
 have hp3:∀(q:Nat) x,pM l s<=q->l[q]? =some x->Op.bytesLess x.1 s=false:=fun q x=>QX hs
 generalize pM l s=p at *;refine kV func75 ?_
 refine aq (Nat × Nat) (fun x=>x.1<=p/\p<=x.2/\x.2<=l.length) (fun x=>⟨[(0, .d (eU l)),(1, .d (dL s)),(4, .d (dN .i64 0)),(5, .d (dB false)),(6, .d (dN .i64 l.length)),(7, .d (dN .i64 x.1)),(8, .d (dN .i64 x.2))],[]⟩) (fun x=>x.2-x.1) (0,l.length) ⟨Nat.zero_le _,hp1,Nat.le_refl _⟩
  kw ?_
 rintro⟨i,j⟩ ⟨h1,h2,h3⟩;dsimp only at h1 h2 h3 ⊢;refine kI ?_
 refine kO2 ?_
 by_cases hij:i<j
 ·refine Ie ?_
  refine el ?_;refine Au ?_;exact Ta
 ·have e1:i=p:=by omega
  have e2:j=p:=by omega
  subst e2;subst e1;refine kE ?_;refine jR ?_;refine kI ?_
  refine kO3 ?_
  by_cases hil:i<l.length
  ·have hx:l[i]? =some l[i]:=by simp[hil]
   have e:=hn _ (List.mem_of_getElem? hx);refine kT ?_;refine Ql ?_
   refine kO2 ?_
   exact NW
  ·refine kE ?_
   exact ax
theorem Th (xs:List Nat):Oa (aW xs)=true:=by
 unfold aW Oa
 simp[dp]
theorem Mw (x:QR):TY (cP x)=true:=by
 cases x with
 |error e=>rfl
 |ok y=>
  have h:∀q:Rat,(jS q y.2).all Oa=true:=fun q=>by
   show([AV.val _,aW _,AV.val _,aW _,AV.val _].all Oa)=true
   simp only[List.all_cons,List.all_nil,Th]
   rfl
  show(Q2 (.agg (jS y.1 y.2)) && (Q2 (dN .i64 0) && true))=true;rw[show Q2 (.agg (jS y.1 y.2))=true from h y.1];rfl
theorem QF {a b:Nat} {ca cb:List AV} (ha:bQ a=false) (hb:bQ b=false):∀j cs,(sB [(a,ca),(b,cb)]).bx j=some cs->bQ j=false:=fun j cs h=>by
 have e:=cV.1 h
 by_cases h1:j=a
 ·rw[h1];exact ha
 ·by_cases h2:j=b
  ·rw[h2];exact hb
  ·rw[show aA [(a,ca),(b,cb)]=[(a,some ca),(b,some cb)] from rfl,av _ _ (fun h=>h1 h.symm),av _ _ (fun h=>h2 h.symm)]at e;cases e
theorem QM (env:EL) (n:L8) (v:Rat × Int):pl 1 (au (env.map (·.1))) (pM env n) [.val (vL n)]=au ((f8 env n v).map (·.1)):=by
 unfold pl f8;rw[Nat.mul_one]
 simp[au,List.map_take,List.map_drop]
theorem QI (env:EL) (n:L8) (v:Rat × Int):pl 5 (j4 env) (pM env n) (jS v.1 v.2)=j4 (f8 env n v):=by
 unfold pl f8;rw[tl,sd,Ew,j4,List.append_assoc]
theorem Bg (l:List L8):a8 (au l)=true:=lD fun b hb=>by
 unfold au at hb;obtain⟨x,_,rfl⟩:=List.mem_map.1 hb;rfl
theorem PY {env:EL} {i:Nat} (h:env.length=i):eU env= .leaf (.sl i (au (env.map (·.1)))):=by
 rw[xt];unfold gM;rw[List.length_map,h]
abbrev Ra (l:Tb) (o:List L8) (i:Nat) (RN RV:List AV):AS:=⟨[(0, .d (bF l)),(23, .d (gM o)),(24, .d (dN .i64 o.length)),(25, .d (dN .i64 i)),(7,gV 5001 1 9 i),(8,gV 5002 5 50 i)],[(5001,gX RN i),(5002,gX RV i)]⟩
theorem Im {l:Tb} {o:List L8} {i:Nat} {a a' b b':List AV} (h1:a=a') (h2:b=b'):Ra l o i a b=Ra l o i a' b':=by rw[h1,h2]
theorem ko (l:Tb) (hs:jP l) (hl:l.length<=500) (hvs:(bf l).2=0->GN l):aa Tryz.prog 35 [bF l] (KY (qc l)):=by
 have co:=ir l hs (by omega)
 by_cases h0:(bf l).2=0
 case neg=>
  rw[zn h0];generalize(bf l).2=z at *;generalize(bf l).1=o at *;refine kV func35 ?_;refine kC (co) ?_;refine iX ?_;refine xl ?_;exact ax
 have hV:=hvs h0;obtain⟨o,ho⟩:∃o,(bf l).1=o:=⟨_,rfl⟩;obtain⟨hok,ht,hn⟩:=iH (l:=l) (o:=o) (by rw[<- ho,<- h0]);have hf:=hok.fx_of hs;have hvv:qc l=jk l o []:=by unfold qc;rw[if_pos h0,ho]
 rw[hvv];rw[h0,ho]at co;obtain⟨R,hR⟩:∃R,jk l o []=R:=⟨_,rfl⟩;rw[hR];clear hvv hvs h0 ho;refine kV func35 ?_;refine kQ (co) ?_;refine aq (Nat × EL) (fun x=>x.1<=o.length/\ta l (o.take x.1) x.2/\x.2.length=x.1/\jk l (o.drop x.1) x.2=R) (fun x=>Ra l o x.1 (au (x.2.map (·.1))) (j4 x.2)) (fun x=>o.length-x.1) (0,[]) ⟨Nat.zero_le _,by simpa using ta.nil l,rfl,hR⟩ kw ?_;rintro⟨i,env⟩ ⟨hi,hI,hel,hg⟩;dsimp only at hi hI hel hg ⊢;have hnm:=PY hel;have hvl:eT env= .leaf (.sl i (j4 env)):=by unfold eT;rw[hel]
 have hlN:(au (env.map (·.1))).length=i*1:=by rw[cL,List.length_map,hel,Nat.mul_one]
 have hlV:(j4 env).length=i*5:=by rw[xU,hel]
 have hoN:=Bg (env.map (·.1));have hoV:=yc env
 by_cases hil:i<o.length
 case neg=>
  rw[List.drop_of_length_le (by omega),jk]at hg;subst hg;unfold Ra;refine kI ?_;refine wN ?_;refine bW ((gR (q:=7) (J:=5001) (m:=i) (cs:=au (env.map (·.1))) (fun h=>by rw[List.eq_nil_of_length_eq_zero (hel.trans h)];rfl) rfl rfl).tr (gR (q:=8) (J:=5002) (m:=i) (cs:=j4 env) (fun h=>by rw[List.eq_nil_of_length_eq_zero (hel.trans h)];rfl) rfl rfl)) rfl ?_;refine iT ?_;show RV.tup _=RV.tup [eU env,eT env,_];rw[hnm,hvl];rfl
 obtain⟨nm,hx⟩:∃x,o[i]? =some x:=⟨o[i],by simp[hil]⟩;obtain⟨p,hp,hpn,hfx,hnd,hdep⟩:=ht.at hok hf hx;obtain⟨k,hk⟩:=List.getElem?_of_mem hp;have hkl:=(List.getElem?_eq_some_iff.1 hk).1;have cf:=iy l nm (by omega);rw[show gt l nm=(k:Nat) by unfold gt;rw[<- hpn,hok.fd hk,if_pos hkl]]at cf;obtain⟨e1,e2,e3⟩:=Cb hs hok hp;have ce:=dU hI.so (l:=env) (by omega) (fun x hx=>hV.hv _ _ (hI.hv x hx)) (ia p.2) e1 e2;rw[show dE (ia p.2)=dR p.2 from congrArg dR e3]at ce;rw[show o.drop i=nm::o.drop (i+1) by obtain⟨h,e⟩:=List.getElem?_eq_some_iff.1 hx;rw[List.drop_eq_getElem_cons h,e],jk,hfx]at hg;have hne:∀y∈env,y.1≠nm:=fun y hy e=>hnd ((hI.ky nm).2 ⟨y.2,by rw[<- e];exact hy⟩)
 have cb:=RP env hI.so (by omega) nm hne;have hps:=xL env nm;have hIs:= @ta.step l (o.take i) env hI p (by rw[hpn];exact hnd);have hIh:=fun x=> @ta.has l (o.take i) env hI p hp x hdep
 obtain⟨o1,na1,xs1,nb1,ys1,nm1,n1,cs1,hA,hB⟩:=aM p;have hat:∀(j:Nat) (a:AV),(a6 p.1 o1 na1 xs1 nb1 ys1 nm1 n1 cs1)[j]? =some a->(bR l)[k*8+j]? =some a:=fun j a h=>b6 l k p hk j a (by rw[hB];exact h)
 rw[show dR p.2= .agg (ab o1 na1 xs1 nb1 ys1 nm1 n1 cs1) from congrArg DV.agg hA]at ce;have hwd:=Mw (bh (az env) (ia p.2));have hins:=QM env nm;have hivs:=QI env nm
 have hnext:∀x:Rat × Int,bh (az env) (ia p.2)= .ok x->ta l (o.take (i+1)) (f8 env nm x):=fun x hev=>by
  have hI':=hIs (hIh x hev);rw[hpn,<- bi hx]at hI';exact hI'
 have hnl:∀x:Rat × Int,(f8 env nm x).length=i+1:=fun x=>by rw[tw,hel]
 clear hIs hIh hI hdep hnd hne;rw[hnm]at ce cb;rw[hvl]at ce;rw[hel]at hps;cases i with
 |zero=>
  rw[show au (env.map (·.1))=[] by rw[List.eq_nil_of_length_eq_zero hel];rfl]at ce cb hins;rw[show j4 env=[] by rw[List.eq_nil_of_length_eq_zero hel];rfl]at ce hivs
  unfold Ra;refine mR ?_;refine MY ?_;refine MA ?_;cases hev:bh (az env) (ia p.2)with
  |error z=>
   have hz:=cW hev;rw[hev]at ce hg hwd;dsimp only at hg;subst hg;refine kQ (ce) ?_;exact IT
  |ok x=>
   rw[hev]at ce hg hwd;dsimp only at hg;have hI':=hnext x hev;have hins:=hins x;have hivs:=hivs x;have hnl:=hnl x;rw[show pM env nm=0 by omega]at cb hins hivs;refine kQ (ce) ?_;refine kC (cb) ?_;refine Nv ?_;refine rH ((In [.val (vL nm)] rfl rfl).swap 902 13003 rfl) rfl rfl rfl rfl rfl ⟨rfl,trivial⟩ rfl rfl rfl rfl ?_
   refine kO3 ?_
   refine yT 13008 (cs:=jS x.1 x.2) ac rfl rfl rfl rfl rfl rfl rfl rfl rfl rfl rfl rfl rfl ?_;refine rH (((Kl (jS x.1 x.2) rfl rfl).swap 902 13008 rfl).swap 1003 1013 rfl) rfl rfl rfl rfl rfl ⟨rfl,trivial⟩ rfl rfl rfl rfl ?_;refine kW ?_;refine⟨(0+1,f8 env nm x),⟨hil,hI',hnl,hg⟩,by dsimp only;omega,Eq.mpr (congrArg (bu _) (Im (i:=0+1) hins.symm hivs.symm)) ?_⟩;exact bu.tr (b:=⟨[(7, .own 1003 (0+1) 1 9),(8, .own 1013 (0+1) 5 50),(0, .d (bF l)),(23, .d (gM o)),(24, .d (dN .i64 o.length)),(25, .d (dN .i64 (0+1:Nat)))],[(1003,some _),(1013,some _)]⟩) (weak ⟨rfl,rfl,rfl,rfl,rfl,ae (by omega) (by omega),trivial⟩ ⟨rfl,rfl,trivial⟩ rfl) (((aD (q:=7) (j:=1003) (j':=5001) rfl rfl rfl rfl).tr (aD (q:=8) (j:=1013) (j':=5002) rfl rfl rfl rfl)).tr kw)
 |succ i=>
  skip
  unfold Ra;refine mR ?_;refine MY ?_;refine MA ?_;cases hev:bh (az env) (ia p.2)with
  |error z=>
   have hz:=cW hev;rw[hev]at ce hg hwd;dsimp only at hg;subst hg;refine Pr ?_;exact IT
  |ok x=>
   rw[hev]at ce hg hwd;dsimp only at hg;have hI':=hnext x hev;have hins:=hins x;have hivs:=hivs x;have hnl:=hnl x
   skip
   refine Pr ?_;refine gr ((cb.rd (ts:=[.own 5001 (i+1) 1 9, .d (dL nm)]) (b:=[(5001,au (env.map (·.1)))]) rfl rfl)) rfl rfl rfl rfl rfl ⟨rfl,trivial⟩ rfl rfl rfl rfl ?_;refine Nv ?_;refine rH (((MM (m:=i+1) (i:=pM env nm) (x:=[.val (vL nm)]) hps (by omega) (by omega) hlN rfl hoN rfl).swap 901 5001 rfl).swap 902 13003 rfl) rfl rfl rfl rfl rfl ⟨rfl,rfl,trivial⟩ rfl rfl rfl rfl ?_
   refine kO3 ?_
   refine yT 13008 (cs:=jS x.1 x.2) ac rfl rfl rfl rfl rfl rfl rfl rfl rfl rfl rfl rfl rfl ?_;refine rH ((((Mx (m:=i+1) (i:=pM env nm) (x:=jS x.1 x.2) hps (by omega) (by omega) hlV rfl hoV rfl).swap 901 5002 rfl).swap 902 13008 rfl).swap 1003 1013 rfl) rfl rfl rfl rfl rfl ⟨rfl,rfl,trivial⟩ rfl rfl rfl rfl ?_;refine kW ?_;refine⟨(i+1+1,f8 env nm x),⟨hil,hI',hnl,hg⟩,by dsimp only;omega,Eq.mpr (congrArg (bu _) (Im (i:=i+1+1) hins.symm hivs.symm)) ?_⟩
   exact bu.tr (b:=⟨[(7, .own 1003 (i+1+1) 1 9),(8, .own 1013 (i+1+1) 5 50),(0, .d (bF l)),(23, .d (gM o)),(24, .d (dN .i64 o.length)),(25, .d (dN .i64 (i+1+1:Nat)))],[(1003,some _),(1013,some _)]⟩) (weak ⟨rfl,rfl,rfl,rfl,rfl,ae (by omega) (by omega),trivial⟩ ⟨rfl,rfl,trivial⟩ rfl) (((aD (q:=7) (j:=1003) (j':=5001) rfl rfl rfl rfl).tr (aD (q:=8) (j:=1013) (j':=5002) rfl rfl rfl rfl)).tr kw)
section
variable {P:Program} {T:TypeId->Option Ty} {n:Nat} {ops:Array Oper} {id:Nat} {draw:Bool} {K:AS->Prop} {s s1:AS} {k:Nat} {o:Oper} {os:List Oper} {fps:List FP}
theorem Sx {Q:AX->AS->Prop} (hw:bu s s1) (h:gy P T n (.region id ops draw) Q s1):gy P T n (.region id ops draw) Q s:=DU _ (.one hw) (fun _ e=>e ▸ h)
theorem Qu {x:Operand} {d j m q e:Nat} {cs:List AV} (h0:draw=false) (h1:gd ops s o=some true) (ho:o.op= .assign x) (hd:o.dst=some d) (h3:aH n o.dst=true) (hx:s.ev x= .own j m q e) (hj:s.bx j=some cs) (h:∀c,m<=c->c<=9223372036854775807->ak P T n ops id draw K (k+1) os ⟨(d, .vs j 0 m c q e)::s.t,s.b⟩ (aw ops o ⟨.junk,none⟩ []::fps)):ak P T n ops id draw K k (o::os) s fps:=by
 refine .alt (fun s'=>∃c,m<=c/\c<=9223372036854775807/\s'=⟨(d, .vs j 0 m c q e)::s.t,s.b⟩) h0 h1 (fun S0 w0 g a w K Q hM hK=>?_) (by rintro s' ⟨c,a1,a2,rfl⟩;exact h c a1 a2);refine m7 (s:=s) (.inr ho) n S0 w0 g a w K Q hM (d7 h3) fun g' a' w' h2=>?_
 have h5:s.eff o.dst ⟨s.ev x,none⟩=⟨(d, .own j m q e)::s.t,s.b⟩:=by rw[hd,hx];rfl
 rw[h5]at h2;obtain⟨s1,⟨c,c1,c2,rfl⟩,g2,h4⟩:=qJ (s:=⟨(d, .own j m q e)::s.t,s.b⟩) d (show _=TV.own j m q e from by simp[AS.tv,ah]) hj n S0 w0 a' w' ⟨g',h2⟩;obtain⟨g3,h6⟩:=AU n S0 w0 a' w' ⟨g2,h4⟩;exact hK _ ⟨c,c1,c2,rfl⟩ g3 a' w' h6
end
def UG (p m c:Nat):List L8->TV
 | []=> .d (.leaf (.sl 0 []))
 |_::_=> .vs 7002 p m c 1 9
def UD (Y:List AV):List L8->Option (List AV)
 | []=>none
 |_::_=>some Y
def CH (Y:List AV) (p:Nat) (l:List L8):Prop:=∃X:List AV,X.length=p/\Y=X++au l
theorem wj (l:List L8) (x:L8):au (l++[x])=au l++[.val (vL x)]:=by rw[lh];rfl
theorem CH.app {Y:List AV} {l:List L8} {x:L8} {p m:Nat} (h:CH Y p l) (hm:m=l.length):CH (aF Y ((p+m)*1) [.val (vL x)]) p (l++[x])/\(p+m)*1<=Y.length:=by
 obtain⟨X,hp,rfl⟩:=h;have h:= @ga (X++au l) [] [.val (vL x)] ((p+m)*1) (by rw[List.length_append,cL,hp,hm,Nat.mul_one]);rw[List.append_nil]at h;refine⟨⟨X,hp,?_⟩,by rw[List.length_append,cL,hp,hm,Nat.mul_one];exact Nat.le_refl _⟩;rw[h,wj,List.drop_nil,List.append_nil,List.append_assoc]
theorem CH.grow {Y:List AV} {l:List L8} {x:L8} {p m:Nat} (h:CH Y p l) (hm:m=l.length):CH ((Y.drop (p*1)).take (m*1)++[.val (vL x)]) 0 (l++[x])/\a8 ((Y.drop (p*1)).take (m*1))=true:=by
 obtain⟨X,hp,rfl⟩:=h;subst hm hp;rw[Nat.mul_one,Nat.mul_one,List.drop_left,List.take_of_length_le (Nat.le_of_eq (cL l))];exact⟨⟨[],rfl,by rw[wj];rfl⟩,Bg l⟩
theorem CH.at {Y:List AV} {l:List L8} {a:L8} {p:Nat} (h:CH Y p (a::l)):Y[(p+0)*1]? =some (.val (vL a)):=by
 obtain⟨X,hp,rfl⟩:=h;subst hp;rw[Nat.mul_one,Nat.add_zero,List.getElem?_append_right (Nat.le_refl _),Nat.sub_self];rfl
theorem CH.next {Y:List AV} {l:List L8} {a:L8} {p:Nat} (h:CH Y p (a::l)):CH Y (p+1) l:=by
 obtain⟨X,hp,rfl⟩:=h;exact⟨X++[.val (vL a)],by rw[List.length_append,hp];rfl,by rw[List.append_assoc];rfl⟩
theorem vq.len {l:Tb} {n:L8} {out td:List L8} (h:vq l n out td):out.length<=l.length:=by
 exact O5
theorem vq.add {l:Tb} {n a:L8} {out r:List L8} (h:vq l n out (a::r)) {p:Pm} (hp:p∈l) (h1:a∈ej p.2) (h2:p.1 ∉ out):vq l n (out++[p.1]) (a::(r++[p.1]))/\2*(l.length-(out++[p.1]).length)+(r++[p.1]).length<=2*(l.length-out.length)+r.length:=by
 obtain⟨out',r',e,h3,_,_,h4⟩:=h.step hp;rw[TM,if_pos ⟨h1,h2⟩]at e
 simp only[List.cons_append,Prod.mk.injEq,List.cons.injEq,true_and]at e
 obtain⟨rfl,rfl⟩:=e;exact⟨h3,h4⟩
abbrev Tt (l:Tb) (O:List L8) (Y:List AV) (p m c i:Nat):AS:=⟨(7,mg 7001 O)::[(0, .d (bF l)),(8, .vs 7002 p m c 1 9),(26, .d (bF l)),(27, .d (dN .i64 l.length)),(28, .d (dN .i64 i))],(7001,nU O)::[(7002,some Y)]⟩
theorem j8 (l:Tb) (n:L8) (hs:jP l) (hl:l.length<=500):aa Tryz.prog 31 [bF l,dL n] (.one (gM (gH l n))):=by
 have cf:=pj l n hs (by omega);rcases BV l n with⟨h1,h2,_⟩| ⟨h1,h2,_⟩| ⟨h1,hf,h2,_⟩
 ·rw[h2]at cf
  rw[show gH l n=[] by unfold gH;rw[if_neg fun h=>h1 h.1]];generalize gC l=z at *;refine kU func31 ?_;exact OZ
 ·have hnf:¬0<=gt l n:=fun hf=>by
   unfold Mu at h2;rw[if_pos h1,if_neg (by omega)]at h2
   injection h2 with _ h3
   cases h3
  rw[h2]at cf;rw[show gH l n=[] by unfold gH;rw[if_neg fun h=>hnf h.2]];refine kV func31 ?_;refine kC (cf) ?_;exact ax
 rw[h2]at cf
 have hdn:gH l n=K4 l n:=by
  unfold gH gt;rw[if_pos ⟨h1,by rw[if_pos hf];omega⟩]
 rw[hdn];have hD:∀O,vq l n O []->(O.mergeSort fun x y=>decide (x<=y))=K4 l n:=fun O hB=>Lk hB (rD l n) (fun x=>rF)
 generalize K4 l n=D at *;have hby:∀k,k<=2000->k*16<=140737488355328:=fun k hk=>by omega
 clear h1 h2 hdn;refine kV func31 ?_;refine kC (cf) ?_
 iterate 3 refine kG ?_
 refine kO ?_;refine yT 7002 (cs:=[.val (vL n)]) ac rfl rfl rfl rfl rfl rfl rfl rfl rfl rfl rfl rfl rfl ?_;refine Qu rfl rfl rfl rfl rfl rfl rfl fun c0 k1 k2=>?_
 refine nL ?_;refine aq (List L8 × List L8 × List AV × Nat × Nat × Nat) (fun x=>vq l n x.1 x.2.1/\CH x.2.2.1 x.2.2.2.1 x.2.1/\x.2.2.2.2.1=x.2.1.length/\x.2.1.length<=x.2.2.2.2.2/\x.2.2.2.2.2<=9223372036854775807/\2*(l.length-x.1.length)+x.2.1.length<=2*l.length+1) (fun x=>⟨[(7,mg 7001 x.1),(0, .d (bF l)),(8,UG x.2.2.2.1 x.2.2.2.2.1 x.2.2.2.2.2 x.2.1)],[(7001,nU x.1),(7002,UD x.2.2.1 x.2.1)]⟩) (fun x=>2*(l.length-x.1.length)+x.2.1.length) ([],[n],[.val (vL n)],0,1,c0) ⟨vq.start l n,⟨[],rfl,rfl⟩,rfl,k1,k2,by simp⟩ kw ?_;rintro⟨O,td,Y,p,m,c⟩ ⟨hB,hT,hm,hc1,hc2,hmu⟩;dsimp only at hB hT hm hc1 hc2 hmu ⊢;cases td with
 |nil=>
  have hsort:=hD O hB;have hO:=hB.len;cases O with
  |nil=>
   refine kW ?_;refine kC (Bm) ?_;refine iT ?_;rw[<- hsort,List.mergeSort_nil];rfl
  |cons b O=>
   have hms:((b::O).mergeSort fun x y=>decide (x<=y)).length=(b::O).length:=List.length_mergeSort _;have cs:=(E2 (l:=b::O) (by omega)).swap 901 7001 rfl;rw[hsort]at cs hms;refine kW ?_;refine kD (cs) ?_;refine nL ?_;refine bW (a7 (q:=7) rfl rfl) rfl ?_;refine iT ?_;show RV.one (.leaf (.sl (b::O).length (au D)))=RV.one (gM D);unfold gM;rw[hms]
 |cons a r=>
 have hOl:=hB.len;have hm1:m=r.length+1:=hm;refine kI ?_
 refine kO2 ?_
 refine kX ?_;refine aq (Nat × List L8 × List L8 × List AV × Nat × Nat × Nat) (fun y=>y.1<=l.length/\vq l n y.2.1 (a::y.2.2.1)/\CH y.2.2.2.1 y.2.2.2.2.1 (a::y.2.2.1)/\y.2.2.2.2.2.1=y.2.2.1.length+1/\(∀q∈l.take y.1,a∈ej q.2->q.1∈y.2.1)/\y.2.2.1.length+1<=y.2.2.2.2.2.2/\y.2.2.2.2.2.2<=9223372036854775807/\2*(l.length-y.2.1.length)+y.2.2.1.length<=2*(l.length-O.length)+r.length) (fun y=>Tt l y.2.1 y.2.2.2.1 y.2.2.2.2.1 y.2.2.2.2.2.1 y.2.2.2.2.2.2 y.1) (fun y=>l.length-y.1) (0,O,r,Y,p,m,c) ⟨Nat.zero_le _,hB,hT,hm1,by simp,hc1,hc2,Nat.le_refl _⟩ (by cases O<;>first|exact weak ⟨rfl,rfl,rfl,rfl,rfl,rfl,trivial⟩ ⟨rfl,trivial⟩ rfl|exact weak ⟨rfl,rfl,rfl,rfl,rfl,rfl,trivial⟩ ⟨rfl,rfl,trivial⟩ rfl) ?_;clear hB hT hm hm1 hc1 hc2 Y p m c
 rintro⟨i,O1,r1,Y,p,m,c⟩ ⟨hi,hB,hT,hm,hpr,hc1,hc2,hmu1⟩;dsimp only at hi hB hT hm hpr hc1 hc2 hmu1 ⊢;have hO1:=hB.len
 by_cases hil:i<l.length
 case neg=>
  have hBn:=hB.next fun q hq=>hpr q (by rw[List.take_of_length_le (by omega)];exact hq)
  have hTn:=hT.next;unfold Tt;cases r1 with
  |nil=>
   refine qL ?_;refine Eg (i:=1) ac hm.symm rfl rfl rfl rfl rfl rfl rfl rfl rfl ?_;refine kW ?_;exact⟨(O1,[],[],0,0,0),⟨hBn,⟨[],rfl,rfl⟩,rfl,Nat.le_refl _,by dsimp only;omega,by dsimp only[List.length_nil,List.length_cons]at *;omega⟩,by dsimp only[List.length_nil,List.length_cons]at *;omega,by cases O1<;>first|exact weak ⟨rfl,rfl,rfl,trivial⟩ trivial rfl|exact weak ⟨rfl,rfl,rfl,trivial⟩ ⟨rfl,trivial⟩ rfl⟩
  |cons b r2=>
   refine qL ?_;refine ly (i:=1) ac (show 1<=m by omega) (show 1<c by dsimp only[List.length_nil,List.length_cons]at *;omega) rfl rfl rfl rfl rfl rfl rfl rfl rfl ?_;refine kW ?_;exact⟨(O1,b::r2,Y,p+1,m-1,c-1),⟨hBn,hTn,by dsimp only[List.length_nil,List.length_cons]at *;omega,by dsimp only[List.length_nil,List.length_cons]at *;omega,by dsimp only;omega,by dsimp only[List.length_nil,List.length_cons]at *;omega⟩,by dsimp only[List.length_nil,List.length_cons]at *;omega,by cases O1<;>first|exact weak ⟨rfl,rfl,rfl,trivial⟩ ⟨rfl,trivial⟩ rfl|exact weak ⟨rfl,rfl,rfl,trivial⟩ ⟨rfl,rfl,trivial⟩ rfl⟩
 obtain⟨q,hx⟩:∃q,l[i]? =some q:=⟨l[i],by simp[hil]⟩;have hq:=List.mem_of_getElem? hx;have cu:=vk q a (hs q hq).2;have cc:=fC O1 q.1 (by omega);obtain⟨o1,na1,xs1,nb1,ys1,nm1,n1,cs1,hA,hQ⟩:=aM q;have hat:∀(j:Nat) (a:AV),(a6 q.1 o1 na1 xs1 nb1 ys1 nm1 n1 cs1)[j]? =some a->(bR l)[i*8+j]? =some a:=fun j a h=>b6 l i q hx j a (by rw[hQ];exact h)
 rw[show sW q= .agg (a6 q.1 o1 na1 xs1 nb1 ys1 nm1 n1 cs1) from congrArg DV.agg hQ]at cu;have hta:=hT.at
 have hp1:(decide (a∈ej q.2)=true->q.1∈O1)-> ∀z∈l.take (i+1),a∈ej z.2->z.1∈O1:=fun h z hz haz=>by
  rw[bi hx]at hz;rcases List.mem_append.1 hz with hz|hz
  ·exact hpr z hz haz
  ·rw[List.mem_singleton.1 hz]at haz ⊢;exact h (decide_eq_true haz)
 have hadd:decide (a∈ej q.2)=true->decide (q.1∈O1)=false->_:=fun h1 h2=>hB.add hq (of_decide_eq_true h1) (of_decide_eq_false h2)
 have hmem:decide (q.1∈O1)=true->q.1∈O1:=of_decide_eq_true
 have hp2:∀z∈l.take (i+1),a∈ej z.2->z.1∈O1++[q.1]:=fun z hz haz=>by
  rw[bi hx]at hz;rcases List.mem_append.1 hz with hz|hz
  ·exact List.mem_append_left _ (hpr z hz haz)
  ·rw[List.mem_singleton.1 hz];simp
 have hTa:=fun x=> @CH.app Y (a::r1) x p m hT hm
 have hTg:=fun x=> @CH.grow Y (a::r1) x p m hT hm
 have hml:m<=1500:=by dsimp only[List.length_cons]at *;omega
 generalize decide (a∈ej q.2)=b1 at *;generalize decide (q.1∈O1)=b2 at *;have hall:b1=false∨(b1=true/\b2=true)∨(b1=true/\b2=false):=by cases b1<;>cases b2<;>simp
 cases O1 with
 |nil=>
  unfold Tt;rcases hall with rfl| ⟨rfl,rfl⟩| ⟨rfl,rfl⟩
  ·refine FH ?_
   refine kW ?_;exact⟨(i+1,[],r1,Y,p,m,c),⟨hil,hB,hT,hm,hp1 (fun h=>by cases h),hc1,hc2,hmu1⟩,by dsimp only;omega,weak ⟨rfl,rfl,rfl,rfl,rfl,ae (by omega) (by omega),trivial⟩ ⟨rfl,trivial⟩ rfl⟩
  ·refine FH ?_
   refine kO4 ?_
   refine kQ (cc) ?_;exact⟨(i+1,[],r1,Y,p,m,c),⟨hil,hB,hT,hm,hp1 (fun _=>hmem rfl),hc1,hc2,hmu1⟩,by dsimp only;omega,weak ⟨rfl,rfl,rfl,rfl,rfl,ae (by omega) (by omega),trivial⟩ ⟨rfl,trivial⟩ rfl⟩
  ·obtain⟨hB2,hmu2⟩:=hadd rfl rfl
   obtain⟨hT2,hpl⟩:=hTa q.1;obtain⟨hT3,hob⟩:=hTg q.1;refine FH ?_
   refine kO4 ?_
   refine kQ (cc) ?_;refine gG 7003 (m1:=([]:List L8).length) (m2:=1) ac (by decide) (hby _ (by omega)) rfl rfl rfl rfl rfl rfl rfl rfl rfl rfl (.nil rfl rfl) rfl rfl rfl rfl ?_;refine kW ?_
   by_cases hroom:m+1<=c
   ·refine OC ?_
    refine⟨(i+1,([])++[q.1],r1++[q.1],aF Y ((p+m)*1) [.val (vL q.1)],p,m+1,c),⟨hil,hB2,hT2,by simp[hm],hp2,by simp;omega,hc2,by dsimp only at *;omega⟩,by dsimp only;omega,Eq.mpr (congrArg (bu _) (jY [(0, .d (bF l)),(8, .vs 7002 p (m+1) c 1 9),(26, .d (bF l)),(27, .d (dN .i64 l.length)),(28, .d (dN .i64 (i+1:Nat)))] [(7002,some (aF Y ((p+m)*1) [.val (vL q.1)]))] 7 7001 ([]) q.1 [])) ?_⟩
    exact bu.trans (b:=⟨[(7, .own 7003 (([]:List L8).length+1) 1 9),(0, .d (bF l)),(8, .vs 7002 p (m+1) c 1 9),(26, .d (bF l)),(27, .d (dN .i64 l.length)),(28, .d (dN .i64 (i+1:Nat)))],[(7003,some ((au ([])).take (([]:List L8).length*1)++[.val (vL q.1)])),(7002,some (aF Y ((p+m)*1) [.val (vL q.1)]))]⟩) (weak ⟨rfl,rfl,rfl,rfl,rfl,ae (by omega) (by omega),trivial⟩ ⟨rfl,rfl,trivial⟩ rfl) ((aD (q:=7) (j:=7003) (j':=7001) rfl rfl rfl rfl).trans kw)
   ·refine NI ?_
    refine nL ?_;refine Sx (bu.trans (b:=⟨[(7, .own 7003 (([]:List L8).length+1) 1 9),(0, .d (bF l)),(8, .own 7004 (m+1) 1 9),(26, .d (bF l)),(27, .d (dN .i64 l.length)),(28, .d (dN .i64 i))],[(7003,some ((au ([])).take (([]:List L8).length*1)++[.val (vL q.1)])),(7004,some ((Y.drop (p*1)).take (m*1)++[.val (vL q.1)]))]⟩) kw ((aD (q:=7) (j:=7003) (j':=7001) rfl rfl rfl rfl).trans (aD (q:=8) (j:=7004) (j':=7002) rfl rfl rfl rfl))) ?_;refine nv 8 rfl rfl fun c1 k3 k4=>?_
    refine bG (T:=TT) rfl ?_;refine kW ?_;refine⟨(i+1,([])++[q.1],r1++[q.1],(Y.drop (p*1)).take (m*1)++[.val (vL q.1)],0,m+1,c1),⟨hil,hB2,hT3,by simp[hm],hp2,by simp;omega,k4,by dsimp only at *;omega⟩,by dsimp only;omega,Eq.mpr (congrArg (bu _) (jY [(0, .d (bF l)),(8, .vs 7002 0 (m+1) c1 1 9),(26, .d (bF l)),(27, .d (dN .i64 l.length)),(28, .d (dN .i64 (i+1:Nat)))] [(7002,some ((Y.drop (p*1)).take (m*1)++[.val (vL q.1)]))] 7 7001 ([]) q.1 [])) ?_⟩;exact NB
 |cons b O1=>
  unfold Tt;rcases hall with rfl| ⟨rfl,rfl⟩| ⟨rfl,rfl⟩
  ·refine FH ?_
   refine kW ?_;exact⟨(i+1,(List.cons b O1),r1,Y,p,m,c),⟨hil,hB,hT,hm,hp1 (fun h=>by cases h),hc1,hc2,hmu1⟩,by dsimp only;omega,weak ⟨rfl,rfl,rfl,rfl,rfl,ae (by omega) (by omega),trivial⟩ ⟨rfl,rfl,trivial⟩ rfl⟩
  ·refine FH ?_
   refine Ov ?_;exact⟨(i+1,(List.cons b O1),r1,Y,p,m,c),⟨hil,hB,hT,hm,hp1 (fun _=>hmem rfl),hc1,hc2,hmu1⟩,by dsimp only;omega,weak ⟨rfl,rfl,rfl,rfl,rfl,ae (by omega) (by omega),trivial⟩ ⟨rfl,rfl,trivial⟩ rfl⟩
  ·obtain⟨hB2,hmu2⟩:=hadd rfl rfl
   obtain⟨hT2,hpl⟩:=hTa q.1;obtain⟨hT3,hob⟩:=hTg q.1;refine FH ?_;refine Ov ?_;refine gG 7003 (m1:=((List.cons b O1):List L8).length) (m2:=1) ac (by decide) (hby _ (by omega)) rfl rfl rfl rfl rfl rfl rfl rfl rfl rfl (.own rfl rfl) rfl rfl rfl rfl ?_;refine kW ?_
   by_cases hroom:m+1<=c
   ·refine OC ?_
    refine⟨(i+1,((List.cons b O1))++[q.1],r1++[q.1],aF Y ((p+m)*1) [.val (vL q.1)],p,m+1,c),⟨hil,hB2,hT2,by simp[hm],hp2,by simp;omega,hc2,by dsimp only at *;omega⟩,by dsimp only;omega,Eq.mpr (congrArg (bu _) (jY [(0, .d (bF l)),(8, .vs 7002 p (m+1) c 1 9),(26, .d (bF l)),(27, .d (dN .i64 l.length)),(28, .d (dN .i64 (i+1:Nat)))] [(7002,some (aF Y ((p+m)*1) [.val (vL q.1)]))] 7 7001 ((List.cons b O1)) q.1 [])) ?_⟩
    exact bu.trans (b:=⟨[(7, .own 7003 (((List.cons b O1):List L8).length+1) 1 9),(0, .d (bF l)),(8, .vs 7002 p (m+1) c 1 9),(26, .d (bF l)),(27, .d (dN .i64 l.length)),(28, .d (dN .i64 (i+1:Nat)))],[(7003,some ((au ((List.cons b O1))).take (((List.cons b O1):List L8).length*1)++[.val (vL q.1)])),(7002,some (aF Y ((p+m)*1) [.val (vL q.1)]))]⟩) (weak ⟨rfl,rfl,rfl,rfl,rfl,ae (by omega) (by omega),trivial⟩ ⟨rfl,rfl,trivial⟩ rfl) ((aD (q:=7) (j:=7003) (j':=7001) rfl rfl rfl rfl).trans kw)
   ·refine NI ?_
    refine nL ?_;refine Sx (bu.trans (b:=⟨[(7, .own 7003 (((List.cons b O1):List L8).length+1) 1 9),(0, .d (bF l)),(8, .own 7004 (m+1) 1 9),(26, .d (bF l)),(27, .d (dN .i64 l.length)),(28, .d (dN .i64 i))],[(7003,some ((au ((List.cons b O1))).take (((List.cons b O1):List L8).length*1)++[.val (vL q.1)])),(7004,some ((Y.drop (p*1)).take (m*1)++[.val (vL q.1)]))]⟩) kw ((aD (q:=7) (j:=7003) (j':=7001) rfl rfl rfl rfl).trans (aD (q:=8) (j:=7004) (j':=7002) rfl rfl rfl rfl))) ?_;refine nv 8 rfl rfl fun c1 k3 k4=>?_
    refine bG (T:=TT) rfl ?_;refine kW ?_;refine⟨(i+1,((List.cons b O1))++[q.1],r1++[q.1],(Y.drop (p*1)).take (m*1)++[.val (vL q.1)],0,m+1,c1),⟨hil,hB2,hT3,by simp[hm],hp2,by simp;omega,k4,by dsimp only at *;omega⟩,by dsimp only;omega,Eq.mpr (congrArg (bu _) (jY [(0, .d (bF l)),(8, .vs 7002 0 (m+1) c1 1 9),(26, .d (bF l)),(27, .d (dN .i64 l.length)),(28, .d (dN .i64 (i+1:Nat)))] [(7002,some ((Y.drop (p*1)).take (m*1)++[.val (vL q.1)]))] 7 7001 ((List.cons b O1)) q.1 [])) ?_⟩;exact NB
end Go.Proofs.YtmkggcjajcdlcaaGreatDoor
