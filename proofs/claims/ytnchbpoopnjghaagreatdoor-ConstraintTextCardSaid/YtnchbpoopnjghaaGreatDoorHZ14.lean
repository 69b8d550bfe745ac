/- Parts of a proof: contracts of the functions that the laws reach. -/
import Derived.Test.YtnchbpoopnjghaaGreatDoorHZ13
set_option maxHeartbeats 100000000
set_option linter.all false
open Go.Proofs.Tryz
namespace Go.Proofs.YtnchbpoopnjghaaGreatDoor
open Go.RowKit
section
variable {P:Program} {T:TypeId->Option Ty} {n:Nat} {ops:Array Oper} {id:Nat} {draw:Bool} {K:AS->Prop} {s:AS} {k:Nat} {o:Oper} {os:List Oper} {fps:List FP}
theorem J8 {t:TypeId} {ty:Ty} {parts:Array (Nat × Operand)} {l:List (Nat × DV)} {cs:List AV} (hT:a8 P t ty) (hag:ty.flds≠[]) (h1:gd ops s o=some true) (ho:o.op= .build t parts) (hp:ej s parts.toList=some l) (hf:mK (wD ty) ty.zero l=some cs)
 (h3:aL n o.dst=true) (h4:fh draw ops (aB ops o ⟨.d (.agg cs),none⟩ []) k fps=true) (h:au P T n ops id draw K (k+1) os (s.eff o.dst ⟨.d (.agg cs),none⟩) (aB ops o ⟨.d (.agg cs),none⟩ []::fps)):au P T n ops id draw K k (o::os) s fps:=by
 refine .run h1 (.gen fun s2 ht2 _=>?_) h3 h4 h
 have hp2:ej s2 parts.toList=some l:=by
  rw[<- hp];have:∀x∈parts.toList,s2.ev x.2=s.ev x.2:=fun x hx=>ax ht2 (by rw[ho];simp only[Op.operands];simp;exact⟨x.1,by simpa using hx⟩)
  generalize parts.toList=ps at this;clear hp hf
  induction ps with
  |nil=>rfl
  |cons x r ih=>
   simp only[ej]
   rw[this x (by simp),ih fun y hy=>this y (by simp[hy])]
 exact ph hT ho hag hp2 hf
end
def Vs:Ty:=⟨true,5,88,[.val (.int .i64 0), .nl, .nl, .nl, .val (.int .i64 0)],[(0,1,false),(1,1,false),(2,1,false),(3,1,false),(4,1,false)],none,false,false,none⟩
theorem Rc:a8 Tryz.prog 30 Vs:=by
 have h:=ah 30 _ rfl;refine⟨h.size,h.bytes,h.und,⟨.agg #[.int .i64 0, .slice none 0 0, .slice none 0 0, .slice none 0 0, .int .i64 0],by kernel_rfl,fun S w=>?_⟩,rfl⟩;exact CM.cons (.val rfl) (CM.cons .nl (CM.cons .nl (CM.cons .nl (CM.cons (.val rfl) (CM.nil _ _)))))
def Cd (l:List Int):AV:=match l with
 | []=> .nl
 |a::r=> .ow 701 (a::r).length 1 3
def nM (l:List Int):Option (List AV):=match l with
 | []=>none
 |a::r=>some (di (a::r))
def AQ (l:List Int):AV:=match l with
 | []=> .nl
 |a::r=> .ow 703 (a::r).length 1 3
def VW (o:Option Cn):RV:=match o with
 |some c=> .tup [dC c,dN .i64 0]
 |none=> .tup [dC (II 0),dN .i64 2]
def Ur (l:List Rx):AV:=match l with
 | []=> .nl
 |a::r=> .ow 705 (a::r).length 7 40
def SX (l:List Rx):Option (List AV):=match l with
 | []=>none
 |a::r=>some (dY (a::r))
theorem xH:∀(l:List Rx) (x:Rx),dY (l++[x])=dY l++aR x
 | [],x=>by simp[dY]
 |a::r,x=>by rw[List.cons_append,dY,xH r x,dY,List.append_assoc]
theorem DC (l:List Rx) (x:Rx):Ur (l++[x])= .ow 705 (l.length+1) 7 40:=by cases l<;>simp[Ur]
theorem Cx (l:List Rx) (x:Rx):SX (l++[x])=some ((dY l).take (l.length*7)++aR x):=by
 have h:(dY l).take (l.length*7)=dY l:=List.take_of_length_le (Nat.le_of_eq (Dh l));rw[h,<- xH];cases l<;>simp[SX]
theorem uu (pf:PF) (t:L8):∀l:List L8,jE pf (l++[t])=(match jE pf l,pf t with
  |some es, .ok e=>some (es++[e])
  |_,_=>none)
 | []=>by
  rw[List.nil_append,jE,jE];cases pf t<;>rfl
 |a::r=>by
  rw[List.cons_append,jE,jE,uu pf t r];cases pf a with
  |error _=>rfl
  |ok x=>cases jE pf r<;>cases pf t<;>rfl
theorem xK (pf:PF) {t:L8} {q:Nat × Int} (h:pf t= .error q):∀l:List L8,t∈l->jE pf l=none
 | [],hm=>by cases hm
 |a::r,hm=>by
  rw[jE];rcases List.mem_cons.1 hm with rfl|hm
  ·rw[h]
  ·cases pf a with
   |error _=>rfl
   |ok x=>simp only[xK pf h r hm,Option.map_none]
def Qp (s va:L8) (ws:List L8) (k:Int) (i:Nat) (d:Cn):AS:=
 ⟨[(0, .d (dL s)),(5, .d (dL va)),(10, .box 801 0),(11, .d (dL (f9 k))),(12, .d (dL (gw k))),(53, .d (n5 ws)),(54, .d (dN .i64 ws.length)),(55, .d (dN .i64 i)),(2, .box 0 0)],
  [(0,some (cC 0 [] [] [] 0)),(801,some [.val (.int .i64 k),Cd d.ps,AQ d.cs, .nl, .val (.int .i64 d.s)]),(701,nM d.ps),(703,nM d.cs)]⟩
theorem qn (ps:List Int) (z:Int):Cd (ps++[z])= .ow 701 (ps.length+1) 1 3:=by cases ps<;>simp[Cd]
theorem p7 (ps:List Int) (z:Int):AQ (ps++[z])= .ow 703 (ps.length+1) 1 3:=by cases ps<;>simp[AQ]
theorem gS (ps:List Int) (z:Int):nM (ps++[z])=some ((di ps).take (ps.length*1)++[.val (.int .i64 z)]):=by
 have h:(di ps).take (ps.length*1)=di ps:=by rw[Nat.mul_one];exact List.take_of_length_le (Nat.le_of_eq (Jh ps))
 rw[h];cases ps<;>simp[nM,di]
theorem m0 {b:L8} (hb:b≠[]):∀n (s:L8),s.length<=n-> ∀w∈Lib.split s b,w.length<=s.length
 |0,s,hs,w,hw=>by
  rw[uz hb]at hw;have hc:= @Ax s b
  split at hw
  ·rename_i hh
   have:=oU hb hh;omega
  ·rw[List.mem_singleton.1 hw];exact hc.1
 |n+1,s,hs,w,hw=>by
  rw[uz hb]at hw;have hc:= @Ax s b
  split at hw
  ·rename_i hh
   have h1:=oU hb hh;rcases List.mem_cons.1 hw with rfl|hw
   ·exact hc.1
   ·have:=m0 hb n _ (by omega) w hw
    omega
  ·rw[List.mem_singleton.1 hw];exact hc.1
theorem Aw (s:L8) (hl:s.length<=65536) (pf:PF) (h:L8) (va:L8) (hb:Bool) (hc:Lib.cut s [32,61,32]=(h,va,hb)) (n:L8) (ws:List L8) (hw:Lib.split h [32]=n::ws)
 (hP:va≠[]-> ∀t∈Lib.split va [44,32],aa Tryz.prog 35 [dL t] (FR (pf t))) (hE:va≠[]-> ∀t∈Lib.split va [44,32],∀q v,pf t= .error (q,v)->v≠0) (d:Cn) (hd:ws.foldl (sS (tB n)) (II (tB n))=d) (O:Option Cn)
 (hO0:∀es,(if va=[]then some []else jE pf (Lib.split va [44,32]))=some es-> ∃tF eF,aa Tryz.prog 25 [.agg (cC (tB n) d.ps d.cs (es.map rx) d.s)] (.tup [dL tF,dN .i64 eF])/\O=if eF=0/\tF=s then some ⟨tB n,d.ps,d.cs,es.map rx,d.s⟩else none)
 (hO1:(if va=[]then some []else jE pf (Lib.split va [44,32]))=none->O=none):
 aa Tryz.prog 26 [dL s] (VW O):=by
 have cCut:=Ll s [32,61,32] (by omega);rw[hc]at cCut;have hhl:h.length<=s.length/\va.length<=s.length:=by have:= @Ax s [32,61,32];rw[hc]at this;exact this
 have cW:=xW h [32] (by omega) (by simp);rw[hw]at cW;have cK:=F8 n;have hsz:=aF s
 have hwm:∀w∈ws,w.length<=65536:=fun w hm=>by
  have:=m0 (b:=[32]) (by simp) h.length h (Nat.le_refl _) w (by rw[hw];exact List.mem_cons_of_mem _ hm);omega
 have hwl:ws.length<=1000000:=by
  have h1:=oz (s:=h) (b:=[32]) (by simp);have h2:=Lib.count_le h [32];rw[hw,List.length_cons]at h1;omega
 have cD:=qv (tB n);unfold UQ at cK;generalize tB n=k at *;have hn0:= @eX (n::ws) 0 n rfl;refine kV func26 ?_;refine gU (T:=TT) rfl ?_ ?_
 ·exact decide_eq_false (by omega)
 refine dV ?_;refine kW ?_;refine kQ (cCut) ?_;refine kQ (cW) ?_;refine aG (i:=0) (cs':=[.val (vL n)]) (Nat.zero_lt_succ _) hn0 (Nat.zero_lt_succ 0) rfl rfl rfl rfl rfl rfl rfl rfl ?_;refine kO ?_;refine kC (cK) ?_;refine kN ?_;refine kI ?_;refine kO ?_;refine J8 Rc (by simp[Vs]) rfl rfl rfl rfl rfl rfl ?_;refine Lj 801 ah rfl rfl rfl rfl rfl rfl rfl rfl rfl rfl ?_;refine kW ?_;refine kC (cD) ?_;refine kN ?_;obtain⟨dk,ps,cs,vs,sd⟩:=d;dsimp only at hO0;refine u6 ⟨[(0, .d (dL s)),(5, .d (dL va)),(10, .box 801 0),(2, .box 0 0)],[(0,some (cC 0 [] [] [] 0)),(801,some [.val (.int .i64 k), .sl ps.length (di ps), .sl cs.length (di cs), .nl, .val (.int .i64 sd)])]⟩ (fun s' hw=>?_) (fun R hR hret=>?_)
 ·clear cCut cW cK cD hn0 hwm hwl hd
  have cT:=xW va [44,32] (by omega) (by simp)
  have htl:(Lib.split va [44,32]).length<=65538:=by
   have h1:=oz (s:=va) (b:=[44,32]) (by simp);have h2:=Lib.count_le va [44,32];omega
  obtain⟨ts,hts⟩:∃ts,Lib.split va [44,32]=ts:=⟨_,rfl⟩;rw[hts]at cT htl hP hE hO0 hO1;clear hts;refine RB (α:=List Ex) (fun es=>⟨[(0, .d (dL s)),(10, .box 801 0),(2, .box 0 0)],[(0,some (cC 0 [] [] [] 0)),(801,some (cC k ps cs (es.map rx) sd))]⟩) (fun es=>(if va=[]then some []else jE pf ts)=some es) (fun es hes s2 hw2=>?_) (fun R hR hret=>?_)
  ·obtain⟨tF,eF,cF,rfl⟩:=hO0 es hes
   clear hO0 hO1 hP hE hes cT;refine bu ?_;refine eT hw2 rfl ?_;refine kO ?_;refine kC (cF) ?_;refine kG ?_;refine kO ?_
   by_cases he:eF=0
   ·refine kB false ?_ ?_
    ·exact(by simp[he])
    refine kO3 ?_
    by_cases hts:tF=s
    ·rw[if_pos ⟨he,hts⟩]
     refine aq rfl rfl rfl rfl rfl rfl rfl (gx (a:=tF) (b:=s) hts) ?_;exact ap
    ·rw[if_neg (fun h=>hts h.2)]
     refine aq rfl rfl rfl rfl rfl rfl rfl (iA (a:=tF) (b:=s) hts) ?_;exact ap
   ·rw[if_neg (fun h=>he h.1)]
    refine kB true ?_ ?_
    ·exact(by simp[he])
    exact ap
  ·refine bu ?_
   refine eT hw rfl ?_;refine kO ?_
   by_cases hva:va=[]
   ·rw[if_pos hva]at hR
    refine aq rfl rfl rfl rfl rfl rfl rfl (gx (a:=va) (b:=[]) hva) ?_;refine kW ?_;exact hR [] rfl _ (aJ.trans (kx (i:=801) (off:=3) rfl rfl) kw)
   ·rw[if_neg hva]at hR hO1
    replace hP:=hP hva
    replace hE:=hE hva
    refine aq rfl rfl rfl rfl rfl rfl rfl (iA (a:=va) (b:=[]) hva) ?_;refine kW ?_;refine kQ (cT) ?_;refine ay (Nat × List Ex) (fun x=>x.1<=ts.length/\jE pf (ts.take x.1)=some x.2/\x.2.length<=x.1) (fun x=>⟨[(0, .d (dL s)),(10, .box 801 0),(2, .box 0 0),(95, .d (n5 ts)),(96, .d (dN .i64 ts.length)),(97, .d (dN .i64 x.1))],[(0,some (cC 0 [] [] [] 0)),(801,some [.val (.int .i64 k), .sl ps.length (di ps), .sl cs.length (di cs),Ur (x.2.map rx), .val (.int .i64 sd)]),(705,SX (x.2.map rx))]⟩) (fun x=>ts.length-x.1) (0,[]) ⟨Nat.zero_le _,rfl,Nat.le_refl _⟩ kw ?_;rintro⟨i,es⟩ ⟨hi,hes,hel⟩;dsimp only at hi hes hel ⊢
    by_cases hlt:i<ts.length
    ·obtain⟨t,hx⟩:∃t,ts[i]? =some t:=⟨ts[i],by simp[hlt]⟩
     have hm:=List.mem_of_getElem? hx;have hat:=eX hx;have c1:=hP t hm;have hsn:=uu pf t (ts.take i);rw[<- bn hx,hes]at hsn;cases hpt:pf t with
     |error q=>
      obtain⟨q,v⟩:=q;have hv:=hE t hm q v hpt;rw[hpt]at c1;have hO:=hO1 (xK pf hpt ts hm);subst hO;clear hO0 hO1 hP hE cT hsn;cases es with
      |nil=>
       exact N7
      |cons e0 er=>
       exact N7
     |ok e=>
      rw[hpt]at hsn c1;have hsn:jE pf (ts.take (i+1))=some (es++[e]):=hsn;have hmap:(es++[e]).map rx=es.map rx++[rx e]:=by simp
      clear hO0 hO1 hP hE cT;obtain⟨o1,na1,xs1,nb1,ys1,nm1,n1,cs1,hX⟩:=aM (rx e);have c1:aa Tryz.prog 35 [dL t] (.tup [dR (rx e),dN .i64 0,dN .i64 0]):=c1;rw[show dR (rx e)= .agg (ab o1 na1 xs1 nb1 ys1 nm1 n1 cs1) from congrArg DV.agg hX]at c1;cases es with
      |nil=>
       refine Qh ?_;refine zd ?_;refine io ?_;refine oJ 706 (m1:=0) (m2:=1) ah (by decide) (by decide) rfl rfl rfl rfl rfl rfl rfl rfl rfl rfl (.nil rfl rfl) rfl rfl rfl rfl ?_;refine kW ?_;refine⟨(i+1,[]++[e]),⟨hlt,hsn,Nat.succ_le_succ hel⟩,by dsimp only;omega,?_⟩;show aJ _ ⟨[(0, .d (dL s)),(10, .box 801 0),(2, .box 0 0),(95, .d (n5 ts)),(96, .d (dN .i64 ts.length)),(97, .d (dN .i64 (i+1:Nat)))],[(0,some (cC 0 [] [] [] 0)),(801,some [.val (.int .i64 k), .sl ps.length (di ps), .sl cs.length (di cs),Ur ((([]:List Ex)++[e]).map rx), .val (.int .i64 sd)]),(705,SX ((([]:List Ex)++[e]).map rx))]⟩;rw[hmap,DC,Cx,hX]
       exact aJ.trans (b:=⟨[(0, .d (dL s)),(10, .box 801 0),(2, .box 0 0),(95, .d (n5 ts)),(96, .d (dN .i64 ts.length)),(97, .d (dN .i64 (i+1:Nat)))],[(0,some (cC 0 [] [] [] 0)),(801,some [.val (.int .i64 k), .sl ps.length (di ps), .sl cs.length (di cs), .ow 706 ((([]:List Ex).map rx).length+1) 7 40, .val (.int .i64 sd)]),(706,some ((dY (([]:List Ex).map rx)).take ((([]:List Ex).map rx).length*7)++ab o1 na1 xs1 nb1 ys1 nm1 n1 cs1))]⟩) (weak ⟨rfl,rfl,rfl,rfl,rfl,an (by omega) (by omega),trivial⟩ ⟨rfl,rfl,rfl,trivial⟩ rfl) ((bU (i:=801) (off:=3) (j:=706) (j':=705) (m:=(([]:List Ex).map rx).length+1) (k:=7) (e:=40) rfl rfl rfl rfl rfl rfl rfl).trans kw)
      |cons e0 er=>
       have hml:((e0::er).map rx).length<=65538:=by rw[List.length_map];omega
       refine Qh ?_;refine zd ?_;refine io ?_;refine oJ 706 (m1:=((e0::er).map rx).length) (m2:=1) ah (by decide) (by show(((e0::er).map rx).length+1)*112<=_;omega) rfl rfl rfl rfl rfl rfl rfl rfl rfl rfl (.own rfl rfl) rfl rfl rfl rfl ?_;refine kW ?_;refine⟨(i+1,(e0::er)++[e]),⟨hlt,hsn,by rw[List.length_append];exact Nat.succ_le_succ hel⟩,by dsimp only;omega,?_⟩;show aJ _ ⟨[(0, .d (dL s)),(10, .box 801 0),(2, .box 0 0),(95, .d (n5 ts)),(96, .d (dN .i64 ts.length)),(97, .d (dN .i64 (i+1:Nat)))],[(0,some (cC 0 [] [] [] 0)),(801,some [.val (.int .i64 k), .sl ps.length (di ps), .sl cs.length (di cs),Ur (((e0::er)++[e]).map rx), .val (.int .i64 sd)]),(705,SX (((e0::er)++[e]).map rx))]⟩;rw[hmap,DC,Cx,hX]
       exact aJ.trans (b:=⟨[(0, .d (dL s)),(10, .box 801 0),(2, .box 0 0),(95, .d (n5 ts)),(96, .d (dN .i64 ts.length)),(97, .d (dN .i64 (i+1:Nat)))],[(0,some (cC 0 [] [] [] 0)),(801,some [.val (.int .i64 k), .sl ps.length (di ps), .sl cs.length (di cs), .ow 706 (((e0::er).map rx).length+1) 7 40, .val (.int .i64 sd)]),(706,some ((dY ((e0::er).map rx)).take (((e0::er).map rx).length*7)++ab o1 na1 xs1 nb1 ys1 nm1 n1 cs1))]⟩) (weak ⟨rfl,rfl,rfl,rfl,rfl,an (by omega) (by omega),trivial⟩ ⟨rfl,rfl,rfl,trivial⟩ rfl) ((bU (i:=801) (off:=3) (j:=706) (j':=705) (m:=((e0::er).map rx).length+1) (k:=7) (e:=40) rfl rfl rfl rfl rfl rfl rfl).trans kw)
    ·rw[List.take_of_length_le (by omega)]at hes
     clear hO0 hO1 hP hE cT;cases es with
     |nil=>
      refine HZ ?_;exact hR [] hes _ (aJ.trans (kx (i:=801) (off:=3) rfl rfl) kw)
     |cons e0 er=>
      refine HZ ?_;exact hR (e0::er) hes _ (aJ.trans (eN (i:=801) (off:=3) (j:=705) rfl rfl rfl rfl rfl) kw)
 ·refine kW ?_
  refine QV (m:=ws.length+1) (i:=1) (d:=ws.length) ah (by show(aO (n::ws)).length<=_;rw[iB];simp) (by omega) (by omega) rfl rfl rfl rfl rfl rfl rfl rfl ?_;refine kW ?_;refine ay (Nat × Cn) (fun x=>x.1<=ws.length/\(ws.take x.1).foldl (sS k) (II k)=x.2/\x.2.ps.length<=x.1/\x.2.cs.length<=x.1) (fun x=>Qp s va ws k x.1 x.2) (fun x=>ws.length-x.1) (0,II k) ⟨Nat.zero_le _,rfl,Nat.zero_le _,Nat.zero_le _⟩ kw ?_;rintro⟨i,d⟩ ⟨hi,hfold,hpl,hcl⟩;dsimp only at hi hfold hpl hcl ⊢
  by_cases hlt:i<ws.length
  ·obtain⟨w,hx⟩:∃w,ws[i]? =some w:=⟨ws[i],by simp[hlt]⟩
   have hat:=eX hx;have hwb:=hwm w (List.mem_of_getElem? hx);have c1:=uo 112 w (by omega);have c2:=uo 99 w (by omega);obtain⟨dk,ps,cs,vs,sd⟩:=d;have hf2:(ws.take (i+1)).foldl (sS k) (II k)=sS k ⟨dk,ps,cs,vs,sd⟩ w:=by rw[bn hx,List.foldl_append,hfold];rfl
   dsimp only at hpl hcl;clear cCut cK cD cW hn0 hwm hP hfold
   have hcase:(∃z,mj 112 w=some z)∨(mj 112 w=none/\ ∃z,mj 99 w=some z)∨(mj 112 w=none/\mj 99 w=none/\w=f9 k)∨(mj 112 w=none/\mj 99 w=none/\w≠f9 k/\w=gw k)∨(mj 112 w=none/\mj 99 w=none/\w≠f9 k/\w≠gw k):=by
    cases h1:mj 112 w with
    |some z=>exact .inl ⟨z,rfl⟩
    |none=>cases h2:mj 99 w with
     |some z=>exact .inr (.inl ⟨rfl,z,rfl⟩)
     |none=>
      by_cases e1:w=f9 k
      ·exact .inr (.inr (.inl ⟨rfl,rfl,e1⟩))
      ·by_cases e2:w=gw k
       ·exact .inr (.inr (.inr (.inl ⟨rfl,rfl,e1,e2⟩)))
       ·exact .inr (.inr (.inr (.inr ⟨rfl,rfl,e1,e2⟩)))
   rcases hcase with⟨z,h1⟩| ⟨h1,z,h2⟩| ⟨h1,h2,e1⟩| ⟨h1,h2,e1,e2⟩| ⟨h1,h2,e1,e2⟩
   ·have hr:sS k ⟨dk,ps,cs,vs,sd⟩ w=⟨dk,ps++[z],cs,vs,sd⟩:=by unfold sS;rw[h1]
    rw[Dx h1,h1]at c1;rw[hr]at hf2;rcases ps with _| ⟨p0,pr⟩<;>rcases cs with _| ⟨q0,qr⟩
    all_goals
     unfold Qp;refine kI ?_;refine kX ?_;refine aG (i:=i) (cs':=[.val (vL w)]) hlt hat (Nat.zero_lt_succ 0) rfl rfl rfl rfl rfl rfl rfl rfl ?_;refine kW ?_;refine kQ (c1) ?_
    ·refine GX ?_
     refine⟨(i+1,⟨dk,([])++[z],[],vs,sd⟩),⟨hlt,hf2,by dsimp only at *;rw[List.length_append];exact Nat.succ_le_succ hpl,Nat.le_succ_of_le hcl⟩,by dsimp only;omega,?_⟩;show aJ _ ⟨[(0, .d (dL s)),(5, .d (dL va)),(10, .box 801 0),(11, .d (dL (f9 k))),(12, .d (dL (gw k))),(53, .d (n5 ws)),(54, .d (dN .i64 ws.length)),(55, .d (dN .i64 (i+1:Nat))),(2, .box 0 0)],[(0,some (cC 0 [] [] [] 0)),(801,some [.val (.int .i64 k),Cd (([])++[z]),AQ ([]), .nl, .val (.int .i64 sd)]),(701,nM (([])++[z])),(703,nM ([]))]⟩;rw[qn,gS]
     exact aJ.trans (b:=⟨[(0, .d (dL s)),(5, .d (dL va)),(10, .box 801 0),(11, .d (dL (f9 k))),(12, .d (dL (gw k))),(53, .d (n5 ws)),(54, .d (dN .i64 ws.length)),(55, .d (dN .i64 (i+1:Nat))),(2, .box 0 0)],[(0,some (cC 0 [] [] [] 0)),(801,some [.val (.int .i64 k), .ow 702 (([]:List Int).length+1) 1 3,AQ ([]), .nl, .val (.int .i64 sd)]),(702,some ((di ([])).take (([]:List Int).length*1)++[.val (.int .i64 z)])),(703,nM ([]))]⟩) (weak ⟨rfl,rfl,rfl,rfl,rfl,rfl,rfl,an (by omega) (by omega),rfl,trivial⟩ ⟨rfl,rfl,rfl,trivial⟩ rfl) ((bU (i:=801) (off:=1) (j:=702) (j':=701) (m:=([]:List Int).length+1) (k:=1) (e:=3) rfl rfl rfl rfl rfl rfl rfl).trans kw)
    ·refine GX ?_
     refine⟨(i+1,⟨dk,([])++[z],q0::qr,vs,sd⟩),⟨hlt,hf2,by dsimp only at *;rw[List.length_append];exact Nat.succ_le_succ hpl,Nat.le_succ_of_le hcl⟩,by dsimp only;omega,?_⟩;show aJ _ ⟨[(0, .d (dL s)),(5, .d (dL va)),(10, .box 801 0),(11, .d (dL (f9 k))),(12, .d (dL (gw k))),(53, .d (n5 ws)),(54, .d (dN .i64 ws.length)),(55, .d (dN .i64 (i+1:Nat))),(2, .box 0 0)],[(0,some (cC 0 [] [] [] 0)),(801,some [.val (.int .i64 k),Cd (([])++[z]),AQ (q0::qr), .nl, .val (.int .i64 sd)]),(701,nM (([])++[z])),(703,nM (q0::qr))]⟩;rw[qn,gS]
     exact aJ.trans (b:=⟨[(0, .d (dL s)),(5, .d (dL va)),(10, .box 801 0),(11, .d (dL (f9 k))),(12, .d (dL (gw k))),(53, .d (n5 ws)),(54, .d (dN .i64 ws.length)),(55, .d (dN .i64 (i+1:Nat))),(2, .box 0 0)],[(0,some (cC 0 [] [] [] 0)),(801,some [.val (.int .i64 k), .ow 702 (([]:List Int).length+1) 1 3,AQ (q0::qr), .nl, .val (.int .i64 sd)]),(702,some ((di ([])).take (([]:List Int).length*1)++[.val (.int .i64 z)])),(703,nM (q0::qr))]⟩) (weak ⟨rfl,rfl,rfl,rfl,rfl,rfl,rfl,an (by omega) (by omega),rfl,trivial⟩ ⟨rfl,rfl,rfl,rfl,trivial⟩ rfl) ((bU (i:=801) (off:=1) (j:=702) (j':=701) (m:=([]:List Int).length+1) (k:=1) (e:=3) rfl rfl rfl rfl rfl rfl rfl).trans kw)
    ·refine Db ?_
     refine⟨(i+1,⟨dk,(p0::pr)++[z],[],vs,sd⟩),⟨hlt,hf2,by dsimp only at *;rw[List.length_append];exact Nat.succ_le_succ hpl,Nat.le_succ_of_le hcl⟩,by dsimp only;omega,?_⟩;show aJ _ ⟨[(0, .d (dL s)),(5, .d (dL va)),(10, .box 801 0),(11, .d (dL (f9 k))),(12, .d (dL (gw k))),(53, .d (n5 ws)),(54, .d (dN .i64 ws.length)),(55, .d (dN .i64 (i+1:Nat))),(2, .box 0 0)],[(0,some (cC 0 [] [] [] 0)),(801,some [.val (.int .i64 k),Cd ((p0::pr)++[z]),AQ ([]), .nl, .val (.int .i64 sd)]),(701,nM ((p0::pr)++[z])),(703,nM ([]))]⟩;rw[qn,gS]
     exact aJ.trans (b:=⟨[(0, .d (dL s)),(5, .d (dL va)),(10, .box 801 0),(11, .d (dL (f9 k))),(12, .d (dL (gw k))),(53, .d (n5 ws)),(54, .d (dN .i64 ws.length)),(55, .d (dN .i64 (i+1:Nat))),(2, .box 0 0)],[(0,some (cC 0 [] [] [] 0)),(801,some [.val (.int .i64 k), .ow 702 ((p0::pr:List Int).length+1) 1 3,AQ ([]), .nl, .val (.int .i64 sd)]),(702,some ((di (p0::pr)).take ((p0::pr:List Int).length*1)++[.val (.int .i64 z)])),(703,nM ([]))]⟩) (weak ⟨rfl,rfl,rfl,rfl,rfl,rfl,rfl,an (by omega) (by omega),rfl,trivial⟩ ⟨rfl,rfl,rfl,trivial⟩ rfl) ((bU (i:=801) (off:=1) (j:=702) (j':=701) (m:=(p0::pr:List Int).length+1) (k:=1) (e:=3) rfl rfl rfl rfl rfl rfl rfl).trans kw)
    ·refine Db ?_
     refine⟨(i+1,⟨dk,(p0::pr)++[z],q0::qr,vs,sd⟩),⟨hlt,hf2,by dsimp only at *;rw[List.length_append];exact Nat.succ_le_succ hpl,Nat.le_succ_of_le hcl⟩,by dsimp only;omega,?_⟩;show aJ _ ⟨[(0, .d (dL s)),(5, .d (dL va)),(10, .box 801 0),(11, .d (dL (f9 k))),(12, .d (dL (gw k))),(53, .d (n5 ws)),(54, .d (dN .i64 ws.length)),(55, .d (dN .i64 (i+1:Nat))),(2, .box 0 0)],[(0,some (cC 0 [] [] [] 0)),(801,some [.val (.int .i64 k),Cd ((p0::pr)++[z]),AQ (q0::qr), .nl, .val (.int .i64 sd)]),(701,nM ((p0::pr)++[z])),(703,nM (q0::qr))]⟩;rw[qn,gS]
     exact aJ.trans (b:=⟨[(0, .d (dL s)),(5, .d (dL va)),(10, .box 801 0),(11, .d (dL (f9 k))),(12, .d (dL (gw k))),(53, .d (n5 ws)),(54, .d (dN .i64 ws.length)),(55, .d (dN .i64 (i+1:Nat))),(2, .box 0 0)],[(0,some (cC 0 [] [] [] 0)),(801,some [.val (.int .i64 k), .ow 702 ((p0::pr:List Int).length+1) 1 3,AQ (q0::qr), .nl, .val (.int .i64 sd)]),(702,some ((di (p0::pr)).take ((p0::pr:List Int).length*1)++[.val (.int .i64 z)])),(703,nM (q0::qr))]⟩) (weak ⟨rfl,rfl,rfl,rfl,rfl,rfl,rfl,an (by omega) (by omega),rfl,trivial⟩ ⟨rfl,rfl,rfl,rfl,trivial⟩ rfl) ((bU (i:=801) (off:=1) (j:=702) (j':=701) (m:=(p0::pr:List Int).length+1) (k:=1) (e:=3) rfl rfl rfl rfl rfl rfl rfl).trans kw)
   ·have hr:sS k ⟨dk,ps,cs,vs,sd⟩ w=⟨dk,ps,cs++[z],vs,sd⟩:=by unfold sS;rw[h1,h2]
    rw[h1]at c1;rw[Dx h2,h2]at c2;rw[hr]at hf2;generalize E7 112 w=z1 at *;rcases ps with _| ⟨p0,pr⟩<;>rcases cs with _| ⟨q0,qr⟩
    all_goals
     unfold Qp;refine kI ?_;refine kX ?_;refine aG (i:=i) (cs':=[.val (vL w)]) hlt hat (Nat.zero_lt_succ 0) rfl rfl rfl rfl rfl rfl rfl rfl ?_;refine kW ?_;refine kQ (c1) ?_;refine kQ (c2) ?_
    ·refine Gy ?_
     refine⟨(i+1,⟨dk,[],([])++[z],vs,sd⟩),⟨hlt,hf2,Nat.le_succ_of_le hpl,by dsimp only at *;rw[List.length_append];exact Nat.succ_le_succ hcl⟩,by dsimp only;omega,?_⟩;show aJ _ ⟨[(0, .d (dL s)),(5, .d (dL va)),(10, .box 801 0),(11, .d (dL (f9 k))),(12, .d (dL (gw k))),(53, .d (n5 ws)),(54, .d (dN .i64 ws.length)),(55, .d (dN .i64 (i+1:Nat))),(2, .box 0 0)],[(0,some (cC 0 [] [] [] 0)),(801,some [.val (.int .i64 k),Cd ([]),AQ (([])++[z]), .nl, .val (.int .i64 sd)]),(701,nM ([])),(703,nM (([])++[z]))]⟩;rw[p7,gS]
     exact aJ.trans (b:=⟨[(0, .d (dL s)),(5, .d (dL va)),(10, .box 801 0),(11, .d (dL (f9 k))),(12, .d (dL (gw k))),(53, .d (n5 ws)),(54, .d (dN .i64 ws.length)),(55, .d (dN .i64 (i+1:Nat))),(2, .box 0 0)],[(0,some (cC 0 [] [] [] 0)),(801,some [.val (.int .i64 k),Cd ([]), .ow 704 (([]:List Int).length+1) 1 3, .nl, .val (.int .i64 sd)]),(704,some ((di ([])).take (([]:List Int).length*1)++[.val (.int .i64 z)])),(701,nM ([]))]⟩) (weak ⟨rfl,rfl,rfl,rfl,rfl,rfl,rfl,an (by omega) (by omega),rfl,trivial⟩ ⟨rfl,rfl,rfl,trivial⟩ rfl) ((bU (i:=801) (off:=2) (j:=704) (j':=703) (m:=([]:List Int).length+1) (k:=1) (e:=3) rfl rfl rfl rfl rfl rfl rfl).trans kw)
    ·refine Dz ?_
     refine⟨(i+1,⟨dk,[],(q0::qr)++[z],vs,sd⟩),⟨hlt,hf2,Nat.le_succ_of_le hpl,by dsimp only at *;rw[List.length_append];exact Nat.succ_le_succ hcl⟩,by dsimp only;omega,?_⟩;show aJ _ ⟨[(0, .d (dL s)),(5, .d (dL va)),(10, .box 801 0),(11, .d (dL (f9 k))),(12, .d (dL (gw k))),(53, .d (n5 ws)),(54, .d (dN .i64 ws.length)),(55, .d (dN .i64 (i+1:Nat))),(2, .box 0 0)],[(0,some (cC 0 [] [] [] 0)),(801,some [.val (.int .i64 k),Cd ([]),AQ ((q0::qr)++[z]), .nl, .val (.int .i64 sd)]),(701,nM ([])),(703,nM ((q0::qr)++[z]))]⟩;rw[p7,gS]
     exact aJ.trans (b:=⟨[(0, .d (dL s)),(5, .d (dL va)),(10, .box 801 0),(11, .d (dL (f9 k))),(12, .d (dL (gw k))),(53, .d (n5 ws)),(54, .d (dN .i64 ws.length)),(55, .d (dN .i64 (i+1:Nat))),(2, .box 0 0)],[(0,some (cC 0 [] [] [] 0)),(801,some [.val (.int .i64 k),Cd ([]), .ow 704 ((q0::qr:List Int).length+1) 1 3, .nl, .val (.int .i64 sd)]),(704,some ((di (q0::qr)).take ((q0::qr:List Int).length*1)++[.val (.int .i64 z)])),(701,nM ([]))]⟩) (weak ⟨rfl,rfl,rfl,rfl,rfl,rfl,rfl,an (by omega) (by omega),rfl,trivial⟩ ⟨rfl,rfl,rfl,trivial⟩ rfl) ((bU (i:=801) (off:=2) (j:=704) (j':=703) (m:=(q0::qr:List Int).length+1) (k:=1) (e:=3) rfl rfl rfl rfl rfl rfl rfl).trans kw)
    ·refine Gy ?_
     refine⟨(i+1,⟨dk,p0::pr,([])++[z],vs,sd⟩),⟨hlt,hf2,Nat.le_succ_of_le hpl,by dsimp only at *;rw[List.length_append];exact Nat.succ_le_succ hcl⟩,by dsimp only;omega,?_⟩;show aJ _ ⟨[(0, .d (dL s)),(5, .d (dL va)),(10, .box 801 0),(11, .d (dL (f9 k))),(12, .d (dL (gw k))),(53, .d (n5 ws)),(54, .d (dN .i64 ws.length)),(55, .d (dN .i64 (i+1:Nat))),(2, .box 0 0)],[(0,some (cC 0 [] [] [] 0)),(801,some [.val (.int .i64 k),Cd (p0::pr),AQ (([])++[z]), .nl, .val (.int .i64 sd)]),(701,nM (p0::pr)),(703,nM (([])++[z]))]⟩;rw[p7,gS]
     exact aJ.trans (b:=⟨[(0, .d (dL s)),(5, .d (dL va)),(10, .box 801 0),(11, .d (dL (f9 k))),(12, .d (dL (gw k))),(53, .d (n5 ws)),(54, .d (dN .i64 ws.length)),(55, .d (dN .i64 (i+1:Nat))),(2, .box 0 0)],[(0,some (cC 0 [] [] [] 0)),(801,some [.val (.int .i64 k),Cd (p0::pr), .ow 704 (([]:List Int).length+1) 1 3, .nl, .val (.int .i64 sd)]),(704,some ((di ([])).take (([]:List Int).length*1)++[.val (.int .i64 z)])),(701,nM (p0::pr))]⟩) (weak ⟨rfl,rfl,rfl,rfl,rfl,rfl,rfl,an (by omega) (by omega),rfl,trivial⟩ ⟨rfl,rfl,rfl,rfl,trivial⟩ rfl) ((bU (i:=801) (off:=2) (j:=704) (j':=703) (m:=([]:List Int).length+1) (k:=1) (e:=3) rfl rfl rfl rfl rfl rfl rfl).trans kw)
    ·refine Dz ?_
     refine⟨(i+1,⟨dk,p0::pr,(q0::qr)++[z],vs,sd⟩),⟨hlt,hf2,Nat.le_succ_of_le hpl,by dsimp only at *;rw[List.length_append];exact Nat.succ_le_succ hcl⟩,by dsimp only;omega,?_⟩;show aJ _ ⟨[(0, .d (dL s)),(5, .d (dL va)),(10, .box 801 0),(11, .d (dL (f9 k))),(12, .d (dL (gw k))),(53, .d (n5 ws)),(54, .d (dN .i64 ws.length)),(55, .d (dN .i64 (i+1:Nat))),(2, .box 0 0)],[(0,some (cC 0 [] [] [] 0)),(801,some [.val (.int .i64 k),Cd (p0::pr),AQ ((q0::qr)++[z]), .nl, .val (.int .i64 sd)]),(701,nM (p0::pr)),(703,nM ((q0::qr)++[z]))]⟩;rw[p7,gS]
     exact aJ.trans (b:=⟨[(0, .d (dL s)),(5, .d (dL va)),(10, .box 801 0),(11, .d (dL (f9 k))),(12, .d (dL (gw k))),(53, .d (n5 ws)),(54, .d (dN .i64 ws.length)),(55, .d (dN .i64 (i+1:Nat))),(2, .box 0 0)],[(0,some (cC 0 [] [] [] 0)),(801,some [.val (.int .i64 k),Cd (p0::pr), .ow 704 ((q0::qr:List Int).length+1) 1 3, .nl, .val (.int .i64 sd)]),(704,some ((di (q0::qr)).take ((q0::qr:List Int).length*1)++[.val (.int .i64 z)])),(701,nM (p0::pr))]⟩) (weak ⟨rfl,rfl,rfl,rfl,rfl,rfl,rfl,an (by omega) (by omega),rfl,trivial⟩ ⟨rfl,rfl,rfl,rfl,trivial⟩ rfl) ((bU (i:=801) (off:=2) (j:=704) (j':=703) (m:=(q0::qr:List Int).length+1) (k:=1) (e:=3) rfl rfl rfl rfl rfl rfl rfl).trans kw)
   ·have hr:sS k ⟨dk,ps,cs,vs,sd⟩ w=⟨dk,ps,cs,vs,1⟩:=by unfold sS;rw[h1,h2];exact if_pos e1
    rw[h1]at c1;rw[h2]at c2;rw[hr]at hf2;generalize E7 112 w=z1 at *;generalize E7 99 w=z2 at *;rcases ps with _| ⟨p0,pr⟩<;>rcases cs with _| ⟨q0,qr⟩
    all_goals
     unfold Qp;refine kI ?_;refine kX ?_;refine aG (i:=i) (cs':=[.val (vL w)]) hlt hat (Nat.zero_lt_succ 0) rfl rfl rfl rfl rfl rfl rfl rfl ?_;refine kW ?_;refine kQ (c1) ?_;refine kC (c2) ?_
     iterate 2 refine kG ?_
     refine kO2 ?_
     refine aq rfl rfl rfl rfl rfl rfl rfl (bv (a:=w) (b:=f9 k) e1) ?_;refine kW ?_
    ·exact⟨(i+1,⟨dk,[],[],vs,1⟩),⟨hlt,hf2,Nat.le_succ_of_le hpl,Nat.le_succ_of_le hcl⟩,by dsimp only;omega,weak ⟨rfl,rfl,rfl,rfl,rfl,rfl,rfl,an (by omega) (by omega),rfl,trivial⟩ ⟨rfl,rfl,trivial⟩ rfl⟩
    ·exact⟨(i+1,⟨dk,[],q0::qr,vs,1⟩),⟨hlt,hf2,Nat.le_succ_of_le hpl,Nat.le_succ_of_le hcl⟩,by dsimp only;omega,weak ⟨rfl,rfl,rfl,rfl,rfl,rfl,rfl,an (by omega) (by omega),rfl,trivial⟩ ⟨rfl,rfl,rfl,trivial⟩ rfl⟩
    ·exact⟨(i+1,⟨dk,p0::pr,[],vs,1⟩),⟨hlt,hf2,Nat.le_succ_of_le hpl,Nat.le_succ_of_le hcl⟩,by dsimp only;omega,weak ⟨rfl,rfl,rfl,rfl,rfl,rfl,rfl,an (by omega) (by omega),rfl,trivial⟩ ⟨rfl,rfl,rfl,trivial⟩ rfl⟩
    ·exact⟨(i+1,⟨dk,p0::pr,q0::qr,vs,1⟩),⟨hlt,hf2,Nat.le_succ_of_le hpl,Nat.le_succ_of_le hcl⟩,by dsimp only;omega,weak ⟨rfl,rfl,rfl,rfl,rfl,rfl,rfl,an (by omega) (by omega),rfl,trivial⟩ ⟨rfl,rfl,rfl,rfl,trivial⟩ rfl⟩
   ·have hr:sS k ⟨dk,ps,cs,vs,sd⟩ w=⟨dk,ps,cs,vs,(-1)⟩:=by unfold sS;rw[h1,h2];exact(if_neg e1).trans (if_pos e2)
    rw[h1]at c1;rw[h2]at c2;rw[hr]at hf2;generalize E7 112 w=z1 at *;generalize E7 99 w=z2 at *;rcases ps with _| ⟨p0,pr⟩<;>rcases cs with _| ⟨q0,qr⟩
    all_goals
     unfold Qp;refine kI ?_;refine kX ?_;refine aG (i:=i) (cs':=[.val (vL w)]) hlt hat (Nat.zero_lt_succ 0) rfl rfl rfl rfl rfl rfl rfl rfl ?_;refine kW ?_;refine kQ (c1) ?_;refine kC (c2) ?_
     iterate 2 refine kG ?_
     refine kO2 ?_
     refine aq rfl rfl rfl rfl rfl rfl rfl (bL (a:=w) (b:=f9 k) e1) ?_;refine kG ?_
     refine kO2 ?_
     refine aq rfl rfl rfl rfl rfl rfl rfl (bv (a:=w) (b:=gw k) e2) ?_;refine kW ?_
    ·exact⟨(i+1,⟨dk,[],[],vs,(-1)⟩),⟨hlt,hf2,Nat.le_succ_of_le hpl,Nat.le_succ_of_le hcl⟩,by dsimp only;omega,weak ⟨rfl,rfl,rfl,rfl,rfl,rfl,rfl,an (by omega) (by omega),rfl,trivial⟩ ⟨rfl,rfl,trivial⟩ rfl⟩
    ·exact⟨(i+1,⟨dk,[],q0::qr,vs,(-1)⟩),⟨hlt,hf2,Nat.le_succ_of_le hpl,Nat.le_succ_of_le hcl⟩,by dsimp only;omega,weak ⟨rfl,rfl,rfl,rfl,rfl,rfl,rfl,an (by omega) (by omega),rfl,trivial⟩ ⟨rfl,rfl,rfl,trivial⟩ rfl⟩
    ·exact⟨(i+1,⟨dk,p0::pr,[],vs,(-1)⟩),⟨hlt,hf2,Nat.le_succ_of_le hpl,Nat.le_succ_of_le hcl⟩,by dsimp only;omega,weak ⟨rfl,rfl,rfl,rfl,rfl,rfl,rfl,an (by omega) (by omega),rfl,trivial⟩ ⟨rfl,rfl,rfl,trivial⟩ rfl⟩
    ·exact⟨(i+1,⟨dk,p0::pr,q0::qr,vs,(-1)⟩),⟨hlt,hf2,Nat.le_succ_of_le hpl,Nat.le_succ_of_le hcl⟩,by dsimp only;omega,weak ⟨rfl,rfl,rfl,rfl,rfl,rfl,rfl,an (by omega) (by omega),rfl,trivial⟩ ⟨rfl,rfl,rfl,rfl,trivial⟩ rfl⟩
   ·have hr:sS k ⟨dk,ps,cs,vs,sd⟩ w=⟨dk,ps,cs,vs,sd⟩:=by unfold sS;rw[h1,h2];exact(if_neg e1).trans (if_neg e2)
    rw[h1]at c1;rw[h2]at c2;rw[hr]at hf2;generalize E7 112 w=z1 at *;generalize E7 99 w=z2 at *;rcases ps with _| ⟨p0,pr⟩<;>rcases cs with _| ⟨q0,qr⟩
    all_goals
     unfold Qp;refine kI ?_;refine kX ?_;refine aG (i:=i) (cs':=[.val (vL w)]) hlt hat (Nat.zero_lt_succ 0) rfl rfl rfl rfl rfl rfl rfl rfl ?_;refine kW ?_;refine kQ (c1) ?_;refine kC (c2) ?_
     iterate 2 refine kG ?_
     refine kO2 ?_
     refine aq rfl rfl rfl rfl rfl rfl rfl (bL (a:=w) (b:=f9 k) e1) ?_;refine kG ?_
     refine kO2 ?_
     refine aq rfl rfl rfl rfl rfl rfl rfl (bL (a:=w) (b:=gw k) e2) ?_;refine kW ?_
    ·exact⟨(i+1,⟨dk,[],[],vs,sd⟩),⟨hlt,hf2,Nat.le_succ_of_le hpl,Nat.le_succ_of_le hcl⟩,by dsimp only;omega,weak ⟨rfl,rfl,rfl,rfl,rfl,rfl,rfl,an (by omega) (by omega),rfl,trivial⟩ ⟨rfl,rfl,trivial⟩ rfl⟩
    ·exact⟨(i+1,⟨dk,[],q0::qr,vs,sd⟩),⟨hlt,hf2,Nat.le_succ_of_le hpl,Nat.le_succ_of_le hcl⟩,by dsimp only;omega,weak ⟨rfl,rfl,rfl,rfl,rfl,rfl,rfl,an (by omega) (by omega),rfl,trivial⟩ ⟨rfl,rfl,rfl,trivial⟩ rfl⟩
    ·exact⟨(i+1,⟨dk,p0::pr,[],vs,sd⟩),⟨hlt,hf2,Nat.le_succ_of_le hpl,Nat.le_succ_of_le hcl⟩,by dsimp only;omega,weak ⟨rfl,rfl,rfl,rfl,rfl,rfl,rfl,an (by omega) (by omega),rfl,trivial⟩ ⟨rfl,rfl,rfl,trivial⟩ rfl⟩
    ·exact⟨(i+1,⟨dk,p0::pr,q0::qr,vs,sd⟩),⟨hlt,hf2,Nat.le_succ_of_le hpl,Nat.le_succ_of_le hcl⟩,by dsimp only;omega,weak ⟨rfl,rfl,rfl,rfl,rfl,rfl,rfl,an (by omega) (by omega),rfl,trivial⟩ ⟨rfl,rfl,rfl,rfl,trivial⟩ rfl⟩
  ·rw[List.take_of_length_le (by omega),hd]at hfold
   subst hfold;clear cCut cK cD cW hn0 hwm hP hE hO0 hO1 hd;rcases ps with _| ⟨p0,pr⟩<;>rcases cs with _| ⟨q0,qr⟩
   all_goals
    unfold Qp;refine kI ?_;refine kY ?_
   ·exact hR _ (aJ.trans (kx (i:=801) (off:=1) rfl rfl) (aJ.trans (kx (i:=801) (off:=2) rfl rfl) kw))
   ·exact hR _ (aJ.trans (kx (i:=801) (off:=1) rfl rfl) (aJ.trans (eN (i:=801) (off:=2) (j:=703) rfl rfl rfl rfl rfl) kw))
   ·exact hR _ (aJ.trans (eN (i:=801) (off:=1) (j:=701) rfl rfl rfl rfl rfl) (aJ.trans (kx (i:=801) (off:=2) rfl rfl) kw))
   ·exact hR _ (aJ.trans (eN (i:=801) (off:=1) (j:=701) rfl rfl rfl rfl rfl) (aJ.trans (eN (i:=801) (off:=2) (j:=703) rfl rfl rfl rfl rfl) kw))
section
variable {P:Program} {T:TypeId->Option Ty} {n:Nat} {ops:Array Oper} {id:Nat} {draw:Bool} {K:AS->Prop} {S0:Nat->Prop} {w0:eu} {s s':AS} {k:Nat} {o:Oper} {os:List Oper} {fps:List FP} {g:Nat->Nat} {a:Act} {w:World}
theorem nv:∀{l:List AV},bF l=true-> ∀b∈l,KN b=true
 | [],_,b,hb=>by cases hb
 |c::l,h,b,hb=>by
  simp only[bF]at h
  cases h1:KN c with
  |false=>rw[h1]at h;cases h
  |true=>
   rw[h1]at h;rcases List.mem_cons.1 hb with rfl|hb
   ·exact h1
   ·exact nv h b hb
theorem ki:∀{l:List AV},(∀b∈l,KN b=true)->bF l=true
 | [],_=>rfl
 |c::l,h=>by
  simp only[bF]
  rw[h c (by simp)];exact ki fun b hb=>h b (by simp[hb])
theorem eZ {l:List AV} (h:bF l=true) (r:Nat):bF (l.take r)=true:=ki fun b hb=>nv h b (List.mem_of_mem_take hb)
theorem CR (hM:MG n S0 w0 g s a w):∀(l:List Operand),nK (Own S0 g s) g s w (l.map s.ev) (l.map a.eval)
 | []=>trivial
 |x::l=>⟨hM.ev x,CR hM l⟩
theorem zz {f:Operand} {fid:FuncId} {args:Array Operand} {tys:Array TypeId} {ts:List TV} {b:BL} {r:RT} {b':BL} (hc:aw P fid ts b r b') (ho:o.op= .call ⟨.value f,args,tys⟩) (hfe:s.ev f= .d (.leaf (.val (.func (.func fid) #[] #[])))) (hts:args.toList.map s.ev=ts)
 (hk:(DN (av b) (ts.flatMap dJ) && tp (av b) (av b))=true) (hb:qu s (av b)) (hcn:∀j cs,s.bx j=some cs->j ∉ b.map (·.1)->bG j=false) (hnew:lZ s b b'=true):
 bB P o s ⟨r.tv,some (av b'++c7 b' b)⟩:=by
 intro n S0 w0 g a w K Q hM hdn hK;rw[Bool.and_eq_true]at hk;obtain⟨hk,hwfc⟩:=hk;obtain⟨S,hpre,hO,hpost⟩:=hM.callT (b:=b) (b':=b') hb hwfc hcn (fun j cs hj hn=>qf hnew (bM.1 hj) hn);have inb:∀j cs,(sB b).bx j=some cs->s.bx j=some cs:=fun j cs hj=>hb.at (bM.1 hj)
 have hvs:=CR hM args.toList;rw[hts]at hvs
 have hrun:(execOp a.eval o).run P w= .ok (.enter fid (args.toList.map a.eval).toArray) w:=by
  unfold execOp;rw[ho]
  simp only[resolve,bg hM hfe,Deferred.ofValue,Sem.run_bind,Sem.run_pure,Result.andThen_ok,invoke]
  exact DZ
 have hcall:=hc.calls S g w _ hpre (by rw[hO];exact qj inb (BJ hk) hvs);unfold Oper.wp;rw[hrun];show Calls P fid _ w _;refine hcall.mono ?_;rintro en w1 ⟨v,g',rfl,h2,h3,h4,h5,h6⟩;show K (a.put o.dst v) w1;obtain⟨g2,hm⟩:=hpost r v g' w1 h2 h3 h4 h5 h6 o.dst hdn;refine hK g2 _ _ ?_;cases ho2:o.dst<;>(rw[ho2]at hm;exact hm)
theorem qg {f:Operand} {fid:FuncId} {args:Array Operand} {tys:Array TypeId} {ts:List TV} {b:BL} {r:RT} {b':BL} (hc:aw P fid ts b r b') (h1:gd ops s o=some true) (ho:o.op= .call ⟨.value f,args,tys⟩) (hfe:s.ev f= .d (.leaf (.val (.func (.func fid) #[] #[])))) (hts:args.toList.map s.ev=ts)
 (hk:(DN (av b) (ts.flatMap dJ) && tp (av b) (av b))=true) (hb:qu s (av b)) (hcn:dz [] s.b=true) (hnew:lZ s b b'=true) (h3:aL n o.dst=true) (h4:fh draw ops (aB ops o ⟨r.tv,some (av b'++c7 b' b)⟩ (b.map (·.1)++b'.map (·.1))) k fps=true)
 (h:au P T n ops id draw K (k+1) os (s.eff o.dst ⟨r.tv,some (av b'++c7 b' b)⟩) (aB ops o ⟨r.tv,some (av b'++c7 b' b)⟩ (b.map (·.1)++b'.map (·.1))::fps)):au P T n ops id draw K k (o::os) s fps:=by
 refine .run h1 (.genC (iz hcn) fun s2 hc2 ht hrb=>?_) h3 h4 h;have hf:s2.ev f=s.ev f:=ax ht (by rw[ho];simp[Op.operands,Call.operands])
 have ha:args.toList.map s2.ev=ts:=by
  rw[<- hts];exact List.map_congr_left fun x hx=>ax ht (by rw[ho];simp[Op.operands,Call.operands];exact .inr (by simpa using hx))
 exact zz hc ho (hf.trans hfe) ha hk (ld (fun j hj=>hrb j (List.mem_append_left _ hj)) hb) (fun j cs hj _=>hc2 j cs hj) ((ja fun j hj=>hrb j (List.mem_append_right _ hj)).trans hnew)
end
theorem dp.no {b b':BL} (h:∀j cs cs',(sB b).bx j=some cs->(sB b').bx j=some cs'->False):dp b b':=fun j cs cs' h1 h2=>(h j cs cs' h1 h2).elim
theorem Iw {x cs':List AV}:dp [(902,x)] [(1003,cs')]:=dp.no fun j c c' h1 h2=>by
 have e1:=bM.1 h1;have e2:=bM.1 h2
 by_cases e:j=1003
 ·subst e;cases e1
 ·rw[show av [(1003,cs')]=[(1003,some cs')] from rfl,ar _ _ (fun h=>e h.symm)]at e2;cases e2
def nO (q:Nat) (cs:List AV) (i:Nat) (x:List AV):List AV:=cs.take (i*q)++x++cs.drop (i*q)
section
variable {q m i:Nat} {cs x:List AV}
end
theorem Hu (x:List AV) (hx:x.length=1*1) (hB:bF x=true):aw Tryz.prog 182 [.nil, .d (dN .i64 0), .own 902 1 1 9] [(902,x)] (.own 1003 1 1 9) [(1003,x)]:=by
 have hcs:([]:List AV).take (0*1)++x.take (1*1)=x:=by rw[List.take_nil,List.nil_append,List.take_of_length_le (Nat.le_of_eq hx)]
 refine aS ah dq func182 rfl rfl rfl rfl rfl (Iw) ?_;refine Bx ?_;exact Nb
theorem Ik (x:List AV) (hx:x.length=1*5) (hB:bF x=true):aw Tryz.prog 183 [.nil, .d (dN .i64 0), .own 902 1 5 92] [(902,x)] (.own 1003 1 5 92) [(1003,x)]:=by
 have hcs:([]:List AV).take (0*5)++x.take (1*5)=x:=by rw[List.take_nil,List.nil_append,List.take_of_length_le (Nat.le_of_eq hx)]
 refine aS ah dq func183 rfl rfl rfl rfl rfl (Iw) ?_;refine Bx ?_;exact Nb
theorem Q2 {l:EL} (hs:eD l) {n:L8} {q:Nat} {x:L8 × (Rat × Int)} (hq:pT l n<=q) (h:l[q]? =some x):Op.bytesLess x.1 n=false:=by
 have hl:=(List.getElem?_eq_some_iff.1 h).1;have hx:l[pT l n]? =some (l[pT l n]'(by omega)):=List.getElem?_eq_getElem _;have h1:=G0 hx
 by_cases e:pT l n=q
 ·subst e;rw[hx]at h;cases h;exact h1
 ·have h2:=hs _ q _ _ (by omega) hx h
  cases h3:Op.bytesLess x.1 n
  ·rfl
  ·rw[fc h2 h3]at h1;cases h1
theorem Tz (l:EL) (hs:eD l) (hl:l.length<=1000000) (s:List UInt8) (hn:∀x∈l,x.1≠s):aa Tryz.prog 181 [iv l,dL s] (.tup [dN .i64 (pT l s:Nat),dB false]):=by
 have hp1:=wq l s;have hp2:∀(q:Nat) x,q<pT l s->l[q]? =some x->Op.bytesLess x.1 s=true:=fun q x=>H1
 have hp3:∀(q:Nat) x,pT l s<=q->l[q]? =some x->Op.bytesLess x.1 s=false:=fun q x=>Q2 hs
 generalize pT l s=p at *;refine kV func181 ?_
 refine ay (Nat × Nat) (fun x=>x.1<=p/\p<=x.2/\x.2<=l.length) (fun x=>⟨[(0, .d (iv l)),(1, .d (dL s)),(4, .d (dN .i64 0)),(5, .d (dB false)),(6, .d (dN .i64 l.length)),(7, .d (dN .i64 x.1)),(8, .d (dN .i64 x.2))],[]⟩) (fun x=>x.2-x.1) (0,l.length) ⟨Nat.zero_le _,hp1,Nat.le_refl _⟩
  kw ?_
 rintro⟨i,j⟩ ⟨h1,h2,h3⟩;dsimp only at h1 h2 h3 ⊢;refine kI ?_
 refine kO2 ?_
 by_cases hij:i<j
 ·exact Vv
 ·have e1:i=p:=by omega
  have e2:j=p:=by omega
  subst e2;subst e1;refine kE ?_;refine At ?_;refine kI ?_
  refine kO3 ?_
  by_cases hil:i<l.length
  ·have hx:l[i]? =some l[i]:=by simp[hil]
   have e:=hn _ (List.mem_of_getElem? hx);refine kT ?_;refine Ub ?_
   refine kO2 ?_
   exact OO
  ·refine kE ?_
   exact ap
section
open Go.RowKit Go.Lib
theorem Cp {S:Nat->Prop} {w:World} {v:Value} (h:AV.M S w (.sl 0 []) v):∃A c,v= .slice A 0 c:=by
 cases h with
 |emp=>exact⟨_,_,rfl⟩
 |sl=>exact⟨_,_,rfl⟩
theorem Ie:aa Tryz.prog 322 [.leaf (.sl 0 [])] (.tup []):=
 ⟨aA func322 rfl rfl,fun S w vs hS hv=>by
  match vs,hv with
  | [v],⟨h1,_⟩=>
   obtain⟨A,c,rfl⟩:=Cp (show AV.M S w (.sl 0 []) v from h1);refine(Tryz.slices_Sort_string_none A c w).mono ?_;rintro e w' ⟨rfl,rfl⟩;exact⟨_,rfl,⟨[],rfl,rfl,fun i x u h=>by simp at h⟩,Below.refl _ _⟩⟩
theorem yb:aa Tryz.prog 323 [.leaf (.sl 0 [])] (.one (.leaf (.sl 0 []))):=
 ⟨aA func323 rfl rfl,fun S w vs hS hv=>by
  match vs,hv with
  | [v],⟨h1,_⟩=>
   have h1:AV.M S w (.sl 0 []) v:=h1;obtain⟨A,c,rfl⟩:=Cp h1;refine(Tryz.slices_Compact_string_empty A c w).mono ?_;rintro e w' ⟨rfl,rfl⟩;exact⟨_,rfl,h1,Below.refl _ _⟩⟩
theorem BN:∀x,ls x->fi x<=1000000->aa Tryz.prog 291 [dR x] (.one (.leaf (.sl (oY x).length (aO (oY x))))):=by
 refine ef fun op na xs nb ys nm args ih hx hs=>?_
 obtain⟨_,_,_,_,_,_,hargs⟩:=hx;rw[fi]at hs;have hge:=qq args;rw[oY]
 have hz:(if op=2 then [nm]else [])=cond (decide (op=2)) [nm] []:=by
  by_cases h:op=2
  ·rw[if_pos h,decide_eq_true h];rfl
  ·rw[if_neg h,decide_eq_false h];rfl
 rw[hz];clear hz;have hbl:(cond (decide (op=2)) [nm] []).length<=1:=by cases decide (op=2)<;>simp
 generalize hb:decide (op=2)=b at *;obtain⟨al,hal⟩:∃al:Nat->List L8,∀i,al i=cond b [nm] []++fZ (args.take i):=⟨_,fun _=>rfl⟩;have hal0:al 0=cond b [nm] []:=by rw[hal];simp[fZ]
 have hall:∀i,(al i).length<=1000000:=fun i=>by
  have:=tZ args i;rw[hal,List.length_append];omega
 have hsn:∀i (h:i<args.length),al (i+1)=al i++oY args[i]:=fun i h=>by rw[hal,hal,FG h,List.append_assoc]
 have hend:cond b [nm] []++fZ args=al args.length:=by rw[hal,List.take_length]
 rw[hend];have hlenA:=hall args.length;obtain⟨A,hA0⟩:∃A,al args.length=A:=⟨_,rfl⟩;rw[hA0]at hlenA ⊢;rw[<- nC];refine Qe ?_;refine kU func291 ?_;refine kR ?_;refine kR ?_;refine u6 ⟨[(3,Cb 5001 (al 0)),(1, .box 0 0),(2, .nil)],[(5001,IU (al 0)),(0,some (ab op na xs nb ys nm args.length (dY args)))]⟩ (fun s' hw2=>?_) (fun R hR _=>?_)
 ·clear hb hal hal0 hend
  refine bu (T:=TT) ?_;refine eT hw2 rfl ?_;refine kW ?_
  refine ay Nat (fun i=>i<=args.length) (fun i=>⟨[(3,Cb 5001 (al i)),(2, .nil),(15, .d (.leaf (.sl args.length (dY args)))),(16, .d (dN .i64 args.length)),(17, .d (dN .i64 i))],[(5001,IU (al i))]⟩) (fun i=>args.length-i) 0 (Nat.zero_le _)
   (by dsimp only;generalize al 0=B;cases B<;>first|exact weak ⟨rfl,rfl,rfl,rfl,rfl,trivial⟩ trivial rfl|exact weak ⟨rfl,rfl,rfl,rfl,rfl,trivial⟩ ⟨rfl,trivial⟩ rfl) ?_
  intro i hi
  by_cases hlt:i<args.length
  ·obtain⟨o1,na1,xs1,nb1,ys1,nm1,n1,cs1,hA⟩:=aM args[i]
   have hx:args[i]? =some args[i]:=by simp[hlt]
   have hat:∀(j:Nat) (a:AV),(ab o1 na1 xs1 nb1 ys1 nm1 n1 cs1)[j]? =some a->(dY args)[i*7+j]? =some a:=fun j a h=>dP args i args[i] hx j a (by rw[hA];exact h)
   have c:=ih args[i] (List.getElem_mem hlt) (hargs _ (List.getElem_mem hlt)) (by have:=mU (List.getElem_mem hlt);omega);rw[show dR args[i]= .agg (ab o1 na1 xs1 nb1 ys1 nm1 n1 cs1) from congrArg DV.agg hA]at c;have hsi:=hsn i hlt;have hl2:=hall (i+1);rw[hsi]at hl2;generalize oY args[i]=Y at *;generalize al i=B at *;cases B with
   |nil=>
    cases Y with
    |nil=>
     refine kI ?_;refine kT ?_;refine GL ?_;refine La ah rfl rfl rfl rfl rfl rfl rfl rfl ?_;refine kW ?_;refine⟨i+1,hlt,by omega,?_⟩;rw[hsi];exact weak ⟨rfl,rfl,rfl,rfl,an (by omega) (by omega),trivial⟩ trivial rfl
    |cons y r=>
     refine kI ?_;refine kT ?_;refine GL ?_;refine eV 5002 (m1:=0) (m2:=(y::r).length) ah (Nat.succ_pos _) (Nat.le_trans (Nat.mul_le_mul_right _ (show 0+(y::r).length<=1000000 by simp at hl2 ⊢;omega)) (by decide)) (by simp[aO]) rfl rfl rfl rfl rfl rfl rfl rfl rfl rfl (.nil rfl rfl) rfl rfl (by rw[uL];rfl) ?_;refine kW ?_;refine⟨i+1,hlt,by omega,?_⟩;rw[hsi]
     refine Eq.mpr (congrArg (aJ _) (DG [(2, .nil),(15, .d (.leaf (.sl args.length (dY args)))),(16, .d (dN .i64 args.length)),(17, .d (dN .i64 (i+1:Nat)))] [] 3 5001 ([]:List L8) y r)) (aJ.trans (b:=⟨[(3, .own 5002 (0+(y::r).length) 1 9),(2, .nil),(15, .d (.leaf (.sl args.length (dY args)))),(16, .d (dN .i64 args.length)),(17, .d (dN .i64 (i+1:Nat)))],[(5002,some ((aO ([]:List L8)).take (0*1)++aO (y::r)))]⟩) (weak ⟨rfl,rfl,rfl,rfl,an (by omega) (by omega),trivial⟩ ⟨rfl,trivial⟩ rfl) ((aV (q:=3) (j:=5002) (j':=5001) rfl rfl rfl rfl).trans kw))
   |cons a B=>
    cases Y with
    |nil=>
     refine kI ?_;refine kT ?_;refine GL ?_;refine QG ah rfl rfl rfl rfl rfl rfl rfl rfl rfl ?_;refine kW ?_;refine⟨i+1,hlt,by omega,?_⟩;rw[hsi,List.append_nil];exact weak ⟨rfl,rfl,rfl,rfl,an (by omega) (by omega),trivial⟩ ⟨rfl,trivial⟩ rfl
    |cons y r=>
     refine kI ?_;refine kT ?_;refine GL ?_;refine eV 5002 (m1:=(a::B).length) (m2:=(y::r).length) ah (Nat.succ_pos _) (Nat.le_trans (Nat.mul_le_mul_right _ (show(a::B).length+(y::r).length<=1000000 by simp at hl2 ⊢;omega)) (by decide)) (by simp[aO]) rfl rfl rfl rfl rfl rfl rfl rfl rfl rfl (.own rfl rfl) rfl rfl (by rw[uL];rfl) ?_;refine kW ?_;refine⟨i+1,hlt,by omega,?_⟩;rw[hsi]
     refine Eq.mpr (congrArg (aJ _) (DG [(2, .nil),(15, .d (.leaf (.sl args.length (dY args)))),(16, .d (dN .i64 args.length)),(17, .d (dN .i64 (i+1:Nat)))] [] 3 5001 (a::B) y r)) (aJ.trans (b:=⟨[(3, .own 5002 ((a::B).length+(y::r).length) 1 9),(2, .nil),(15, .d (.leaf (.sl args.length (dY args)))),(16, .d (dN .i64 args.length)),(17, .d (dN .i64 (i+1:Nat)))],[(5002,some ((aO (a::B)).take ((a::B).length*1)++aO (y::r)))]⟩) (weak ⟨rfl,rfl,rfl,rfl,an (by omega) (by omega),trivial⟩ ⟨rfl,trivial⟩ rfl) ((aV (q:=3) (j:=5002) (j':=5001) rfl rfl rfl rfl).trans kw))
  ·have hO:A=al i:=by rw[show i=args.length by omega,hA0]
   generalize al i=B at *;cases B with
   |nil=>
    refine HZ ?_;refine kQ (Ie) ?_;refine kC (yb) ?_;refine fR ?_;rw[hO,nC];rfl
   |cons a r=>
    have hlB:(a::r).length<=1000000:=by rw[<- hO];exact hlenA
    have ct1:aw Tryz.prog 322 [.own 5001 (a::r).length 1 9] [(5001,aO (a::r))] (.v (.tup [])) [(5001,aO ((a::r).mergeSort fun x y=>decide (x<=y)))]:=(LC hlB).swap 901 5001 rfl;have hms:((a::r).mergeSort fun x y=>decide (x<=y)).length=(a::r).length:=List.length_mergeSort _;have ct2:aw Tryz.prog 323 [.own 5001 ((a::r).mergeSort fun x y=>decide (x<=y)).length 1 9] [(5001,aO ((a::r).mergeSort fun x y=>decide (x<=y)))] (.own 5001 (Lib.compact ((a::r).mergeSort fun x y=>decide (x<=y))).length 1 9) [(5001,aO (Lib.compact ((a::r).mergeSort fun x y=>decide (x<=y))++List.replicate (((a::r).mergeSort fun x y=>decide (x<=y)).length-(Lib.compact ((a::r).mergeSort fun x y=>decide (x<=y))).length) []))]:=(BC (by omega)).swap 901 5001 rfl;rw[hms]at ct2
    have hcut:∀M:List L8,(aO (Lib.compact M++List.replicate ((a::r).length-(Lib.compact M).length) [])).take (Lib.compact M).length=aO (Lib.compact M):=fun M=>by
     rw[mr,List.take_left' (iB _)]
    generalize hM:((a::r).mergeSort fun x y=>decide (x<=y))=M at *;have hcM:=hcut M;refine HZ ?_;refine kZ (ct1) ?_;refine kD (ct2) ?_;refine DX ah rfl rfl rfl rfl ((cu (q:=2) rfl rfl).trans (HQ (q:=2) (Lib.compact M).length rfl)) ?_;refine fR ?_;rw[hO,hM,<- hcM];rfl
 ·cases b
  ·refine kI ?_
   refine kO2 ?_
   refine kB false ?_ ?_
   ·exact hb
   refine kW ?_;refine hR _ ?_;rw[hal0];exact kw
  ·refine kI ?_
   refine kO2 ?_
   refine kB true ?_ ?_
   ·exact hb
   refine kG ?_
   refine kO4 ?_
   refine Vz ?_;refine hR _ ?_;rw[hal0];exact kw
end
theorem BF (l:Tb) (hs:KM l) (hl:l.length<=1000000):aa Tryz.prog 242 [gP l] (.one (dN .i64 (Eg l))):=by
 by_cases h200:200<l.length
 ·refine kU func242 ?_
  refine El ?_;refine fR ?_;exact congrArg (fun z=>RV.one (dN .i64 z)) (show(3:Int)=Eg l by unfold Eg;rw[if_pos h200])
 have hv:Eg l=Il l 0 (l.drop 0):=by unfold Eg;rw[if_neg h200];rfl
 rw[hv];clear hv;refine kU func242 ?_;refine Bj ?_;refine kW ?_;refine ay Nat (fun i=>i<=l.length/\Il l 0 (l.drop 0)=Il l i (l.drop i)) (fun i=>⟨[(0, .d (gP l)),(9, .d (gP l)),(10, .d (dN .i64 l.length)),(11, .d (dN .i64 i))],[]⟩) (fun i=>l.length-i) 0 ⟨Nat.zero_le _,rfl⟩ kw ?_;rintro i ⟨hi,hv⟩;refine kI ?_
 by_cases hlt:i<l.length
 ·refine kT ?_
  obtain⟨p,hx⟩:∃p,l[i]? =some p:=⟨l[i],by simp[hlt]⟩;rw[Qm hx]at hv;have hp:=List.mem_of_getElem? hx;obtain⟨hn,hsx⟩:=hs p hp;obtain⟨o1,na1,xs1,nb1,ys1,nm1,n1,cs1,hA,hB⟩:=eS p;have hat:∀(j:Nat) (a:AV),(eE p.1 o1 na1 xs1 nb1 ys1 nm1 n1 cs1)[j]? =some a->(Ga l)[i*8+j]? =some a:=fun j a h=>jS l i p hx j a (by rw[hB];exact h)
  have c1:=fM p.1 (by omega);have c2:=gW p.2 hsx.wd hsx.lm (by have:=hsx.sz;omega);rw[show dR p.2= .agg (ab o1 na1 xs1 nb1 ys1 nm1 n1 cs1) from congrArg DV.agg hA]at c2;have c3:=rE l p.1 hl;have hf:=Bu.2 ⟨p,hp,rfl⟩;rw[show R1 l p.1=(ml l p.1:Nat) by unfold R1;rw[if_pos hf]]at c3;rcases Bool.eq_false_or_eq_true (kh p.1)with hb|hb
  ·rw[if_pos hb]at hv
   rw[hb]at c1;refine Sb ?_;refine io ?_;refine kC (c2) ?_
   by_cases h0:iI p.2=0
   ·rw[if_pos h0]at hv
    refine AC ?_;refine kB false ?_ ?_
    ·exact bne_eq_false_iff_eq.2 h0
    refine kW ?_;refine kC (c3) ?_;refine kO ?_
    by_cases h5:ml l p.1<i
    ·rw[if_pos h5]at hv
     refine kT ?_;refine fR ?_;exact PN
    ·rw[if_neg h5]at hv
     refine kY ?_;exact⟨i+1,⟨hlt,hv⟩,by omega,weak ⟨rfl,rfl,rfl,an (by omega) (by omega),trivial⟩ trivial rfl⟩
   ·rw[if_neg h0]at hv
    refine AC ?_;refine kB true ?_ ?_
    ·exact bne_iff_ne.2 h0
    refine fR ?_;exact PN
  ·rw[if_neg (by rw[hb];decide)]at hv
   rw[hb]at c1;refine Fq ?_;refine kC (c1) ?_;refine fR ?_;exact PN
 ·refine kE ?_
  refine fR ?_;have e:l.drop i=[]:=List.drop_of_length_le (by omega);rw[e]at hv;exact PN
theorem Ez (l:List L8) (n:L8) (hl:l.length<=1000000):aa Tryz.prog 293 [Ac l,dL n] (.one (dN .i64 (if l.findIdx (fun x=>decide (n=x))<l.length then((l.findIdx fun x=>decide (n=x):Nat):Int)else -1))):=by
 have hf:=List.findIdx_le_length (p:=fun x=>decide (n=x)) (xs:=l)
 have hn:∀(i:Nat) (hi:i<l.length),i<l.findIdx (fun x=>decide (n=x))-> ¬n=l[i]:=fun i hi h=>by
  exact OD
 have hy:∀(h:l.findIdx (fun x=>decide (n=x))<l.length),n=(l[l.findIdx (fun x=>decide (n=x))]):=fun h=>of_decide_eq_true (List.findIdx_getElem (p:=fun x=>decide (n=x)) (xs:=l) (w:=h))
 generalize l.findIdx (fun x=>decide (n=x))=f at *;refine kV func293 ?_
 refine ay Nat (fun i=>i<=f) (fun i=>⟨[(0, .d (Ac l)),(1, .d (dL n)),(4, .d (dN .i64 0)),(7, .d (dN .i64 l.length)),(8, .d (dN .i64 i))],[]⟩) (fun i=>l.length-i) 0 (Nat.zero_le _)
  kw ?_
 intro i hi;refine kI ?_
 by_cases hlt:i<l.length
 ·refine kT ?_
  have hx:l[i]? =some l[i]:=by simp[hlt]
  have hni:=hn i hlt;have hyi:∀h:i=f,n=l[i]:=fun h=>by subst h;exact hy hlt
  generalize l[i]=q at *
  by_cases e:n=q
  ·have e2:i=f:=by
    by_cases e3:i<f
    ·exact absurd e (hni e3)
    ·omega
   subst e2;rw[if_pos hlt];refine CN ?_;refine aq rfl rfl rfl rfl rfl rfl rfl (bv (a:=n) (b:=q) e) ?_;exact ap
  ·refine CN ?_
   refine aq rfl rfl rfl rfl rfl rfl rfl (bL (a:=n) (b:=q) e) ?_;refine Hn ?_
   by_cases e3:i=f
   ·exact absurd (hyi e3) e
   ·omega
 ·rw[if_neg (by omega)]
  refine kE ?_;exact ap
theorem ES (l:List L8) (n:L8) (hl:l.length<=1000000):∃i:Int,(0<=i↔n∈l)/\aa Tryz.prog 293 [Ac l,dL n] (.one (dN .i64 i)):=by
 refine⟨_,?_,Ez l n hl⟩;have:=List.findIdx_lt_length (p:=fun x=>decide (n=x)) (xs:=l);exact OA
theorem jq (l:List L8) (n:L8) (hl:l.length<=1000000):aa Tryz.prog 244 [Ac l,dL n] (.one (dB (decide (n∈l)))):=by
 obtain⟨i,h1,c⟩:=ES l n hl
 by_cases h:n∈l
 ·rw[decide_eq_true h]
  have:=h1.2 h;refine kV func244 ?_;refine kC (c) ?_;refine kT ?_;exact ap
 ·rw[decide_eq_false h]
  have:=fun h2=>h (h1.1 h2)
  refine kV func244 ?_;refine kC (c) ?_;refine kE ?_;exact ap
abbrev EY (ns:List L8):List AV:=[.sl ns.length (aO ns)]
theorem vo {ns:List L8}:dp [(900,EY ns)] [(900,EY ns)]:=dp.one (Nat.le_refl 1)
theorem ED (ns:List L8) (n:L8) (hl:ns.length<=1000000):aw Tryz.prog 292 [.d (dL n), .box 900 0] [(900,EY ns)] (.v (.one (dB (!decide (n∈ns))))) [(900,EY ns)]:=by
 have c:=jq ns n hl;generalize decide (n∈ns)=b at *;cases b
 all_goals(
  refine aS ah dq func292 rfl rfl rfl rfl rfl (vo) ?_;refine kR ?_;refine kI ?_
  refine kO2 ?_
  refine kQ (c) ?_;exact⟨⟨_,rfl,rfl⟩,⟨rfl,trivial⟩⟩)
theorem tP {fid:FuncId} {p:L8->Bool} {ns:List L8} (l:List L8) (hp:∀x∈l,aw Tryz.prog fid [.d (dL x), .box 900 0] [(900,EY ns)] (.v (.one (dB (p x)))) [(900,EY ns)]) (hl:l.length<=1000000):aw Tryz.prog 321 [.d (Ac l), .clo (.func fid) [] [.box 900 0]] [(900,EY ns)] (.v (.one (dN .i64 (if l.findIdx p<l.length then((l.findIdx p:Nat):Int)else -1)))) [(900,EY ns)]:=by
 have hf:=List.findIdx_le_length (p:=p) (xs:=l)
 have hn:∀(i:Nat) (hi:i<l.length),i<l.findIdx p->p l[i]=false:=fun i hi h=>by
  exact OD
 have hy:∀(h:l.findIdx p<l.length),p (l[l.findIdx p])=true:=fun h=>List.findIdx_getElem
 generalize l.findIdx p=f at *;refine aS ah dq func321 rfl rfl rfl rfl rfl (vo) ?_;refine kW ?_
 refine ay Nat (fun i=>i<=f) (fun i=>⟨[(0, .d (Ac l)),(1, .clo (.func fid) [] [.box 900 0]),(4, .d (dN .i64 0)),(7, .d (dN .i64 l.length)),(8, .d (dN .i64 i))],[(900,some (EY ns))]⟩) (fun i=>l.length-i) 0 (Nat.zero_le _)
  kw ?_
 intro i hi;refine kI ?_
 by_cases hlt:i<l.length
 ·refine kT ?_
  have hx:l[i]? =some l[i]:=by simp[hlt]
  have c:=hp l[i] (List.getElem_mem hlt);have hni:=hn i hlt;have hyi:∀h:i=f,p l[i]=true:=fun h=>by subst h;exact hy hlt
  generalize l[i]=q at *;refine CN ?_;exact GE
 ·rw[if_neg (by omega)]
  refine kE ?_;exact ju
theorem nV {fid:FuncId} {p:L8->Bool} {ns:List L8} (l:List L8) (hp:∀x∈l,aw Tryz.prog fid [.d (dL x), .box 900 0] [(900,EY ns)] (.v (.one (dB (p x)))) [(900,EY ns)]) (hl:l.length<=1000000):aw Tryz.prog 290 [.d (Ac l), .clo (.func fid) [] [.box 900 0]] [(900,EY ns)] (.v (.one (dB (l.any p)))) [(900,EY ns)]:=by
 have c:=tP l hp hl
 have hlt:(l.findIdx p<l.length)↔l.any p=true:=by
  rw[List.any_eq_true];exact List.findIdx_lt_length
 cases hb:l.any p with
 |true=>
  rw[if_pos (hlt.2 hb)]at c;refine aS ah dq func290 rfl rfl rfl rfl rfl (vo) ?_;refine kW ?_;refine kD (c) ?_;refine kT ?_;exact ju
 |false=>
  rw[if_neg (fun h=>by rw[hlt.1 h]at hb;cases hb)]at c;refine aS ah dq func290 rfl rfl rfl rfl rfl (vo) ?_;refine kW ?_;refine kD (c) ?_;exact ju
theorem LZ (x:Rx) (ns:List L8):(!((oY x).any fun n=>!decide (n∈ns)))=xa x ns:=by
 unfold xa
 induction oY x with
 |nil=>rfl
 |cons a r ih=>rw[List.any_cons,List.all_cons,Bool.not_or,ih,Bool.not_not]
theorem lW (q:Pm) (ns:List L8) (hq:Fg q.2) (hl:ns.length<=1000000):aa Tryz.prog 243 [Ma q,Ac ns] (.one (dB (xa q.2 ns))):=by
 have cn:=BN q.2 hq.wd (by have:=hq.sz;omega);have cc:=(nV (fid:=292) (p:=fun n=>!decide (n∈ns)) (ns:=ns) (oY q.2) (fun x _=>ED ns x hl) (Nat.le_trans (Dk q.2) (by have:=hq.sz;omega))).swap 900 1 rfl;have hr:=LZ q.2 ns;obtain⟨o1,na1,xs1,nb1,ys1,nm1,n1,cs1,hA,hB⟩:=eS q;rw[show Ma q= .agg (eE q.1 o1 na1 xs1 nb1 ys1 nm1 n1 cs1) from congrArg DV.agg hB];rw[show dR q.2= .agg (ab o1 na1 xs1 nb1 ys1 nm1 n1 cs1) from congrArg DV.agg hA]at cn;rw[<- hr];clear hr;generalize((oY q.2).any fun n=>!decide (n∈ns))=b at *;generalize oY q.2=ms at *;cases b
 all_goals(
  refine kV func243 ?_;refine kC (cn) ?_;refine kO ?_;refine kD (cc) ?_;exact kF)
end Go.Proofs.YtnchbpoopnjghaaGreatDoor
