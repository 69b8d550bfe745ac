/- Parts of a proof: contracts of the functions that the laws reach. -/
import Derived.Test.YtnchbpoopnjghaaGreatDoorHZ6
import Derived.Test.YtnchbpoopnjghaaGreatDoorTie
import Derived.Test.YtnchbpoopnjghaaGreatDoorCards
set_option maxHeartbeats 100000000
set_option linter.all false
open Go.Proofs.Tryz
namespace Go.Proofs.YtnchbpoopnjghaaGreatDoor
open Go.RowKit
section
open Go.ChangeShapes Go.WideShapes Go.ChangeAt Go.RowKit Go.Joins
def uO {H:Type}:Nat->DataW H->Option (List AV)
 |0,_=>none
 |n+1,d=>match d with
  | .lit (.bool b)=>some [.val (.bool b)]
  | .lit (.int k i)=>some [.val (.int k i)]
  | .lit (.string l)=>some [.val (.string ⟨l.toArray⟩)]
  | .nil=>some [.sl 0 []]
  | .slice es _=>match iQ (uO n) es with
   |some rows=>some [.sl rows.length rows.flatten]
   |none=>none
  | .agg es=>match iQ (uO n) es with
   |some ps=>some ps.flatten
   |none=>none
  |_=>none
theorem xB {α β:Type} {f g:α->Option β}:∀{xs:List α} {ys zs:List β},(∀x∈xs,∀y z,f x=some y->g x=some z->y=z)->iQ f xs=some ys->iQ g xs=some zs->ys=zs
 | [],ys,zs,_,h,k=>by simp only[iQ,Option.some.injEq]at h k;rw[<- h,<- k]
 |x::xs,ys,zs,hfg,h,k=>by
  simp only[iQ]at h k
  cases h1:f x with
  |none=>rw[h1]at h;simp at h
  |some y=>
   cases h2:iQ f xs with
   |none=>rw[h1,h2]at h;simp at h
   |some ys'=>
    cases k1:g x with
    |none=>rw[k1]at k;simp at k
    |some z=>
     cases k2:iQ g xs with
     |none=>rw[k1,k2]at k;simp at k
     |some zs'=>
      rw[h1,h2]at h;rw[k1,k2]at k
      simp only[Option.some.injEq]at h k
      rw[<- h,<- k,hfg x (by simp) y z h1 k1,xB (fun x hx=>hfg x (by simp[hx])) h2 k2]
theorem DU {H:Type}:∀(n m:Nat) (d:DataW H) (cs cs':List AV),uO n d=some cs->uO m d=some cs'->cs=cs'
 |0,_,_,_,_,h,_=>by simp[uO]at h
 |_+1,0,_,_,_,_,h=>by simp[uO]at h
 |n+1,m+1,d,cs,cs',h,h'=>by
  have ih:=DU (H:=H) n m;unfold uO at h h'
  split at h
  ·simp_all
  ·simp_all
  ·simp_all
  ·simp_all
  ·exact Pp
  ·exact Pp
  ·cases h
theorem p8 {α β:Type} {f:α->Option β}:∀{xs:List α} {ys:List β},xs.length=ys.length->(∀(i:Nat) (x:α) (y:β),xs[i]? =some x->ys[i]? =some y->f x=some y)->iQ f xs=some ys
 | [],[],_,_=>rfl
 | [],_::_,h,_=>by cases h
 |_::_,[],h,_=>by cases h
 |x::xs,y::ys,h,hf=>by
  simp only[iQ,hf 0 x y rfl rfl,p8 (xs:=xs) (ys:=ys) (by simpa using h) (fun i x y h1 h2=>hf (i+1) x y (by simpa using h1) (by simpa using h2))]
def oC (P:Program) (L:List TypeId):Bool:=L.all fun t=>match P.underlying t with
 |some .bool=>true
 |some (.int _)=>true
 |some .string=>true
 |some (.slice e)=>L.elem e
 |some (.struct fs)=>(fs.toList.all fun f=>L.elem f.type) && ni P 0 (P.cellsOf t) fs.toList
 |some (.array n e)=>L.elem e && Nat.beq (n*P.cellsOf e) (P.cellsOf t)
 |_=>false
theorem Ec {w:World} {sz:Nat}:∀(n:Nat) (vs:List Value) (ps:List (List AV)),vs.length=n*sz->ps.length=n->(∀i p,ps[i]? =some p->CM (fun _=>False) w p ((vs.drop (i*sz)).take sz))->CM (fun _=>False) w ps.flatten vs
 |0,vs,ps,h,hp,_=>by
  have h1:vs=[]:=List.eq_nil_of_length_eq_zero (by simpa using h);have h2:ps=[]:=List.eq_nil_of_length_eq_zero hp;subst h1 h2;exact CM.nil _ _
 |n+1,vs,[],_,hp,_=>by cases hp
 |n+1,vs,p::ps,h,hp,hc=>by
  have h0:=hc 0 p rfl;rw[Nat.zero_mul,List.drop_zero]at h0
  have hr:=Ec (w:=w) (sz:=sz) n (vs.drop sz) ps (by rw[List.length_drop,h,Nat.add_mul];omega) (by simpa using hp) (fun i q hq=>by
   have:=hc (i+1) q (by simpa using hq);rw[List.drop_drop,show sz+i*sz=(i+1)*sz by rw[Nat.add_mul];omega];exact this)
  rw[List.flatten_cons];have:=h0.append hr
  rwa[List.take_append_drop]at this
theorem uB {P:Program} {w:World} {vs:List Value}:∀(fs:List Field) (off:Nat) (ps:List (List AV)),ni P off vs.length fs=true->ps.length=fs.length ->
 (∀(i:Nat) (f:Field) (p:List AV),fs[i]? =some f->ps[i]? =some p->CM (fun _=>False) w p ((vs.drop f.offset).take (P.cellsOf f.type)))->CM (fun _=>False) w ps.flatten (vs.drop off)
 | [],off,[],h,_,_=>by
  have:=Nat.eq_of_beq_eq_true h;subst this;rw[List.drop_length];exact CM.nil _ _
 | [],_,_::_,_,h,_=>by cases h
 |_::_,_,[],_,h,_=>by cases h
 |f::r,off,p::ps,h,hl,hf=>by
  simp only[ni,Bool.and_eq_true]at h
  have ho:=Nat.eq_of_beq_eq_true h.1;have h1:=hf 0 f p rfl rfl;have h3:=uB r _ ps h.2 (by simpa using hl) (fun i g q hg hq=>hf (i+1) g q (by simpa using hg) (by simpa using hq));rw[ho]at h1;rw[List.flatten_cons];have:=h1.append h3
  rwa[<- List.drop_drop,List.take_append_drop]at this
section
variable {H:Type} {enc:TypeId × Value->H} {W:World} {P:Program} {held:Bool}
theorem M8 {L:List TypeId} (hL:oC P L=true):∀(n:Nat) (t:TypeId) (vs:List Value) (x:DataW H × List MemPlace),t∈L->DataW.trod enc P W 0 (fun _=>true) held n t vs=some x ->
 ∃cs,CM (fun _=>False) W cs vs/\uO n x.1=some cs:=by
 intro n
 induction n with
 |zero=>intro t vs x _ h;simp[DataW.trod]at h
 |succ n ih=>
  intro t vs x ht h;have hp:=List.all_eq_true.1 hL t ht;cases hu:P.underlying t with
  |none=>rw[hu]at hp;simp at hp
  |some d=>
   rw[hu]at hp;cases d with
   |bool=>
    obtain⟨b,rfl,rfl⟩:=DataW.trod_bool hu h;exact⟨_,CM.cons (.val rfl) (CM.nil _ _),rfl⟩
   |int k=>
    obtain⟨i,rfl,rfl,h1⟩:=DataW.trod_int hu h;exact⟨_,CM.cons (.val rfl) (CM.nil _ _),rfl⟩
   |string=>
    obtain⟨s,rfl,rfl,h1⟩:=DataW.trod_string hu h;exact⟨_,CM.cons (.val rfl) (CM.nil _ _),by simp[uO]⟩
   |slice e=>
    have he:e∈L:=by simpa using hp
    rcases DataW.trod_slice hu h with⟨rfl,rfl⟩| ⟨a,len,cap,elems,rest,m,hm,rfl,rfl,_,hlc,hcm,hel,hget,_,_⟩
    ·exact⟨_,CM.cons (.emp (Nat.le_refl _) (by omega) (fun _=>rfl)) (CM.nil _ _),rfl⟩
    ·obtain rfl:m=n:=by omega
     have hrow:∀i,i<len-> ∃(r:List AV) (us:List Value),W.cells? 0 (a.add (i*P.cellsOf e)) (P.cellsOf e)=some us/\CM (fun _=>False) W r us/\ ∀y,elems[i]? =some y->uO m y.1=some r:=by
      intro i hi;have h1:=hget i hi;have h2:elems[i]? =some elems[i]:=by simp
      rw[h2]at h1;obtain⟨us,h3,h4⟩:=Option.bind_eq_some_iff.1 h1;obtain⟨r,h5,h6⟩:=ih e us _ he h4;exact⟨r,us,h3,h5,fun y hy=>by rw[h2]at hy;cases hy;exact h6⟩
     have hrows:∀k,k<=len-> ∃rows:List (List AV),rows.length=k/\ ∀i r,rows[i]? =some r-> ∃us:List Value,W.cells? 0 (a.add (i*P.cellsOf e)) (P.cellsOf e)=some us/\CM (fun _=>False) W r us/\ ∀y,elems[i]? =some y->uO m y.1=some r:=by
      exact R6
     obtain⟨rows,hl,hr⟩:=hrows len (Nat.le_refl _)
     have hmap:iQ (uO m) (elems.map (·.1))=some rows:=by
      refine p8 (by simp[hel,hl]) (fun i y r hy h2=>?_);rw[List.getElem?_map]at hy;cases hz:elems[i]? with
      |none=>rw[hz]at hy;cases hy
      |some z=>
       rw[hz]at hy
       simp only[Option.map_some,Option.some.injEq]at hy
       obtain⟨_,_,_,h5⟩:=hr i r h2;rw[<- hy];exact h5 z hz
     have hsz:∀r∈rows,r.length=P.cellsOf e:=by
      exact Pj
     refine⟨[.sl len rows.flatten],CM.cons ?_ (CM.nil _ _),by simp only[uO,hmap,hl]⟩;exact Oi
   |struct fs=>
    simp only[Bool.and_eq_true]at hp
    obtain⟨xs,m,hm,rfl,hlen,hxl,hget⟩:=DataW.trod_struct hu h;obtain rfl:m=n:=by omega
    have htile:=hp.2;rw[<- hlen]at htile
    have hpart:∀k,k<=xs.length-> ∃ps:List (List AV),ps.length=k/\ ∀(i:Nat) (p:List AV) (f:Field),ps[i]? =some p->fs[i]? =some f->CM (fun _=>False) W p ((vs.drop f.offset).take (P.cellsOf f.type))/\ ∀y:DataW H × List MemPlace,xs[i]? =some y->uO m y.1=some p:=by
     intro k
     induction k with
     |zero=>intro _;exact⟨[],rfl,fun i p f h=>by simp at h⟩
     |succ k ihk=>
      intro hk;obtain⟨ps,h1,h2⟩:=ihk (by omega);have hkf:fs[k]? =some (fs[k]'(by omega)):=by simp
      have h3:=hget k _ hkf;have h4:xs[k]? =some xs[k]:=by simp
      rw[h4]at h3;have hfL:fs[k].type∈L:=by have:=List.all_eq_true.1 hp.1 fs[k] (by simp);simpa using this
      obtain⟨p,h5,h6⟩:=ih _ _ _ hfL h3;refine⟨ps++[p],by simp[h1],fun i q f hq hf=>?_⟩
      by_cases hi:i<ps.length
      ·rw[List.getElem?_append_left hi]at hq;exact h2 i q f hq hf
      ·have hil:=(List.getElem?_eq_some_iff.1 hq).1
       simp at hil
       have:i=k:=by omega
       subst this;rw[List.getElem?_append_right (by omega),h1,Nat.sub_self]at hq
       simp at hq
       subst hq;rw[hkf]at hf;cases hf;exact⟨h5,fun y hy=>by rw[h4]at hy;cases hy;exact h6⟩
    obtain⟨ps,h1,h2⟩:=hpart xs.length (Nat.le_refl _);refine⟨ps.flatten,?_,?_⟩
    ·have:=uB (w:=W) (vs:=vs) fs.toList 0 ps htile (by rw[h1,hxl];simp) (fun i f p hf hp=>(h2 i p f hp (by simpa using hf)).1)
     rwa[List.drop_zero]at this
    ·have hmap:iQ (uO m) (xs.map (·.1))=some ps:=by
      refine p8 (by simp[h1]) (fun i y p hy hpi=>?_);rw[List.getElem?_map]at hy;cases hz:xs[i]? with
      |none=>rw[hz]at hy;cases hy
      |some z=>
       rw[hz]at hy
       simp only[Option.map_some,Option.some.injEq]at hy
       have hil:i<fs.size:=by rw[<- hxl];exact(List.getElem?_eq_some_iff.1 hz).1
       rw[<- hy];exact(h2 i p fs[i] hpi (by simp[hil])).2 z hz
     simp only[uO,hmap]
   |array k e=>
    simp only[Bool.and_eq_true]at hp
    have he:e∈L:=by simpa using hp.1
    have hke:=Nat.eq_of_beq_eq_true hp.2;unfold DataW.trod at h;rw[hu]at h
    simp only at h
    have hr:∃xs:List (DataW H × List MemPlace),x.1= .agg (xs.map (·.1))/\vs.length=P.cellsOf t/\(List.range k).mapM (fun i=>DataW.trod enc P W 0 (fun _=>true) held n e ((vs.drop (i*P.cellsOf e)).take (P.cellsOf e)))=some xs:=by
     split at h
     ·rename_i hl
      obtain⟨xs,h1,h2⟩:=Option.map_eq_some_iff.1 h;exact⟨xs,by rw[<- h2],hl,h1⟩
     ·cases h
    obtain⟨xs,hx,hlen,hmm⟩:=hr;obtain⟨h1,h2⟩:=x3 hmm;rw[List.length_range]at h1
    have hpart:∀j,j<=k-> ∃ps:List (List AV),ps.length=j/\ ∀(i:Nat) (p:List AV),ps[i]? =some p->CM (fun _=>False) W p ((vs.drop (i*P.cellsOf e)).take (P.cellsOf e))/\ ∀y:DataW H × List MemPlace,xs[i]? =some y->uO n y.1=some p:=by
     intro j
     induction j with
     |zero=>intro _;exact⟨[],rfl,fun i p h=>by simp at h⟩
     |succ j ihj=>
      intro hj;obtain⟨ps,h3,h4⟩:=ihj (by omega);obtain⟨y,h5,h6⟩:=h2 j j (List.getElem?_range (by omega));obtain⟨p,h7,h8⟩:=ih _ _ _ he h6;refine⟨ps++[p],by simp[h3],fun i q hq=>?_⟩
      by_cases hi:i<ps.length
      ·rw[List.getElem?_append_left hi]at hq;exact h4 i q hq
      ·have hil:=(List.getElem?_eq_some_iff.1 hq).1
       simp at hil
       have:i=j:=by omega
       subst this;rw[List.getElem?_append_right (by omega),h3,Nat.sub_self]at hq
       simp at hq
       subst hq;exact⟨h7,fun z hz=>by rw[h5]at hz;cases hz;exact h8⟩
    obtain⟨ps,h3,h4⟩:=hpart k (Nat.le_refl _);refine⟨ps.flatten,Ec k vs ps (by rw[hlen,<- hke]) h3 (fun i p hp=>(h4 i p hp).1),?_⟩
    have hmap:iQ (uO n) (xs.map (·.1))=some ps:=by
     refine p8 (by simp[h3,<- h1]) (fun i y p hy hpi=>?_);rw[List.getElem?_map]at hy;cases hz:xs[i]? with
     |none=>rw[hz]at hy;cases hy
     |some z=>
      rw[hz]at hy
      simp only[Option.map_some,Option.some.injEq]at hy
      rw[<- hy];exact(h4 i p hpi).2 z hz
    rw[hx]
    simp only[uO,hmap]
   |_=>simp at hp
end
end
section
open Go.ChangeShapes Go.WideShapes Go.ChangeAt Go.RowKit Go.Joins
theorem gc {P:Program} {W:World} {name:String} {d:DataW Unit}:∀{laid:List (String × DataW Unit)} {ps:List MemPlace},DataW.LaidVars P W laid ps->(name,d)∈laid ->
 ∃g t cs fuel p,P.globalNamed name=some g/\(P.globals[g]?).map (·.type)=some t/\W.var? P name=some cs/\DataW.trod (fun _=>()) P W 0 (fun _=>true) false fuel t cs.toList=some (d,p)
 | [],_,_,h=>by cases h
 |(n,d')::rest,ps,h,hm=>by
  obtain⟨g,t,cs,fuel,p,q,h1,h2,h3,h4,h5,_⟩:=h;rcases List.mem_cons.1 hm with e|e
  ·cases e
   exact⟨g,t,cs,fuel,p,h1,h2,h3,h4⟩
  ·exact gc h5 e
theorem FQ:Tryz.prog.cellsOf 169=1:=by kernel_rfl
theorem MU:Tryz.prog.globalNamed "internal/strconv.uint64pow10" =some 5:=by kernel_rfl
theorem MB:(Tryz.prog.globals[5]?).map (·.type)=some 247:=by kernel_rfl
theorem LN:Tryz.prog.cellsOf 247=20:=by kernel_rfl
theorem qc {P:Program} {W:World} {laid:List (String × DataW Unit)} {ps:List MemPlace} (hv:DataW.LaidVars P W laid ps) {name:String} {d:DataW Unit} (hm:(name,d)∈laid) {g t:Nat} (hg:P.globalNamed name=some g) (ht:(P.globals[g]?).map (·.type)=some t)
 {L:List TypeId} (hL:oC P L=true) (htL:t∈L) {n:Nat} {cs:List AV} (hav:uO n d=some cs) {S:Nat->Prop} (hS:S=fun _=>False):TV.M S (fun _=>0) ⟨[],[]⟩ W (.rp cs) (.pointer (some ⟨g,0,none⟩)):=by
 subst hS;obtain⟨g',t',c0,fuel,p,h1,h2,h3,h4⟩:=gc hv hm;obtain rfl:=Option.some.inj (hg.symm.trans h1);obtain rfl:=Option.some.inj (ht.symm.trans h2);obtain⟨cs',hc,ha⟩:=M8 hL fuel _ _ _ htL h4;have e:=DU _ _ _ _ _ ha hav;subst e;unfold World.var? at h3;rw[hg]at h3
 simp only[Option.bind_some]at h3
 split at h3
 ·rename_i c1 e1 f1 hb
  cases h3;refine⟨g,0,fun i=>c0.getD i undef,rfl,fun h=>h,(Array.getElem?_eq_some_iff.1 hb).1,fun i a hi=>?_,fun i a hi=>?_⟩
  ·have hl:i<c0.size:=by have:=(List.getElem?_eq_some_iff.1 hi).1;rw[hc.1]at this;simpa using this
   rw[Nat.zero_add]
   simp[World.cell?,hb,hl]
  ·have hl:i<c0.size:=by have:=(List.getElem?_eq_some_iff.1 hi).1;rw[hc.1]at this;simpa using this
   exact hc.2 i a _ hi (by simp[hl])
 ·cases h3
theorem nu {α:Type} {g:Nat} {c:α} {r:List (Nat × α)} {k:Nat} {x:α} (h:ak ((g,c)::r) k=some x):(g=k/\c=x)∨ak r k=some x:=by
 by_cases e:g=k
 ·subst e;rw[ai]at h;exact .inl ⟨rfl,Option.some.inj h⟩
 ·rw[ar _ _ e]at h;exact .inr h
theorem KU:Tryz.prog.globalNamed "setsquare/unit.units" =some 4:=by kernel_rfl
theorem Lm:(Tryz.prog.globals[4]?).map (·.type)=some 243:=by kernel_rfl
theorem LU:oC Tryz.prog [243,244,9,2]=true:=by kernel_rfl
theorem EM:Tryz.prog.globalNamed "setsquare/formula.symbols" =some 2:=by kernel_rfl
theorem EE:(Tryz.prog.globals[2]?).map (·.type)=some 184:=by kernel_rfl
theorem Fb:oC Tryz.prog [184,9]=true:=by kernel_rfl
theorem B7:Tryz.prog.globalNamed "setsquare/formula.operands" =some 1:=by kernel_rfl
theorem A5:(Tryz.prog.globals[1]?).map (·.type)=some 171:=by kernel_rfl
theorem Ah:oC Tryz.prog [171,3]=true:=by kernel_rfl
theorem MH:Tryz.prog.globalNamed "setsquare/constraint.table" =some 0:=by kernel_rfl
theorem Mz:(Tryz.prog.globals[0]?).map (·.type)=some 73:=by kernel_rfl
theorem Mn:oC Tryz.prog [73,72,60,9,3,4]=true:=by kernel_rfl
theorem AR {w w':World} (h:om w) (hb:Below w.heap.size w w'):om w':=by
 have key:∀(g:Nat) (v:Value),w.cell? ⟨g,0,none⟩=some v->w'.cell? ⟨g,0,none⟩=some v:=fun g v hv=>(hb.cell (show(⟨g,0,none⟩:Addr).block<w.heap.size from Lib.lt_of_cell hv)).trans hv
 obtain⟨⟨m,h1⟩,⟨e,h2,h3⟩,e',h4,h5⟩:=h;exact⟨⟨m,key _ _ h1⟩,⟨e,key _ _ h2,h3⟩,e',key _ _ h4,h5⟩
theorem MK {laid:List (String × DataW Unit)} (hp:(laid.all fun x=>x.2.handleName?.isNone)=true) (hm:("internal/strconv.uint64pow10",Rows.laid_internal_strconv_uint64pow10)∈laid)
 (hm1:("setsquare/unit.units",Rows.laid_setsquare_unit_units)∈laid)
 (hm2:("setsquare/formula.symbols",Rows.laid_setsquare_formula_symbols)∈laid)
 (hm3:("setsquare/formula.operands",Rows.laid_setsquare_formula_operands)∈laid)
 (hm4:("setsquare/constraint.table",Rows.laid_setsquare_constraint_table)∈laid)
 {W:World}
 (hva:om W)
 (h:laidMetH Tryz.prog laid W):dy (fun _=>False) W:=by
 rw[MakeChecks.laidMetH_plain _ _ _ hp]at h;obtain⟨ps,hv,_⟩:=h;obtain⟨g,t,cs,fuel,p,h1,h2,h3,h4⟩:=gc hv hm;obtain rfl:=Option.some.inj (MU.symm.trans h1);obtain rfl:=Option.some.inj (MB.symm.trans h2);have hd:(Rows.laid_internal_strconv_uint64pow10:DataW Unit)=Lib.tabData .u64 Lib.pow10Tab:=rfl;rw[hd]at h4
 have ht:Lib.TabIs Tryz.prog W "internal/strconv.uint64pow10" .u64 Lib.pow10Tab:=by
  unfold Lib.TabIs;rw[h3,<- Lib.cells_of_tab underlying247 underlying169 FQ LN h4]
 refine⟨fun w' hb=>⟨Lib.tabBelow_of_tabIs ht w' hb,AR hva hb⟩,fun _ h=>h.elim,fun k cs h=>?_⟩;unfold GT at h;rcases nu h with⟨rfl,rfl⟩|h
 ·exact qc hv hm1 KU Lm LU (by simp) (n:=4) rfl rfl
 rcases nu h with⟨rfl,rfl⟩|h
 ·exact qc hv hm2 EM EE Fb (by simp) (n:=4) rfl rfl
 rcases nu h with⟨rfl,rfl⟩|h
 ·exact qc hv hm4 MH Mz Mn (by simp) (n:=5) rfl rfl
 rcases nu h with⟨rfl,rfl⟩|h
 ·exact qc hv hm3 B7 A5 Ah (by simp) (n:=4) rfl rfl
 cases h
end
def pw:Rat->Nat->Rat
 |q,0=>q
 |q,k+1=>pw q k*((10:Int):Rat)
theorem vF {n:Int} (h:n.natAbs<4294967296):dO 1 (n:Rat):=⟨Sz.small h,Sz.small (z:=1) (by decide)⟩
theorem GU {q:Rat} {n:Nat} (h:dO n q):∀k,dO (n+k) (pw q k)
 |0=>h
 |k+1=>by
  have:=dO.mul (GU h k) (vF (n:=10) (by decide))
  rwa[Nat.add_assoc]at this
def du (k:Nat) (t:List UInt8):List UInt8:=List.replicate (k+1-t.length) 48++t
def jc (k:Nat) (t:List UInt8):List UInt8:=if 0<k then(du k t).take ((du k t).length-k)++[46]++(du k t).drop ((du k t).length-k)else du k t
def lr (q:Rat):Nat->Nat->Option (List UInt8)
 |0,_=>none
 |n+1,k=>if((pw q k).den:Int)=1 then(if(jc k (fmt (pw q k).num)).length<=40 then some (jc k (fmt (pw q k).num))else none)else lr q n (k+1)
def fg (q:Rat):Option (List UInt8):=if KQ q<0 then none else lr q 41 0
def lR (na:Bool) (xs:List Nat) (nb:Bool) (ys:List Nat):Option (List UInt8):=if fw na xs nb ys then fg (Rat.divInt (bC na xs) (bC nb ys))else none
theorem oR (q:Rat):∀n k,∃K,k<=K/\K<=k+n/\(∀j,k<=j->j<K-> ¬((pw q j).den:Int)=1)/\((K=k+n/\lr q n k=none)∨(K<k+n/\((pw q K).den:Int)=1/\lr q n k=if(jc K (fmt (pw q K).num)).length<=40 then some (jc K (fmt (pw q K).num))else none))
 |0,k=>⟨k,Nat.le_refl _,Nat.le_refl _,fun j h1 h2=>by omega, .inl ⟨rfl,rfl⟩⟩
 |n+1,k=>by
  by_cases h:((pw q k).den:Int)=1
  ·exact⟨k,Nat.le_refl _,by omega,fun j h1 h2=>by omega, .inr ⟨by omega,h,by rw[lr,if_pos h]⟩⟩
  ·obtain⟨K,h1,h2,h3,h4⟩:=oR q n (k+1)
   refine⟨K,by omega,by omega,fun j hj hj2=>?_,?_⟩
   ·by_cases e:j=k
    ·subst e;exact h
    ·exact h3 j (by omega) hj2
   ·rw[lr,if_neg h]
    exact Pb
theorem lT {q:Rat} (h:¬KQ q<0):∃K,K<=41/\(∀j,j<K-> ¬((pw q j).den:Int)=1)/\((K=41/\fg q=none)∨(K<=40/\((pw q K).den:Int)=1/\fg q=if(jc K (fmt (pw q K).num)).length<=40 then some (jc K (fmt (pw q K).num))else none)):=by
 obtain⟨K,h1,h2,h3,h4⟩:=oR q 41 0;refine⟨K,by omega,fun j hj=>h3 j (Nat.zero_le _) hj,?_⟩;rw[fg,if_neg h];exact Pb
theorem yY (k:Nat) (t:List UInt8):(du k t).length=max (k+1) t.length:=by
 unfold du
 simp
 omega
theorem Ki (k:Nat) (t:List UInt8) (h:0<k):(jc k t).length=max (k+1) t.length+1:=by
 have:=yY k t;unfold jc;rw[if_pos h]
 simp only[List.length_append,List.length_take,List.length_drop,List.length_cons,List.length_nil]
 omega
theorem oX {q:Rat} {n:Nat} (sq:dO n q) (hn:n<=900):∃t,aa Tryz.prog 111 [dQ q] (.tup [dL t,dB (fg q).isSome])/\ ∀u,fg q=some u->t=u:=by
 have cv:aa Tryz.prog 155 [dQ q] (.one (dB true)):=vM q sq (by omega)
 by_cases hneg:KQ q<0
 ·have h0:fg q=none:=by rw[fg,if_pos hneg]
  refine⟨[],?_,fun u h=>by rw[h0]at h;cases h⟩;rw[h0];refine kV func111 ?_;refine kQ (cv) ?_;refine kC (sH q) ?_;refine kB true ?_ ?_
  ·exact decide_eq_true hneg
  exact ap
 ·obtain⟨K,k1,k2,k3⟩:=lT hneg
  have main:∀t b,(K=41->t=[]/\b=false)->(K<=40->t=jc K (fmt (pw q K).num)/\b=decide (t.length<=40))->aa Tryz.prog 111 [dQ q] (.tup [dL t,dB b]):=by
   intro t b g1 g2;refine kV func111 ?_;refine kQ (cv) ?_;refine kC (sH q) ?_;refine kB false ?_ ?_
   ·exact decide_eq_false hneg
   refine kW ?_;refine ae (ij 10 (by decide) (by decide) (q:=((10:Int):Rat)) rfl) rfl rfl rfl rfl rfl rfl rfl ?_;refine kW ?_;refine ae (fE 1 (by decide) (by decide)) rfl rfl rfl rfl rfl rfl rfl ?_;refine kW ?_
   refine ay Nat (fun k=>k<=K) (fun k=>⟨[(1, .box 0 0),(2, .d (dL [])),(3, .d (dB false)),(4, .box 3001 0),(5, .box 4001 0),(6, .box 5001 0),(7, .d (dN .i64 k))],[(0,some (aQ q)),(3001,some (aQ ((10:Int):Rat))),(4001,some (aZ 1)),(5001,some (aQ (pw q k)))]⟩) (fun k=>41-k) 0 (Nat.zero_le _)
    kw ?_
   intro k hk;have sk:=GU sq k;refine kI ?_;refine kO ?_
   by_cases h40:k<=40
   ·refine kT ?_
    refine kW ?_;have hcs:=Jk (pw q k).den 1
    by_cases hd1:((pw q k).den:Int)=1
    ·have hkK:k=K:=by
      rcases Nat.lt_or_ge k K with h|h
      ·exact absurd hd1 (k2 k h)
      ·omega
     rw[decide_eq_true hd1]at hcs;obtain⟨rfl,rfl⟩:=g2 (by omega);subst hkK;refine kQ (hcs) ?_;have hlen:(fmt (pw q k).num).length<=10*(n+k)+2:=CA sk.1;refine ae (tG (cM.of_lt sk.1 (by omega))) rfl rfl rfl rfl rfl rfl rfl ?_;unfold jc du;generalize fmt (pw q k).num=u at *;refine kW ?_
     refine ay Nat (fun j=>j<=k+1-u.length) (fun j=>⟨[(2, .d (dL [])),(3, .d (dB false)),(7, .d (dN .i64 k)),(8, .d (dL (List.replicate j 48++u)))],[]⟩) (fun j=>k+1-u.length-j) 0 (Nat.zero_le _)
      kw ?_
     intro j hj;have hB:(Bs (List.replicate j 48++u)).size=j+u.length:=by rw[aF];simp
     refine kI ?_
     refine kO3 ?_
     by_cases hjk:j+u.length<=k
     ·refine kT ?_
      refine kW ?_;refine aq rfl rfl rfl rfl rfl rfl rfl (aD (a:=[48]) (b:=List.replicate j 48++u) (by simp;omega)) ?_;refine kW ?_;exact⟨j+1,by omega,by omega,weak ⟨rfl,rfl,rfl,rfl,trivial⟩ trivial rfl⟩
     ·refine kE ?_
      obtain rfl:j=k+1-u.length:=by omega
      have hwl:(List.replicate (k+1-u.length) 48++u).length=k+1-u.length+u.length:=by simp
      generalize hwd:List.replicate (k+1-u.length) 48++u=w at *;refine At ?_;refine kI ?_;refine kO ?_
      by_cases hk0:0<k
      ·rw[if_pos hk0]
       refine kT ?_;refine kN ?_;refine bu (T:=TT) ?_;refine ee (T:=TT) rfl ?_;refine Ti ?_;refine R7 ?_;generalize hz:w.take (w.length-k)++[46]++w.drop (w.length-k)=z;have hzB:=aF z;refine QP ?_;refine cg (v':= .bool (decide (z.length<=40))) rfl rfl rfl rfl ?_ ?_
       ·exact Nr
       exact ap
      ·rw[if_neg hk0]
       refine kE ?_;refine kN ?_;refine bu (T:=TT) ?_;refine dM (T:=TT) rfl ?_;refine kI ?_
       refine kO3 ?_
       refine cg (v':= .bool (decide (w.length<=40))) rfl rfl rfl rfl ?_ ?_
       ·exact Nr
       exact ap
    ·rw[decide_eq_false hd1]at hcs
     refine kQ (hcs) ?_;refine ae (FF sk (vF (n:=10) (by decide)) (by omega) (q:=pw q (k+1)) rfl) rfl rfl rfl rfl rfl rfl rfl ?_;refine kW ?_
     exact⟨k+1,by
      rcases Nat.lt_or_ge k K with h|h
      ·exact h
      ·obtain rfl:k=K:=by omega
       rcases k3 with⟨e,_⟩| ⟨_,k3,_⟩
       ·omega
       ·exact absurd k3 hd1,by omega,weak ⟨rfl,rfl,rfl,rfl,rfl,rfl,an (by omega) (by omega),trivial⟩ ⟨rfl,rfl,rfl,rfl,trivial⟩ rfl⟩
   ·refine kE ?_
    obtain⟨rfl,rfl⟩:=g1 (by omega);exact ap
  rcases k3 with⟨e,h0⟩| ⟨e,h1,h2⟩
  ·exact Di
  ·exact Vl
abbrev lN:=Except (Nat × Int) (Ex × List Tk)
inductive Md where
 |sum
 |prod
 |un
 |prim
 |more (two:Bool) (e:Ex)
def tA:Bool->List UInt8->Option B4
 |false,[c]=>if c=43 then some .add else if c=45 then some .sub else none
 |true,[c]=>if c=42 then some .mul else if c=47 then some .div else none
 |_,_=>none
def fT (two:Bool):List Tk->Option (B4 × List Tk)
 |t::r=>if t.1=4 then(match tA two t.2.1 with|some k=>some (k,r)|none=>none)else none
 | []=>none
def bJ (c:UInt8):List Tk->Option (List Tk)
 |t::r=>if t.1=4/\t.2.1=[c]then some r else none
 | []=>none
def J0:List Tk->Nat
 |t::_=>t.2.2
 | []=>0
noncomputable def jB (t:Tk) (r:List Tk):lN:=match gJ t.2.1 with
 |none=> .error (t.2.2,2)
 |some q=>match fg q with
  |none=> .error (t.2.2,3)
  |some _=>match r with
   |u::r'=>if u.1=1 then .ok (.num q u.2.1,r')else .ok (.num q [],r)
   | []=> .ok (.num q [],r)
def jD:Bool->Md
 |false=> .prod
 |true=> .un
noncomputable def pP:Nat->Md->List Tk->Option lN
 |0,_,_=>none
 |f+1, .sum,ts=>match pP f .prod ts with
  |some (.ok (e,r))=>pP f (.more false e) r
  |x=>x
 |f+1, .prod,ts=>match pP f .un ts with
  |some (.ok (e,r))=>pP f (.more true e) r
  |x=>x
 |f+1, .more two e,ts=>match fT two ts with
  |some (k,r)=>match pP f (jD two) r with
   |some (.ok (e2,r2))=>pP f (.more two (.bin k e e2)) r2
   |x=>x
  |none=>some (.ok (e,ts))
 |f+1, .un,ts=>match bJ 45 ts with
  |some r=>match pP f .un r with
   |some (.ok (e,r2))=>some (.ok (.neg e,r2))
   |x=>x
  |none=>pP f .prim ts
 |f+1, .prim,ts=>match bJ 40 ts with
  |some r=>match pP f .sum r with
   |some (.ok (e,r2))=>match bJ 41 r2 with
    |some r3=>some (.ok (e,r3))
    |none=>some (.error (J0 r2,2))
   |x=>x
  |none=>match ts with
   |t::r=>if t.1=2 then some (jB t r)else if t.1=1 then some (.ok (.nam t.2.1,r))else some (.error (t.2.2,2))
   | []=>some (.error (0,2))
theorem jL (f:Nat) (ts:List Tk):pP (f+1) .sum ts=match pP f .prod ts with
 |some (.ok (e,r))=>pP f (.more false e) r
 |x=>x:=rfl
theorem gZ (f:Nat) (ts:List Tk):pP (f+1) .prod ts=match pP f .un ts with
 |some (.ok (e,r))=>pP f (.more true e) r
 |x=>x:=rfl
theorem eW (f:Nat) (two:Bool) (e:Ex) (ts:List Tk):pP (f+1) (.more two e) ts=match fT two ts with
 |some (k,r)=>match pP f (jD two) r with
  |some (.ok (e2,r2))=>pP f (.more two (.bin k e e2)) r2
  |x=>x
 |none=>some (.ok (e,ts)):=rfl
theorem kl (f:Nat) (ts:List Tk):pP (f+1) .un ts=match bJ 45 ts with
 |some r=>match pP f .un r with
  |some (.ok (e,r2))=>some (.ok (.neg e,r2))
  |x=>x
 |none=>pP f .prim ts:=rfl
theorem fC (f:Nat) (ts:List Tk):pP (f+1) .prim ts=match bJ 40 ts with
 |some r=>match pP f .sum r with
  |some (.ok (e,r2))=>match bJ 41 r2 with
   |some r3=>some (.ok (e,r3))
   |none=>some (.error (J0 r2,2))
  |x=>x
 |none=>match ts with
  |t::r=>if t.1=2 then some (jB t r)else if t.1=1 then some (.ok (.nam t.2.1,r))else some (.error (t.2.2,2))
  | []=>some (.error (0,2)):=rfl
theorem sR {two:Bool} {ts r:List Tk} {k:B4} (h:fT two ts=some (k,r)):r.length<ts.length:=by
 cases ts with
 |nil=>cases h
 |cons t r'=>
  simp only[fT]at h
  split at h
  ·split at h
   ·cases h;simp
   ·cases h
  ·cases h
theorem eJ {c:UInt8} {ts r:List Tk} (h:bJ c ts=some r):r.length<ts.length:=by
 cases ts with
 |nil=>cases h
 |cons t r'=>
  simp only[bJ]at h
  split at h
  ·cases h;simp
  ·cases h
theorem xX {t:Tk} {r r2:List Tk} {e:Ex} (h:jB t r= .ok (e,r2)):r2.length<=r.length:=by
 unfold jB at h
 split at h
 ·cases h
 ·split at h
  ·cases h
  ·split at h
   ·split at h
    ·cases h;simp
    ·cases h;exact Nat.le_refl _
   ·cases h;exact Nat.le_refl _
theorem kA:∀(f:Nat) (m:Md) (ts:List Tk) (x:lN),pP f m ts=some x->pP (f+1) m ts=some x
 |0,_,_,_,h=>by cases h
 |f+1, .sum,ts,x,h=>by
  rw[jL]at h ⊢;cases h1:pP f .prod ts with
  |none=>rw[h1]at h;cases h
  |some y=>
   exact CE
 |f+1, .prod,ts,x,h=>by
  rw[gZ]at h ⊢;cases h1:pP f .un ts with
  |none=>rw[h1]at h;cases h
  |some y=>
   exact CE
 |f+1, .more two e,ts,x,h=>by
  rw[eW]at h ⊢;cases h0:fT two ts with
  |none=>rw[h0]at h;exact h
  |some p=>
   obtain⟨k,r⟩:=p;rw[h0]at h;dsimp only at h ⊢;cases h1:pP f (jD two) r with
   |none=>rw[h1]at h;cases h
   |some y=>
    exact CE
 |f+1, .un,ts,x,h=>by
  rw[kl]at h ⊢;cases h0:bJ 45 ts with
  |none=>rw[h0]at h;exact kA f _ _ _ h
  |some r=>
   rw[h0]at h;dsimp only at h ⊢;cases h1:pP f .un r with
   |none=>rw[h1]at h;cases h
   |some y=>
    rw[h1]at h;rw[kA f _ _ _ h1];exact h
 |f+1, .prim,ts,x,h=>by
  rw[fC]at h ⊢;cases h0:bJ 40 ts with
  |none=>rw[h0]at h;exact h
  |some r=>
   rw[h0]at h;dsimp only at h ⊢;cases h1:pP f .sum r with
   |none=>rw[h1]at h;cases h
   |some y=>
    rw[h1]at h;rw[kA f _ _ _ h1];exact h
theorem jP {f f':Nat} (hf:f<=f') {m:Md} {ts:List Tk} {x:lN} (h:pP f m ts=some x):pP f' m ts=some x:=by
 induction hf with
 |refl=>exact h
 |step _ ih=>exact kA _ _ _ _ ih
theorem gC:∀(f:Nat) (m:Md) (ts:List Tk) (e:Ex) (r:List Tk),pP f m ts=some (.ok (e,r))->r.length<=ts.length/\((∀two x,m≠ .more two x)->r.length<ts.length)
 |0,_,_,_,_,h=>by cases h
 |f+1, .sum,ts,e,r,h=>by
  rw[jL]at h
  split at h
  ·rename_i e1 r1 h1
   exact JX
  ·exact LP
 |f+1, .prod,ts,e,r,h=>by
  rw[gZ]at h
  split at h
  ·rename_i e1 r1 h1
   exact JX
  ·exact LP
 |f+1, .more two e0,ts,e,r,h=>by
  rw[eW]at h;refine⟨?_,fun hm=>absurd rfl (hm two e0)⟩
  split at h
  ·rename_i k r1 h0
   have hl:=sR h0
   split at h
   ·rename_i e1 r2 h1
    have a:=(gC f _ _ _ _ h1).1;have b:=(gC f _ _ _ _ h).1;omega
   ·exact LP
  ·cases h;exact Nat.le_refl _
 |f+1, .un,ts,e,r,h=>by
  rw[kl]at h
  split at h
  ·rename_i r1 h0
   have hl:=eJ h0
   split at h
   ·rename_i e1 r2 h1
    have a:=(gC f _ _ _ _ h1).1;cases h;exact⟨by omega,fun _=>by omega⟩
   ·exact LP
  ·exact⟨(gC f _ _ _ _ h).1,fun _=>(gC f _ _ _ _ h).2 (fun _ _ h=>by cases h)⟩
 |f+1, .prim,ts,e,r,h=>by
  rw[fC]at h
  split at h
  ·rename_i r1 h0
   have hl:=eJ h0
   split at h
   ·rename_i e1 r2 h1
    have a:=(gC f _ _ _ _ h1).1
    split at h
    ·rename_i r3 h2
     have b:=eJ h2;cases h;exact⟨by omega,fun _=>by omega⟩
    ·cases h
   ·exact LP
  ·split at h
   ·rename_i t r1 _
    split at h
    ·injection h with h
     have:=xX h;exact⟨by simp;omega,fun _=>by simp;omega⟩
    ·split at h
     ·cases h;exact⟨by simp,fun _=>by simp⟩
     ·cases h
   ·cases h
def rk:Md->Nat
 | .sum=>4
 | .prod=>3
 | .un=>2
 | .prim=>1
 | .more _ _=>0
theorem Rw:∀(n:Nat) (m:Md) (ts:List Tk),5*ts.length+rk m+1<=n-> ∃x,pP n m ts=some x:=by
 intro n
 induction n using Nat.strongRecOn with
 |_ n ih=>
  intro m ts hn;cases n with
  |zero=>omega
  |succ f=>
   cases m with
   |sum=>
    obtain⟨y,hy⟩:=ih f (by omega) .prod ts (by simp only[rk]at hn ⊢;omega);rw[jL,hy];cases y with
    |error e=>exact⟨_,rfl⟩
    |ok y=>
     obtain⟨e,r⟩:=y;have:=(gC f _ _ _ _ hy).1;exact ih f (by omega) (.more false e) r (by simp only[rk]at hn ⊢;omega)
   |prod=>
    obtain⟨y,hy⟩:=ih f (by omega) .un ts (by simp only[rk]at hn ⊢;omega);rw[gZ,hy];cases y with
    |error e=>exact⟨_,rfl⟩
    |ok y=>
     obtain⟨e,r⟩:=y;have:=(gC f _ _ _ _ hy).1;exact ih f (by omega) (.more true e) r (by simp only[rk]at hn ⊢;omega)
   |un=>
    rw[kl];cases h0:bJ 45 ts with
    |none=>exact ih f (by omega) .prim ts (by simp only[rk]at hn ⊢;omega)
    |some r=>
     have hl:=eJ h0;obtain⟨y,hy⟩:=ih f (by omega) .un r (by simp only[rk]at hn ⊢;omega);dsimp only;rw[hy];cases y with
     |error e=>exact⟨_,rfl⟩
     |ok y=>exact⟨_,rfl⟩
   |prim=>
    rw[fC];cases h0:bJ 40 ts with
    |none=>
     cases ts with
     |nil=>exact⟨_,rfl⟩
     |cons t r=>
      dsimp only
      split
      ·exact⟨_,rfl⟩
      ·split
       ·exact⟨_,rfl⟩
       ·exact⟨_,rfl⟩
    |some r=>
     have hl:=eJ h0;obtain⟨y,hy⟩:=ih f (by omega) .sum r (by simp only[rk]at hn ⊢;omega);dsimp only;rw[hy];cases y with
     |error e=>exact⟨_,rfl⟩
     |ok y=>
      obtain⟨e,r2⟩:=y;dsimp only
      split
      ·exact⟨_,rfl⟩
      ·exact⟨_,rfl⟩
   |more two e0=>
    rw[eW];cases h0:fT two ts with
    |none=>exact⟨_,rfl⟩
    |some p=>
     obtain⟨k,r⟩:=p;have hl:=sR h0;dsimp only;obtain⟨y,hy⟩:=ih f (by omega) (jD two) r (by cases two<;>(simp only[jD,rk]at hn ⊢;omega));rw[hy];cases y with
     |error e=>exact⟨_,rfl⟩
     |ok y=>
      obtain⟨e,r2⟩:=y;have h2:r2.length<r.length:=(gC f _ _ _ _ hy).2 (by cases two<;>(intro _ _ h;cases h))
      exact ih f (by omega) (.more two (.bin k e0 e)) r2 (by simp only[rk]at hn ⊢;omega)
section
variable {P:Program} {T:TypeId->Option Ty} {n:Nat} {ops:Array Oper} {id:Nat} {draw:Bool} {K:AS->Prop} {s:AS} {k:Nat} {o:Oper} {os:List Oper} {fps:List FP}
theorem OK (hT:∀t d,T t=some d->a8 P t d) {t:TypeId} {ty:Ty} {x y:Operand} {et q m i:Nat} {ik:IntKind} {cs:List AV} (hcs:cs.length<=m*q) (hi:i<=m) (h1:gd ops s o=some true) (h2:o.op= .slice t x (some y) none none) (h5:T t=some ty) (h6:ty.elem=some (et,q)) (h7:s.ev x= .d (.leaf (.sl m cs))) (h8:s.ev y= .d (.leaf (.val (.int ik (i:Nat)))))
 (h3:aL n o.dst=true) (h4:fh draw ops (aB ops o ⟨.d (.leaf (.sl (m-i) (cs.drop (i*q)))),none⟩ []) k fps=true) (h:au P T n ops id draw K (k+1) os (s.eff o.dst ⟨.d (.leaf (.sl (m-i) (cs.drop (i*q)))),none⟩) (aB ops o ⟨.d (.leaf (.sl (m-i) (cs.drop (i*q)))),none⟩ []::fps)):au P T n ops id draw K k (o::os) s fps:=by
 refine .run h1 (.gen fun s2 ht _=>?_) h3 h4 h;have hx:=(ax ht (x:=x) (by simp[h2,Op.operands])).trans h7;have hy:=(ax ht (x:=y) (by simp[h2,Op.operands])).trans h8;obtain⟨u,hu,_,hel,_⟩:=(hT _ _ h5).und;obtain⟨rfl,hks⟩:=hel et q h6;refine am fun n S0 w0 g a w hM=>?_
 have hm:=hM.ev x;rw[hx]at hm;have hm:AV.M (Own S0 g s2) w (.sl m cs) (a.eval x):=hm;have hiv:=bg hM hy
 have key:∃v,(Instr.sliceAt t (a.eval x) (some (.int ik (i:Nat))) none none).run P w= .ok v w/\AV.M (Own S0 g s2) w (.sl (m-i) (cs.drop (i*q))) v:=by
  generalize a.eval x=v at hm;have hib:(0:Int)<=(i:Int)/\(i:Int)<=(m:Nat):=⟨by omega,by omega⟩
  have run:∀(A:Option Addr) (c:Nat),(Instr.sliceAt t (.slice A m c) (some (.int ik (i:Nat))) none none).run P w= .ok (.slice (if c=i then A else A.map (·.add (i*q))) (m-i) (c-i)) w:=fun A c=>by
   refine N8 ?_;unfold Instr.slice
   simp only[Sem.run_bind,run_underlying hu w,Result.andThen_ok,Instr.sliceBounds,Instr.sliceBound,Sem.run_pure,asIntOf]
   rw[if_pos hib]
   simp only[Sem.run_pure,Result.andThen_ok,Int.toNat_natCast]
   rw[bE hks w];rfl
  cases hm with
  |emp e1 e2 e3=>
   rename_i A c
   refine⟨_,run A c,?_⟩;rw[List.drop_nil];refine .emp (by omega) (by omega) (fun hA=>?_)
   split at hA
   ·rename_i hci;omega
   ·have:A=none:=by cases A<;>simp_all
    have:=e3 this;omega
  |sl f e1 e2 e3 e4 e5 e6=>
   rename_i b off c
   refine⟨_,run _ c,?_⟩
   by_cases hci:c=i
   ·rw[if_pos hci]
    have hd:cs.drop (i*q)=[]:=List.drop_eq_nil_of_le (by rw[show i=m by omega];exact hcs);rw[hd];exact .emp (by omega) (by omega) (fun h=>by cases h)
   ·rw[if_neg hci]
    show AV.M _ _ _ (.slice (some ((⟨b,off,none⟩:Addr).add (i*q))) (m-i) (c-i));rw[b7];refine .sl (fun j=>f (i*q+j)) (by omega) (by omega) e3 e4 (fun j x hj=>?_) (fun j x hj=>?_)
    ·rw[List.getElem?_drop]at hj
     rw[Nat.add_assoc];exact e5 _ _ hj
    ·rw[List.getElem?_drop]at hj
     exact e6 _ _ hj
 obtain⟨v,hr,hv⟩:=key;refine⟨v,w,?_,Below.refl _ _,hv⟩;unfold execOp;rw[h2]
 simp only[hiv,Option.map_some,Option.map_none,Sem.run_bind,hr,Result.andThen_ok]
 rfl
theorem pG {w:World} {t kt et:TypeId} {r:Nat} {es:Array MapEntry} {clk:Nat} {key:ByteArray} {v:Value} (hm:P.underlying t=some (.map kt et)) (hk:P.underlying kt=some .string) (hb:w.heap[r]? =some (.map es clk)) (hf:Instr.findNow .string (.string key) es.toList 0=some none):
 (Instr.mapUpdate t (.map (some r)) (.string key) v).run P w= .ok () { w with heap:=w.heap.setIfInBounds r (.map (es.push { key:= .string key,val:=v,born:=clk }) (clk+1)) }:=by
 have hc:(Instr.checkKey false 10000 kt (.string key)).run P w= .ok () w:=MapKept.run_checkKey hk (by simp[MapKept.IsKey]) false 9999
 simp[Instr.mapUpdate,run_underlying hm,MapKept.run_getObj_map hb,hc,MapKept.run_findKey hk hf,MapKept.run_setObj_map _ hb,Result.andThen]
theorem Q7 {o1 o2 o3:Oper} {d:Nat} {t kt et:TypeId} {k1 k2:ByteArray} {v1 v2:Value} (hm:P.underlying t=some (.map kt et)) (hk:P.underlying kt=some .string) (h0:draw=false) (h1:o1.op= .makeMap t none) (h2:o2.op= .insert t (.tmp d) (.const (.string k1)) (.const v1)) (h3:o3.op= .insert t (.tmp d) (.const (.string k2)) (.const v2)) (hd:o1.dst=some d) (hg:o1.guard=none/\o2.guard=none/\o3.guard=none) (hd2:o2.dst=none) (hd3:o3.dst=none) (hdn:aL n o1.dst=true) (hne:(k2 == k1)=false)
 (h:au P T n ops id draw K (k+3) os ⟨(d, .mp [(.string k1,v1),(.string k2,v2)])::s.t,s.b⟩ fps):au P T n ops id draw K k (o1::o2::o3::os) s fps:=by
 refine .snd3 h0 hg (fun S0 w0 g a w K' Q hM hK=>?_) h;have hdl:d<n:=dG hdn d hd
 generalize hr:w.heap.size=r
 have hev:((a.put (some d) (.map (some r))).eval (.tmp d))= .map (some r):=by
  have:d<a.tmps.size:=by rw[hM.sz];exact hdl
  simp[Act.eval,Act.put,this]
 have b1:(w.alloc (.map #[] 0)).heap[r]? =some (.map #[] 0):=by rw[<- hr];exact heap_alloc_new w _
 have r1:=pG (P:=P) (w:=w.alloc (.map #[] 0)) (key:=k1) (v:=v1) hm hk b1 rfl;generalize he1:({ key:= .string k1,val:=v1,born:=0 }:MapEntry)=e1 at r1;have hk1:e1.key= .string k1:=by rw[<- he1]
 have hv1:e1.val=v1:=by rw[<- he1]
 generalize hw2:({ (w.alloc (.map #[] 0))with heap:=(w.alloc (.map #[] 0)).heap.setIfInBounds r (.map (#[].push e1) (0+1)) }:World)=w2 at r1
 have b2:w2.heap[r]? =some (.map #[e1] 1):=by
  rw[<- hw2];have:r<(w.alloc (.map #[] 0)).heap.size:=(Array.getElem?_eq_some_iff.1 b1).1
  show(Array.setIfInBounds _ r _)[r]? =_;rw[Array.getElem?_setIfInBounds,if_pos rfl,if_pos this];rfl
 have r2:=pG (P:=P) (w:=w2) (key:=k2) (v:=v2) hm hk b2 (by simp[Instr.findNow,Instr.sameNow,hk1,hne]);generalize he2:({ key:= .string k2,val:=v2,born:=1 }:MapEntry)=e2 at r2;have hk2:e2.key= .string k2:=by rw[<- he2]
 have hv2:e2.val=v2:=by rw[<- he2]
 have hfin:({ w2 with heap:=w2.heap.setIfInBounds r (.map (#[e1].push e2) (1+1)) }:World)=w.alloc (.map #[e1,e2] 2):=by
  have hA:∀o:Obj,w.alloc o={ w with heap:=w.heap.push o }:=fun _=>rfl
  rw[<- hw2,<- hr,hA,hA];show({ w with heap:=Array.setIfInBounds (Array.setIfInBounds (w.heap.push _) w.heap.size _) w.heap.size _ }:World)={ w with heap:=w.heap.push _ }
  congr 1
  apply Array.ext_getElem?
  intro i
  simp only[Array.getElem?_setIfInBounds,Array.getElem?_push,Array.size_setIfInBounds,Array.size_push]
  by_cases hi:i=w.heap.size
  ·subst hi;simp
  ·have:¬w.heap.size=i:=fun e=>hi e.symm
   simp[this,hi]
 have q1:(execOp a.eval o1).run P w= .ok (.value (.map (some r))) (w.alloc (.map #[] 0)):=by
  unfold execOp;rw[h1,<- hr];rfl
 generalize ha1:a.put (some d) (.map (some r))=a1 at hev;have hev:a1.tmps.getD d Go.undef= .map (some r):=hev
 have q2:(execOp a1.eval o2).run P (w.alloc (.map #[] 0))= .ok .skip w2:=by
  unfold execOp;rw[h2]
  simp only[Act.eval,hev,Sem.run_bind,r1,Result.andThen_ok,Sem.run_pure]
 have q3:(execOp a1.eval o3).run P w2= .ok .skip (w.alloc (.map #[e1,e2] 2)):=by
  unfold execOp;rw[h3]
  simp only[Act.eval,hev,Sem.run_bind,r2,hfin,Result.andThen_ok,Sem.run_pure]
 have fin:MG n S0 w0 g ⟨(d, .mp [(.string k1,v1),(.string k2,v2)])::s.t,s.b⟩ a1 (w.alloc (.map #[e1,e2] 2)):=by
  rw[<- ha1];refine hM.put hdl ((Below.refl _ _).alloc (Nat.le_refl _) _) ⟨r,#[e1,e2],2,rfl,by rw[<- hr];exact heap_alloc_new w _,fun hS=>?_,by simp[hk1,hv1,hk2,hv2]⟩;have:=hM.own_lt hS;omega
 unfold Oper.wp;rw[q1,Oper.upon_value,hd,ha1];show o2.upon P a1 _ Q ((execOp a1.eval o2).run P (w.alloc (.map #[] 0)));rw[q2,Oper.upon_skip,hd2];show o3.upon P a1 _ Q ((execOp a1.eval o3).run P w2);rw[q3,Oper.upon_skip,hd3];exact hK g _ _ fin
def Ue (k:ByteArray):List (Value × Value)->Option Value
 | []=>none
 |(.string a,v)::r=>match k == a with
  |true=>some v
  |false=>Ue k r
 |_::_=>none
theorem pF {k:ByteArray} {v:Value}:∀(l:List MapEntry) (i:Nat),Ue k (l.map fun e=>(e.key,e.val))=some v-> ∃j,Instr.findNow .string (.string k) l i=some (some (j,v))
 | [],_,h=>by cases h
 |e::r,i,h=>by
  simp only[List.map_cons]at h
  cases hk:e.key<;>rw[hk]at h<;>try(cases h)
  rename_i a
  simp only[Ue]at h
  simp only[Instr.findNow,hk,Instr.sameNow]
  cases hb:k == a
  ·rw[hb]at h
   exact pF r (i+1) h
  ·rw[hb]at h
   cases h;exact⟨i,rfl⟩
theorem GH {t kt et:TypeId} {x y:Operand} {es:List (Value × Value)} {key:ByteArray} {v:Value} (hm:P.underlying t=some (.map kt et)) (hk:P.underlying kt=some .string) (hl:Ue key es=some v) (hp:v.oneCell'=true) (h1:gd ops s o=some true) (h2:o.op= .lookup t x y false) (h7:s.ev x= .mp es) (h8:s.ev y= .d (.leaf (.val (.string key))))
 (h3:aL n o.dst=true) (h4:fh draw ops (aB ops o ⟨.d (.leaf (.val v)),none⟩ []) k fps=true) (h:au P T n ops id draw K (k+1) os (s.eff o.dst ⟨.d (.leaf (.val v)),none⟩) (aB ops o ⟨.d (.leaf (.val v)),none⟩ []::fps)):au P T n ops id draw K k (o::os) s fps:=by
 refine .run h1 (.gen fun s2 ht _=>?_) h3 h4 h;have hx:=(ax ht (x:=x) (by simp[h2,Op.operands])).trans h7;have hy:=(ax ht (x:=y) (by simp[h2,Op.operands])).trans h8;refine am fun n S0 w0 g a w hM=>⟨v,w,?_,Below.refl _ _,AV.M.val hp⟩
 have hmx:=hM.ev x;rw[hx]at hmx;obtain⟨r,ents,clk,e1,e2,_,e4⟩:=hmx;obtain⟨j,hj⟩:=pF ents.toList 0 (by rw[e4];exact hl);have hc:(Instr.checkKey ents.isEmpty 10000 kt (.string key)).run P w= .ok () w:=MapKept.run_checkKey hk (by simp[MapKept.IsKey]) _ 9999;unfold execOp;rw[h2]
 simp[e1,bg hM hy,Instr.lookup,run_underlying hm,MapKept.run_getObj_map e2,hc,MapKept.run_findKey hk hj,Result.andThen]
def UR (s:AS):Bool:=oE (s.tv DK)
theorem CG {f:Operand} {fid:FuncId} {args:Array Operand} {ts:Array TypeId} {cs:List CV} (h0:draw=false) (h1:gd ops s o=some true) (ho:o.op= .defer ⟨.value f,args,ts⟩) (hdst:o.dst=none) (hf:s.ev f= .d (.leaf (.val (.func (.func fid) #[] #[])))) (ha:mE s args.toList=some cs) (hd:UR s=true)
 (h:au P T n ops id draw K (k+1) os ⟨(DK, .dfr fid cs)::s.t,s.b⟩ (aB ops o ⟨.junk,none⟩ []::fps)):au P T n ops id draw K k (o::os) s fps:=by
 refine .snd h0 h1 (fun S0 w0 g a w K' Q hM hK=>?_) h;have hv:=bg hM hf;have hc:=my hM ha;have e:(List.map a.eval args.toList).toArray=args.map a.eval:=Array.ext' (by simp)
 have hr:(execOp a.eval o).run P w= .ok (.defer ⟨.fn (.func fid) #[],(args.toList.map a.eval).toArray⟩) w:=by
  unfold execOp;rw[ho]
  simp only[resolve,hv,Deferred.ofValue,Sem.run_bind,Sem.run_pure,Result.andThen_ok,e,Array.empty_append]
 unfold Oper.wp;rw[hr,Oper.upon_defer,hdst];refine hK g _ w ⟨fun i=>?_,fun i ci hi=>?_,hM.inj,hM.grow,?_,hM.sz,hM.cl,hM.tg,fun k cs hk=>(hM.gl k cs hk).sameB rfl,hM.gp,hM.nk⟩
 ·by_cases hi:DK=i
  ·subst hi
   have e0:(AS.mk ((DK, .dfr fid cs)::s.t) s.b).tv DK= .dfr fid cs:=by simp[AS.tv,ai]
   rw[e0]
   trivial
  ·have e0:(AS.mk ((DK, .dfr fid cs)::s.t) s.b).tv i=s.tv i:=by simp[AS.tv,ar _ _ hi]
   rw[e0];exact(hM.tm i).sameB rfl
 ·obtain⟨h2,h3⟩:=hM.bm i ci hi
  exact⟨h2,h3.sameB rfl⟩
 ·have e0:(AS.mk ((DK, .dfr fid cs)::s.t) s.b).tv DK= .dfr fid cs:=by simp[AS.tv,ai]
  rw[e0];refine⟨args.toList.map a.eval,?_,pJ.sameB (s:=s) (s':=⟨(DK, .dfr fid cs)::s.t,s.b⟩) rfl hc⟩;have h2:=(zY.no hd).1 hM.df;show _::a.defers=_;rw[h2]
end
section
variable {P:Program} {T:TypeId->Option Ty}
structure Vk (P:Program) (s:AS) (b':BL) (fid:FuncId) (cs:List CV) (b1:BL) (r1:RT) (b2:BL):Prop where
 dk:s.tv DK= .dfr fid cs
 one:qB cs=true
 body:gH P fid (cs.map SY) b1 r1 b2
 kn:(DN (av b1) ((cs.map SY).flatMap dJ) && tp (av b1) (av b1))=true
 bx:qu s (av b1)
 cl:dz (b1.map (·.1)) s.b=true
 new:lZ s b1 b2=true
 fin:qu ⟨s.t,av b2++c7 b2 b1++s.b⟩ (av b')
def T2 (P:Program) (T:TypeId->Option Ty) (s:AS) (rs:List ResultVar) (b':BL):Prop:=MN T s rs (.v (.tup [])) b'∨ ∃fid cs b1 r1 b2,Vk P s b' fid cs b1 r1 b2
theorem CallsD.mono {f:FuncId} {args:Array Value} {u:FrameMode} {w:World} {R R':Ending->FrameMode->World->Prop} (h:CallsD P f args u w R) (hR:∀e u' w',R e u' w'->R' e u' w'):CallsD P f args u w R':=fun c cs hu=>by
 obtain⟨e,u',w',fr,h1,h2⟩:=h c cs hu;exact⟨e,u',w',fr,hR _ _ _ h1,h2⟩
theorem gh (hT:∀t d,T t=some d->a8 P t d) (hmix:P.follows .mixedOrders=true) {f:FuncId} {fn:Func} {c:Code} {ts:List TV} {b b':BL} (hf:P.funcs[f]? =some fn) (hb:fn.body=some c) (hn:(fn.name == "runtime.NumGoroutine")=false) (hsz:(Nat.ble ts.length fn.ntmps && Nat.ble fn.ntmps DK)=true) (hrs:fn.results= #[])
 (hrv:rf b' b=true) (hkn:xL (.v (.tup [])) b'=true) (hlen:dp b b')
 (h:ff P T fn.ntmps c (fun e s=>match e with| .exit _=>False|_=>T2 P T s fn.results.toList b') ⟨uh 0 ts,av b⟩):aw P f ts b (.v (.tup [])) b':=by
 unfold xL at hkn;rw[Bool.and_eq_true]at hkn hsz;obtain⟨hwfc,_⟩:=hkn;obtain⟨hsz,hnk⟩:=hsz;have hsz:=Nat.le_of_ble_eq_true hsz;have hnk:=Nat.le_of_ble_eq_true hnk
 have hres:∀(t:Array Value) (w:World),(results fn t).run P w= .ok (.tuple #[]) w:=fun t w=>by
  unfold results;rw[hrs]
  simp
 refine⟨fun args w=>?_,fun S g w vs hS hv=>?_⟩
 ·exact OI
 ·refine calls_of_wp_defers hf hb (wp_mono (oy (S0:=S) (w0:=pu g w b) hT hmix c _ _ _ w h (xE hS hv hsz hnk)) fun e a w1 hq=>?_)
  have nil:∀g1 w2,TV.M (Own S g1 (sB b')) g1 (sB b') w2 (RT.v (.tup [])).tv (.tuple #[]):=fun g1 w2=>⟨[],rfl,rfl,fun i x u h1 _=>by simp at h1⟩
  have fin:∀s,T2 P T s fn.results.toList b'->M fn.ntmps S (pu g w b) s a w1->Leaves P fn a.tmps (wk S g b (.v (.tup [])) b' w) a.defers .returning w1:=by
   rintro s (⟨⟨l,h1,_⟩,hwk⟩| ⟨fid,cs,b1,r1,b2,hD⟩) ⟨g1,hm⟩
   ·rw[(zY.no (iD h1)).1 hm.df]
    exact⟨_,hres _ _,Cf hrv hwfc hlen hwk hm (nil _ _)⟩
   ·have hdf:=hm.df
    rw[hD.dk]at hdf;obtain⟨us,e1,hcv⟩:=hdf;rw[e1];have hkw:=hD.kn;rw[Bool.and_eq_true]at hkw;obtain⟨S1,hpre,hO,hpost⟩:=hm.callT (b:=b1) (b':=b2) hD.bx hkw.2 (BU hD.cl) (fun j cs hj hn=>qf hD.new (bM.1 hj) hn);have inb:∀j cs,(sB b1).bx j=some cs->s.bx j=some cs:=fun j cs hj=>hD.bx.at (bM.1 hj)
    obtain⟨fn1,c1,hf1,hb1,hw1⟩:=hD.body.body;refine⟨(by simp), .func fid,#[],fid,us.toArray,rfl,?_,?_⟩
    ·have:=hD.body.enter us.toArray w1
     simp only[invoke]
     simpa using this
    ·refine CallsD.mono (callsD_of_wp hf1 hb1 (hw1 S1 g1 w1 us hpre (by rw[hO];exact qj inb (BJ hkw.1) (rR hD.one hcv)))) fun e u' w2 hq=>?_
     obtain⟨rfl,v,g2,rfl,k2,k3,k4,k5,k6⟩:=hq;obtain⟨g3,hm3⟩:=hpost r1 v g2 w2 k2 k3 k4 k5 k6 none (fun d h=>by cases h);exact⟨_,hres _ _,Cf hrv hwfc hlen hD.fin hm3 (nil _ _)⟩
  exact PG
end
theorem pS (s:List UInt8) (c:UInt8):aa Tryz.prog 228 [dL s,dL [c]] (.one (dB (decide (0<=Lib.indexByte s c)))):=
 ⟨aA func228 rfl rfl,fun S w vs hS hv=>by
  match vs,hv with
  | [v,u],⟨h1,h2,_⟩=>
   obtain rfl:=a6 h1;obtain rfl:=a6 h2;refine(Tryz.strings_Contains_one (Bs s) c w).mono ?_;rintro e w' ⟨rfl,rfl⟩;exact⟨_,rfl,AV.M.val rfl,Below.refl _ _⟩⟩
def fF (ts:List Tk) (a e:Int):List AV:=[.sl ts.length (ga ts), .val (.int .i64 a), .val (.int .i64 e)]
theorem gA {ts ts':List Tk} {a e a' e':Int}:dp [(900,fF ts a e)] [(900,fF ts' a' e')]:=dp.one (Nat.le_refl 3)
theorem dh (t:Tk) (r:List Tk) (a e:Int):aw Tryz.prog 79 [.box 900 0] [(900,fF (t::r) a e)] (.v (.one (.agg (Bw t)))) [(900,fF (t::r) a e)]:=by
 refine aS ah dq func79 rfl rfl rfl rfl rfl (gA) ?_;refine mH ?_
 refine aG (i:=0) (cs':=Bw t) (Nat.zero_lt_succ _) (fun j a h=>by
  rw[Nat.zero_mul,Nat.zero_add];show(Bw t++ga r)[j]? =some a;rw[List.getElem?_append_left (List.getElem?_eq_some_iff.1 h).1];exact h) (Nat.zero_lt_succ 2) rfl rfl rfl rfl rfl rfl rfl rfl ?_
 exact ju
theorem jg (t:Tk) (r:List Tk) (a e:Int):aw Tryz.prog 170 [.box 900 0] [(900,fF (t::r) a e)] (.v (.one (.agg (Bw t)))) [(900,fF r a e)]:=by
 refine aS ah dq func170 rfl rfl rfl rfl rfl (gA) ?_;refine gL ?_;refine kD (dh t r a e) ?_;refine kG ?_
 refine kO5 ?_
 refine OK (m:=(t::r).length) (i:=1) (q:=3) ah (by rw[xD];exact Nat.le_refl _) (by simp) rfl rfl rfl rfl rfl rfl rfl rfl ?_;exact ju
def Fc (ox:List UInt8) (t:Tk):Bool:=match t.2.1 with
 | [c]=>decide (0<=Lib.indexByte ox c)
 |_=>false
theorem qA (ox:List UInt8) (t:Tk) (r:List Tk) (a e:Int) (hk:t.1=4-> ∃c,t.2.1=[c]):aw Tryz.prog 169 [.box 900 0, .d (dL ox)] [(900,fF (t::r) a e)] (.v (.one (dB (decide (e=0) && (decide (t.1=4) && Fc ox t))))) [(900,fF (t::r) a e)]:=by
 obtain⟨k,x,p⟩:=t;dsimp only at hk ⊢
 by_cases he:e=0
 ·by_cases h4:k=4
  ·obtain⟨c,rfl⟩:=hk h4
   have hc:=pS ox c;rw[decide_eq_true he,decide_eq_true h4,Bool.true_and,Bool.true_and,show Fc ox (k,[c],p)=decide (0<=Lib.indexByte ox c) from rfl];generalize decide (0<=Lib.indexByte ox c)=b at *;refine OX ?_;refine gL ?_;refine kD (dh (k,[c],p) r a e) ?_;refine kG ?_
   refine kO4 ?_
   refine kT ?_
   refine kO3 ?_
   refine kT ?_
   refine kO5 ?_
   refine kC (hc) ?_;exact ju
  ·rw[decide_eq_true he,decide_eq_false h4,Bool.true_and,Bool.false_and]
   refine OX ?_;refine gL ?_;refine kD (dh (k,x,p) r a e) ?_;refine kG ?_
   refine kO4 ?_
   refine kT ?_
   refine kO3 ?_
   refine kE ?_;exact ju
 ·rw[decide_eq_false he,Bool.false_and]
  refine OX ?_;refine gL ?_;refine kD (dh (k,x,p) r a e) ?_;refine kG ?_
  refine kO4 ?_
  refine kB false ?_ ?_
  ·exact decide_eq_false he
  exact ju
theorem j8 (t:Tk) (r:List Tk) (a c:Int):aw Tryz.prog 80 [.box 900 0, .d (dN .i64 c)] [(900,fF (t::r) a 0)] (.v (.tup [])) [(900,fF (t::r) t.2.2 c)]:=by
 refine aS ah dq func80 rfl rfl rfl rfl rfl (gA) ?_;refine kW ?_;refine kD (dh t r a 0) ?_;exact ju
theorem ze (t:Tk) (r:List Tk) (a e c:Int) (he:e≠0):aw Tryz.prog 80 [.box 900 0, .d (dN .i64 c)] [(900,fF (t::r) a e)] (.v (.tup [])) [(900,fF (t::r) a e)]:=by
 refine aS ah dq func80 rfl rfl rfl rfl rfl (gA) ?_;refine kI ?_
 refine kO4 ?_
 refine kB false ?_ ?_
 ·exact decide_eq_false he
 exact ju
def fj:List Tk->Prop
 | []=>False
 | [t]=>t.1=0
 |t::u::r=>(t.1≠0/\(t.1=4-> ∃c,t.2.1=[c])/\(t.1=2->t.2.1.length<=500))/\fj (u::r)
theorem fj.head {t:Tk} {r:List Tk} (h:fj (t::r)):(t.1=4-> ∃c,t.2.1=[c])/\(t.1=2->t.2.1.length<=500):=by
 cases r with
 |nil=>have h:t.1=0:=h;exact⟨fun e=>by omega,fun e=>by omega⟩
 |cons u r=>exact h.1.2
theorem fj.tail {t:Tk} {r:List Tk} (h:fj (t::r)) (h0:t.1≠0):fj r:=by
 cases r with
 |nil=>exact absurd h h0
 |cons u r=>exact h.2
theorem fj.ne {ts:List Tk} (h:fj ts):∃t r,ts=t::r:=by
 cases ts with
 |nil=>exact h.elim
 |cons t r=>exact⟨t,r,rfl⟩
def Rd (fid:FuncId) (ts:List Tk) (a:Int):lN->Prop
 | .ok (e,r)=>aw Tryz.prog fid [.box 900 0] [(900,fF ts a 0)] (.v (.one (dE e))) [(900,fF r a 0)]/\fj r
 | .error (p,c)=>c≠0/\ ∃y ts',aw Tryz.prog fid [.box 900 0] [(900,fF ts a 0)] (.v (.one (dR y))) [(900,fF ts' p c)]/\fj ts'
theorem P7 (n:Nat):Lib.repeatL [48] n=List.replicate n 48:=by
 induction n with
 |zero=>rfl
 |succ n ih=>
  simp[Lib.repeatL,List.replicate_succ]at ih ⊢
  exact ih
theorem Ib (z:Int):0<(fmt z).length:=by
 rw[EK]
 have:0<(i7 z.natAbs).length:=by
  unfold i7
  split
  ·simp
  ·rename_i h
   obtain⟨c,r,e,_⟩:=q8 h;rw[e]
   simp
 simp
 omega
theorem B5 (n:Nat) (hn:n<=1000000):aa Tryz.prog 178 [dL [48],dN .i64 n] (.one (dL (List.replicate n 48))):=
 ⟨aA func178 rfl rfl,fun S w vs hS hv=>by
  match vs,hv with
  | [v,u],⟨h1,h2,_⟩=>
   obtain rfl:=a6 h1;obtain rfl:=a6 h2;refine(Tryz.strings_Repeat (Bs [48]) n w (by omega) (by rw[aF];simp;omega)).mono ?_;rintro e w' ⟨rfl,hb⟩;exact⟨_,rfl,by rw[show(Bs [48]).data.toList=[48] from rfl,P7];exact AV.M.val rfl,hb⟩⟩
theorem iN {q:Rat} {n:Nat} (sq:dO n q) (hn:n<=900):∃t,aa Tryz.prog 125 [dQ q] (.tup [dL t,dB (fg q).isSome])/\ ∀u,fg q=some u->t=u:=by
 have cv:aa Tryz.prog 173 [dQ q] (.one (dB true)):=xG q sq (by omega)
 by_cases hneg:KQ q<0
 ·have h0:fg q=none:=by rw[fg,if_pos hneg]
  refine⟨[],?_,fun u h=>by rw[h0]at h;cases h⟩;rw[h0];refine kV func125 ?_;refine kQ (cv) ?_;refine kC (nP q) ?_;refine kB true ?_ ?_
  ·exact decide_eq_true hneg
  exact ap
 ·obtain⟨K,k1,k2,k3⟩:=lT hneg
  have main:∀t b,(40<=K->t=[]/\b=false)->(K<40->t=jc K (fmt (pw q K).num)/\b=decide (t.length<=40))->aa Tryz.prog 125 [dQ q] (.tup [dL t,dB b]):=by
   intro t b g1 g2;refine kV func125 ?_;refine kQ (cv) ?_;refine kC (nP q) ?_;refine kB false ?_ ?_
   ·exact decide_eq_false hneg
   refine kW ?_;refine ae (js 10 (by decide) (by decide) (q:=((10:Int):Rat)) rfl) rfl rfl rfl rfl rfl rfl rfl ?_;refine kW ?_;refine ae (dA 1 (by decide) (by decide)) rfl rfl rfl rfl rfl rfl rfl ?_;refine kW ?_
   refine ay Nat (fun k=>k<=K) (fun k=>⟨[(1, .box 0 0),(2, .d (dL [])),(3, .d (dB false)),(4, .box 3001 0),(5, .box 4001 0),(6, .d (dN .i64 k))],[(0,some (aQ (pw q k))),(3001,some (aQ ((10:Int):Rat))),(4001,some (aZ 1))]⟩) (fun k=>41-k) 0 (Nat.zero_le _)
    kw ?_
   intro k hk;have sk:=GU sq k;refine kI ?_;refine kO ?_
   by_cases h40:k<40
   ·refine kT ?_
    refine kG ?_
    refine kO3 ?_
    have hcs:=F7 ((pw q k).den:Int) 1
    by_cases hd1:((pw q k).den:Int)=1
    ·have hkK:k=K:=by
      rcases Nat.lt_or_ge k K with h|h
      ·exact absurd hd1 (k2 k h)
      ·omega
     rw[show bI ((pw q k).den:Int) 1=0 by rw[hd1];exact CO 1]at hcs;obtain⟨rfl,rfl⟩:=g2 (by omega);subst hkK;refine kQ (hcs) ?_;have hlen:(fmt (pw q k).num).length<=10*(n+k)+2:=CA sk.1;refine ae (wF (Nat.le_trans sk.1.digs (by omega))) rfl rfl rfl rfl rfl rfl rfl ?_;refine kG ?_;refine kO ?_;unfold jc du;have hpos:0<(fmt (pw q k).num).length:=Ib _
     generalize fmt (pw q k).num=u at *;have hB:=aF u
     by_cases hk0:0<k
     ·rw[if_pos hk0]
      refine kT ?_;refine kG ?_
      refine kO4 ?_
      refine cg (v':= .int .i64 ((k:Int)+1-u.length)) rfl rfl rfl rfl ?_ ?_
      ·exact congrArg (Value.int .i64) (by rw[IntWalk.i64_in ((k:Int)+1) (by omega),IntWalk.i64_in _ (by omega)];omega)
      refine kG ?_;refine kO ?_
      by_cases hp:u.length<k+1
      ·refine kT ?_
       refine kG ?_;refine kO ?_;have cr:=B5 (k+1-u.length) (by omega);rw[show(((k+1-u.length:Nat)):Int)=(k:Int)+1-u.length by omega]at cr;refine kC (cr) ?_;refine kO ?_;refine aq rfl rfl rfl rfl rfl rfl rfl (aD (a:=List.replicate (k+1-u.length) 48) (b:=u) (by simp;omega)) ?_;have hwl:(List.replicate (k+1-u.length) 48++u).length=k+1-u.length+u.length:=by simp
       generalize hwd:List.replicate (k+1-u.length) 48++u=w at *;have hwB:=aF w;exact uD
      ·refine kE ?_
       rw[show k+1-u.length=0 by omega,List.replicate_zero,List.nil_append];have hwl:u.length=u.length:=rfl;generalize hwd:u=w at *;exact uD
     ·obtain rfl:k=0:=by omega
      rw[if_neg hk0];have hu1:0+1-u.length=0:=by omega
      rw[hu1,List.replicate_zero,List.nil_append];refine kE ?_;refine kG ?_
      refine kO3 ?_
      refine cg (v':= .bool (decide (u.length<=40))) rfl rfl rfl rfl ?_ ?_
      ·exact Nr
      exact ap
    ·have hne:bI ((pw q k).den:Int) 1≠0:=by
      rcases Int.lt_trichotomy ((pw q k).den:Int) 1 with h|h|h
      ·rw[fG h];decide
      ·exact absurd h hd1
      ·rw[jo h];decide
     refine kC (hcs) ?_;refine kB true ?_ ?_
     ·exact(by simpa using hne)
     refine kW ?_;refine ae (q7 sk (vF (n:=10) (by decide)) (by omega) (q:=pw q (k+1)) rfl) rfl rfl rfl rfl rfl rfl rfl ?_;refine kW ?_
     exact⟨k+1,by
      rcases Nat.lt_or_ge k K with h|h
      ·exact h
      ·obtain rfl:k=K:=by omega
       rcases k3 with⟨e,_⟩| ⟨_,k3,_⟩
       ·omega
       ·exact absurd k3 hd1,by omega,weak ⟨rfl,rfl,rfl,rfl,rfl,an (by omega) (by omega),trivial⟩ ⟨rfl,rfl,rfl,trivial⟩ rfl⟩
   ·refine kE ?_
    obtain⟨rfl,rfl⟩:=g1 (by omega);exact ap
  rcases k3 with⟨e,h0⟩| ⟨e,h1,h2⟩
  ·exact Di
  ·by_cases h40:K=40
   ·have h0:fg q=none:=by
     rw[h2,if_neg];have:=Ki K (fmt (pw q K).num) (by omega);omega
    exact Di
   ·exact Vl
section
variable {P:Program} {T:TypeId->Option Ty} {n:Nat} {ops:Array Oper} {id:Nat} {draw:Bool} {K:AS->Prop} {s:AS} {k:Nat} {o:Oper} {os:List Oper} {fps:List FP}
end
open Classical in
noncomputable def Gd (n:Nat):List UInt8->Option Rat
 | []=>some ((n:Int):Rat)
 |c::b=>if c=46 then(if b≠[]/\(∀x∈b,eg x)then some (Rat.divInt ((n*10^b.length+num b:Nat):Int) ((10^b.length:Nat):Int))else none)else if c=47 then(if i6 false b/\num b≠0/\num b≠1/\Nat.gcd n (num b)=1 then some (Rat.divInt (n:Int) (num b:Int))else none)else none
theorem LK {t:List UInt8} (h:i6 false (gb t)):jt t=Gd (num (gb t)) (lq t):=by
 unfold jt Gd;rw[if_pos h];cases lq t<;>rfl
theorem Tr {n:Nat} {c:UInt8} {b:List UInt8} (hc:c=46) (h:¬(b≠[]/\(∀x∈b,eg x))):Gd n (c::b)=none:=by subst hc;unfold Gd;dsimp only;rw[if_pos rfl,if_neg h]
theorem P2 {n:Nat} {c:UInt8} {b:List UInt8} (hc:c=46) (h:b≠[]/\(∀x∈b,eg x)):Gd n (c::b)=some (Rat.divInt ((n*10^b.length+num b:Nat):Int) ((10^b.length:Nat):Int)):=by subst hc;unfold Gd;dsimp only;rw[if_pos rfl,if_pos h]
theorem TL {n:Nat} {c:UInt8} {b:List UInt8} (hc:c=47) (h:¬(i6 false b/\num b≠0/\num b≠1/\Nat.gcd n (num b)=1)):Gd n (c::b)=none:=by subst hc;unfold Gd;dsimp only;rw[if_neg (by decide),if_pos rfl,if_neg h]
theorem Qn {n:Nat} {c:UInt8} {b:List UInt8} (hc:c=47) (h:i6 false b/\num b≠0/\num b≠1/\Nat.gcd n (num b)=1):Gd n (c::b)=some (Rat.divInt (n:Int) (num b:Int)):=by subst hc;unfold Gd;dsimp only;rw[if_neg (by decide),if_pos rfl,if_pos h]
theorem SJ {n:Nat} {c:UInt8} {b:List UInt8} (h:c≠46) (h':c≠47):Gd n (c::b)=none:=by unfold Gd;dsimp only;rw[if_neg h,if_neg h']
theorem IW (t:List UInt8):(gb t).length<=t.length:=by
 have:=congrArg List.length (rB t);rw[List.length_append]at this;omega
theorem QK {k j:Nat} (h:k<j):Sz j ((10^k:Nat):Int):=by
 unfold Sz;rw[Int.natAbs_natCast];exact Nat.lt_of_le_of_lt (Nat.pow_le_pow_left (by decide) k) (Nat.pow_lt_pow_right (by decide) h)
end Go.Proofs.YtnchbpoopnjghaaGreatDoor
