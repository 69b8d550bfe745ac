/- Parts of a proof: contracts of the functions that the laws reach. -/
import Derived.Test.YtnchbpoopnjghaaGreatDoorDZ6
import Derived.Test.YtnchbpoopnjghaaGreatDoorTie
import Derived.Test.YtnchbpoopnjghaaGreatDoorCards
set_option maxHeartbeats 100000000
set_option linter.all false
open Go.Proofs.Tryz
namespace Go.Proofs.YtnchbpoopnjghaaGreatDoor
open Go.RowKit
section
open Go.ChangeShapes Go.WideShapes Go.ChangeAt Go.RowKit Go.Joins
def uu {H:Type}:Nat->DataW H->Option (List AV)
 |0,_=>none
 |n+1,d=>match d with
  | .lit (.bool b)=>some [.val (.bool b)]
  | .lit (.int k i)=>some [.val (.int k i)]
  | .lit (.string l)=>some [.val (.string ⟨l.toArray⟩)]
  | .nil=>some [.sl 0 []]
  | .slice es _=>match iw (uu n) es with
   |some rows=>some [.sl rows.length rows.flatten]
   |none=>none
  | .agg es=>match iw (uu n) es with
   |some ps=>some ps.flatten
   |none=>none
  |_=>none
theorem xg {α β:Type} {f g:α->Option β}:∀{xs:List α} {ys zs:List β},(∀x∈xs,∀y z,f x=some y->g x=some z->y=z)->iw f xs=some ys->iw g xs=some zs->ys=zs
 | [],ys,zs,_,h,k=>by simp only[iw,Option.some.injEq]at h k;rw[<- h,<- k]
 |x::xs,ys,zs,hfg,h,k=>by
  simp only[iw]at h k
  cases h1:f x with
  |none=>rw[h1]at h;simp at h
  |some y=>
   cases h2:iw f xs with
   |none=>rw[h1,h2]at h;simp at h
   |some ys'=>
    cases k1:g x with
    |none=>rw[k1]at k;simp at k
    |some z=>
     cases k2:iw g xs with
     |none=>rw[k1,k2]at k;simp at k
     |some zs'=>
      rw[h1,h2]at h;rw[k1,k2]at k
      simp only[Option.some.injEq]at h k
      rw[<- h,<- k,hfg x (by simp) y z h1 k1,xg (fun x hx=>hfg x (by simp[hx])) h2 k2]
theorem Bq {H:Type}:∀(n m:Nat) (d:DataW H) (cs cs':List AV),uu n d=some cs->uu m d=some cs'->cs=cs'
 |0,_,_,_,_,h,_=>by simp[uu]at h
 |_+1,0,_,_,_,_,h=>by simp[uu]at h
 |n+1,m+1,d,cs,cs',h,h'=>by
  have ih:=Bq (H:=H) n m;unfold uu at h h'
  split at h
  ·simp_all
  ·simp_all
  ·simp_all
  ·simp_all
  ·exact MY
  ·exact MY
  ·cases h
theorem pJ {α β:Type} {f:α->Option β}:∀{xs:List α} {ys:List β},xs.length=ys.length->(∀(i:Nat) (x:α) (y:β),xs[i]? =some x->ys[i]? =some y->f x=some y)->iw f xs=some ys
 | [],[],_,_=>rfl
 | [],_::_,h,_=>by cases h
 |_::_,[],h,_=>by cases h
 |x::xs,y::ys,h,hf=>by
  simp only[iw,hf 0 x y rfl rfl,pJ (xs:=xs) (ys:=ys) (by simpa using h) (fun i x y h1 h2=>hf (i+1) x y (by simpa using h1) (by simpa using h2))]
def nG (P:Program) (L:List TypeId):Bool:=L.all fun t=>match P.underlying t with
 |some .bool=>true
 |some (.int _)=>true
 |some .string=>true
 |some (.slice e)=>L.elem e
 |some (.struct fs)=>(fs.toList.all fun f=>L.elem f.type) && mS P 0 (P.cellsOf t) fs.toList
 |some (.array n e)=>L.elem e && Nat.beq (n*P.cellsOf e) (P.cellsOf t)
 |_=>false
theorem Bt {w:World} {sz:Nat}:∀(n:Nat) (vs:List Value) (ps:List (List AV)),vs.length=n*sz->ps.length=n->(∀i p,ps[i]? =some p->CM (fun _=>False) w p ((vs.drop (i*sz)).take sz))->CM (fun _=>False) w ps.flatten vs
 |0,vs,ps,h,hp,_=>by
  have h1:vs=[]:=List.eq_nil_of_length_eq_zero (by simpa using h);have h2:ps=[]:=List.eq_nil_of_length_eq_zero hp;subst h1 h2;exact CM.nil _ _
 |n+1,vs,[],_,hp,_=>by cases hp
 |n+1,vs,p::ps,h,hp,hc=>by
  have h0:=hc 0 p rfl;rw[Nat.zero_mul,List.drop_zero]at h0
  have hr:=Bt (w:=w) (sz:=sz) n (vs.drop sz) ps (by rw[List.length_drop,h,Nat.add_mul];omega) (by simpa using hp) (fun i q hq=>by
   have:=hc (i+1) q (by simpa using hq);rw[List.drop_drop,show sz+i*sz=(i+1)*sz by rw[Nat.add_mul];omega];exact this)
  rw[List.flatten_cons];have:=h0.append hr
  rwa[List.take_append_drop]at this
theorem uF {P:Program} {w:World} {vs:List Value}:∀(fs:List Field) (off:Nat) (ps:List (List AV)),mS P off vs.length fs=true->ps.length=fs.length ->
 (∀(i:Nat) (f:Field) (p:List AV),fs[i]? =some f->ps[i]? =some p->CM (fun _=>False) w p ((vs.drop f.offset).take (P.cellsOf f.type)))->CM (fun _=>False) w ps.flatten (vs.drop off)
 | [],off,[],h,_,_=>by
  have:=Nat.eq_of_beq_eq_true h;subst this;rw[List.drop_length];exact CM.nil _ _
 | [],_,_::_,_,h,_=>by cases h
 |_::_,_,[],_,h,_=>by cases h
 |f::r,off,p::ps,h,hl,hf=>by
  simp only[mS,Bool.and_eq_true]at h
  have ho:=Nat.eq_of_beq_eq_true h.1;have h1:=hf 0 f p rfl rfl;have h3:=uF r _ ps h.2 (by simpa using hl) (fun i g q hg hq=>hf (i+1) g q (by simpa using hg) (by simpa using hq));rw[ho]at h1;rw[List.flatten_cons];have:=h1.append h3
  rwa[<- List.drop_drop,List.take_append_drop]at this
section
variable {H:Type} {enc:TypeId × Value->H} {W:World} {P:Program} {held:Bool}
theorem Kg {L:List TypeId} (hL:nG P L=true):∀(n:Nat) (t:TypeId) (vs:List Value) (x:DataW H × List MemPlace),t∈L->DataW.trod enc P W 0 (fun _=>true) held n t vs=some x ->
 ∃cs,CM (fun _=>False) W cs vs/\uu n x.1=some cs:=by
 intro n
 induction n with
 |zero=>intro t vs x _ h;simp[DataW.trod]at h
 |succ n ih=>
  intro t vs x ht h;have hp:=List.all_eq_true.1 hL t ht;cases hu:P.underlying t with
  |none=>rw[hu]at hp;simp at hp
  |some d=>
   rw[hu]at hp;cases d with
   |bool=>
    obtain⟨b,rfl,rfl⟩:=DataW.trod_bool hu h;exact⟨_,CM.cons (.val rfl) (CM.nil _ _),rfl⟩
   |int k=>
    obtain⟨i,rfl,rfl,h1⟩:=DataW.trod_int hu h;exact⟨_,CM.cons (.val rfl) (CM.nil _ _),rfl⟩
   |string=>
    obtain⟨s,rfl,rfl,h1⟩:=DataW.trod_string hu h;exact⟨_,CM.cons (.val rfl) (CM.nil _ _),by simp[uu]⟩
   |slice e=>
    have he:e∈L:=by simpa using hp
    rcases DataW.trod_slice hu h with⟨rfl,rfl⟩| ⟨a,len,cap,elems,rest,m,hm,rfl,rfl,_,hlc,hcm,hel,hget,_,_⟩
    ·exact⟨_,CM.cons (.emp (Nat.le_refl _) (by omega) (fun _=>rfl)) (CM.nil _ _),rfl⟩
    ·obtain rfl:m=n:=by omega
     have hrow:∀i,i<len-> ∃(r:List AV) (us:List Value),W.cells? 0 (a.add (i*P.cellsOf e)) (P.cellsOf e)=some us/\CM (fun _=>False) W r us/\ ∀y,elems[i]? =some y->uu m y.1=some r:=by
      intro i hi;have h1:=hget i hi;have h2:elems[i]? =some elems[i]:=by simp
      rw[h2]at h1;obtain⟨us,h3,h4⟩:=Option.bind_eq_some_iff.1 h1;obtain⟨r,h5,h6⟩:=ih e us _ he h4;exact⟨r,us,h3,h5,fun y hy=>by rw[h2]at hy;cases hy;exact h6⟩
     have hrows:∀k,k<=len-> ∃rows:List (List AV),rows.length=k/\ ∀i r,rows[i]? =some r-> ∃us:List Value,W.cells? 0 (a.add (i*P.cellsOf e)) (P.cellsOf e)=some us/\CM (fun _=>False) W r us/\ ∀y,elems[i]? =some y->uu m y.1=some r:=by
      exact S9
     obtain⟨rows,hl,hr⟩:=hrows len (Nat.le_refl _)
     have hmap:iw (uu m) (elems.map (·.1))=some rows:=by
      refine pJ (by simp[hel,hl]) (fun i y r hy h2=>?_);rw[List.getElem?_map]at hy;cases hz:elems[i]? with
      |none=>rw[hz]at hy;cases hy
      |some z=>
       rw[hz]at hy
       simp only[Option.map_some,Option.some.injEq]at hy
       obtain⟨_,_,_,h5⟩:=hr i r h2;rw[<- hy];exact h5 z hz
     have hsz:∀r∈rows,r.length=P.cellsOf e:=by
      exact Mb
     refine⟨[.sl len rows.flatten],CM.cons ?_ (CM.nil _ _),by simp only[uu,hmap,hl]⟩;exact Ml
   |struct fs=>
    simp only[Bool.and_eq_true]at hp
    obtain⟨xs,m,hm,rfl,hlen,hxl,hget⟩:=DataW.trod_struct hu h;obtain rfl:m=n:=by omega
    have htile:=hp.2;rw[<- hlen]at htile
    have hpart:∀k,k<=xs.length-> ∃ps:List (List AV),ps.length=k/\ ∀(i:Nat) (p:List AV) (f:Field),ps[i]? =some p->fs[i]? =some f->CM (fun _=>False) W p ((vs.drop f.offset).take (P.cellsOf f.type))/\ ∀y:DataW H × List MemPlace,xs[i]? =some y->uu m y.1=some p:=by
     intro k
     induction k with
     |zero=>intro _;exact⟨[],rfl,fun i p f h=>by simp at h⟩
     |succ k ihk=>
      intro hk;obtain⟨ps,h1,h2⟩:=ihk (by omega);have hkf:fs[k]? =some (fs[k]'(by omega)):=by simp
      have h3:=hget k _ hkf;have h4:xs[k]? =some xs[k]:=by simp
      rw[h4]at h3;have hfL:fs[k].type∈L:=by have:=List.all_eq_true.1 hp.1 fs[k] (by simp);simpa using this
      obtain⟨p,h5,h6⟩:=ih _ _ _ hfL h3;refine⟨ps++[p],by simp[h1],fun i q f hq hf=>?_⟩
      by_cases hi:i<ps.length
      ·rw[List.getElem?_append_left hi]at hq;exact h2 i q f hq hf
      ·have hil:=(List.getElem?_eq_some_iff.1 hq).1
       simp at hil
       have:i=k:=by omega
       subst this;rw[List.getElem?_append_right (by omega),h1,Nat.sub_self]at hq
       simp at hq
       subst hq;rw[hkf]at hf;cases hf;exact⟨h5,fun y hy=>by rw[h4]at hy;cases hy;exact h6⟩
    obtain⟨ps,h1,h2⟩:=hpart xs.length (Nat.le_refl _);refine⟨ps.flatten,?_,?_⟩
    ·have:=uF (w:=W) (vs:=vs) fs.toList 0 ps htile (by rw[h1,hxl];simp) (fun i f p hf hp=>(h2 i p f hp (by simpa using hf)).1)
     rwa[List.drop_zero]at this
    ·have hmap:iw (uu m) (xs.map (·.1))=some ps:=by
      refine pJ (by simp[h1]) (fun i y p hy hpi=>?_);rw[List.getElem?_map]at hy;cases hz:xs[i]? with
      |none=>rw[hz]at hy;cases hy
      |some z=>
       rw[hz]at hy
       simp only[Option.map_some,Option.some.injEq]at hy
       have hil:i<fs.size:=by rw[<- hxl];exact(List.getElem?_eq_some_iff.1 hz).1
       rw[<- hy];exact(h2 i p fs[i] hpi (by simp[hil])).2 z hz
     simp only[uu,hmap]
   |array k e=>
    simp only[Bool.and_eq_true]at hp
    have he:e∈L:=by simpa using hp.1
    have hke:=Nat.eq_of_beq_eq_true hp.2;unfold DataW.trod at h;rw[hu]at h
    simp only at h
    have hr:∃xs:List (DataW H × List MemPlace),x.1= .agg (xs.map (·.1))/\vs.length=P.cellsOf t/\(List.range k).mapM (fun i=>DataW.trod enc P W 0 (fun _=>true) held n e ((vs.drop (i*P.cellsOf e)).take (P.cellsOf e)))=some xs:=by
     split at h
     ·rename_i hl
      obtain⟨xs,h1,h2⟩:=Option.map_eq_some_iff.1 h;exact⟨xs,by rw[<- h2],hl,h1⟩
     ·cases h
    obtain⟨xs,hx,hlen,hmm⟩:=hr;obtain⟨h1,h2⟩:=wV hmm;rw[List.length_range]at h1
    have hpart:∀j,j<=k-> ∃ps:List (List AV),ps.length=j/\ ∀(i:Nat) (p:List AV),ps[i]? =some p->CM (fun _=>False) W p ((vs.drop (i*P.cellsOf e)).take (P.cellsOf e))/\ ∀y:DataW H × List MemPlace,xs[i]? =some y->uu n y.1=some p:=by
     intro j
     induction j with
     |zero=>intro _;exact⟨[],rfl,fun i p h=>by simp at h⟩
     |succ j ihj=>
      intro hj;obtain⟨ps,h3,h4⟩:=ihj (by omega);obtain⟨y,h5,h6⟩:=h2 j j (List.getElem?_range (by omega));obtain⟨p,h7,h8⟩:=ih _ _ _ he h6;refine⟨ps++[p],by simp[h3],fun i q hq=>?_⟩
      by_cases hi:i<ps.length
      ·rw[List.getElem?_append_left hi]at hq;exact h4 i q hq
      ·have hil:=(List.getElem?_eq_some_iff.1 hq).1
       simp at hil
       have:i=j:=by omega
       subst this;rw[List.getElem?_append_right (by omega),h3,Nat.sub_self]at hq
       simp at hq
       subst hq;exact⟨h7,fun z hz=>by rw[h5]at hz;cases hz;exact h8⟩
    obtain⟨ps,h3,h4⟩:=hpart k (Nat.le_refl _);refine⟨ps.flatten,Bt k vs ps (by rw[hlen,<- hke]) h3 (fun i p hp=>(h4 i p hp).1),?_⟩
    have hmap:iw (uu n) (xs.map (·.1))=some ps:=by
     refine pJ (by simp[h3,<- h1]) (fun i y p hy hpi=>?_);rw[List.getElem?_map]at hy;cases hz:xs[i]? with
     |none=>rw[hz]at hy;cases hy
     |some z=>
      rw[hz]at hy
      simp only[Option.map_some,Option.some.injEq]at hy
      rw[<- hy];exact(h4 i p hpi).2 z hz
    rw[hx]
    simp only[uu,hmap]
   |_=>simp at hp
end
end
section
open Go.ChangeShapes Go.WideShapes Go.ChangeAt Go.RowKit Go.Joins
theorem ga {P:Program} {W:World} {name:String} {d:DataW Unit}:∀{laid:List (String × DataW Unit)} {ps:List MemPlace},DataW.LaidVars P W laid ps->(name,d)∈laid ->
 ∃g t cs fuel p,P.globalNamed name=some g/\(P.globals[g]?).map (·.type)=some t/\W.var? P name=some cs/\DataW.trod (fun _=>()) P W 0 (fun _=>true) false fuel t cs.toList=some (d,p)
 | [],_,_,h=>by cases h
 |(n,d')::rest,ps,h,hm=>by
  obtain⟨g,t,cs,fuel,p,q,h1,h2,h3,h4,h5,_⟩:=h;rcases List.mem_cons.1 hm with e|e
  ·cases e
   exact⟨g,t,cs,fuel,p,h1,h2,h3,h4⟩
  ·exact ga h5 e
theorem DB:Tryz.prog.cellsOf 169=1:=by kernel_rfl
theorem K3:Tryz.prog.globalNamed "internal/strconv.uint64pow10" =some 5:=by kernel_rfl
theorem LF:(Tryz.prog.globals[5]?).map (·.type)=some 247:=by kernel_rfl
theorem Lb:Tryz.prog.cellsOf 247=20:=by kernel_rfl
theorem pF {P:Program} {W:World} {laid:List (String × DataW Unit)} {ps:List MemPlace} (hv:DataW.LaidVars P W laid ps) {name:String} {d:DataW Unit} (hm:(name,d)∈laid) {g t:Nat} (hg:P.globalNamed name=some g) (ht:(P.globals[g]?).map (·.type)=some t)
 {L:List TypeId} (hL:nG P L=true) (htL:t∈L) {n:Nat} {cs:List AV} (hav:uu n d=some cs) {S:Nat->Prop} (hS:S=fun _=>False):TV.M S (fun _=>0) ⟨[],[]⟩ W (.rp cs) (.pointer (some ⟨g,0,none⟩)):=by
 subst hS;obtain⟨g',t',c0,fuel,p,h1,h2,h3,h4⟩:=ga hv hm;obtain rfl:=Option.some.inj (hg.symm.trans h1);obtain rfl:=Option.some.inj (ht.symm.trans h2);obtain⟨cs',hc,ha⟩:=Kg hL fuel _ _ _ htL h4;have e:=Bq _ _ _ _ _ ha hav;subst e;unfold World.var? at h3;rw[hg]at h3
 simp only[Option.bind_some]at h3
 split at h3
 ·rename_i c1 e1 f1 hb
  cases h3;refine⟨g,0,fun i=>c0.getD i undef,rfl,fun h=>h,(Array.getElem?_eq_some_iff.1 hb).1,fun i a hi=>?_,fun i a hi=>?_⟩
  ·have hl:i<c0.size:=by have:=(List.getElem?_eq_some_iff.1 hi).1;rw[hc.1]at this;simpa using this
   rw[Nat.zero_add]
   simp[World.cell?,hb,hl]
  ·have hl:i<c0.size:=by have:=(List.getElem?_eq_some_iff.1 hi).1;rw[hc.1]at this;simpa using this
   exact hc.2 i a _ hi (by simp[hl])
 ·cases h3
theorem m4 {α:Type} {g:Nat} {c:α} {r:List (Nat × α)} {k:Nat} {x:α} (h:ak ((g,c)::r) k=some x):(g=k/\c=x)∨ak r k=some x:=by
 by_cases e:g=k
 ·subst e;rw[ai]at h;exact .inl ⟨rfl,Option.some.inj h⟩
 ·rw[ap _ _ e]at h;exact .inr h
theorem Ly:Tryz.prog.globalNamed "setsquare/unit.units" =some 4:=by kernel_rfl
theorem Kt:(Tryz.prog.globals[4]?).map (·.type)=some 243:=by kernel_rfl
theorem Kx:nG Tryz.prog [243,244,9,2]=true:=by kernel_rfl
theorem Et:Tryz.prog.globalNamed "setsquare/formula.symbols" =some 2:=by kernel_rfl
theorem DP:(Tryz.prog.globals[2]?).map (·.type)=some 184:=by kernel_rfl
theorem Dp:nG Tryz.prog [184,9]=true:=by kernel_rfl
theorem Ab:Tryz.prog.globalNamed "setsquare/formula.operands" =some 1:=by kernel_rfl
theorem Bf:(Tryz.prog.globals[1]?).map (·.type)=some 171:=by kernel_rfl
theorem AG:nG Tryz.prog [171,3]=true:=by kernel_rfl
theorem K0:Tryz.prog.globalNamed "setsquare/constraint.table" =some 0:=by kernel_rfl
theorem KV:(Tryz.prog.globals[0]?).map (·.type)=some 73:=by kernel_rfl
theorem LX:nG Tryz.prog [73,72,60,9,3,4]=true:=by kernel_rfl
theorem Ah {w w':World} (h:oh w) (hb:Below w.heap.size w w'):oh w':=by
 have key:∀(g:Nat) (v:Value),w.cell? ⟨g,0,none⟩=some v->w'.cell? ⟨g,0,none⟩=some v:=fun g v hv=>(hb.cell (show(⟨g,0,none⟩:Addr).block<w.heap.size from Lib.lt_of_cell hv)).trans hv
 obtain⟨⟨m,h1⟩,⟨e,h2,h3⟩,e',h4,h5⟩:=h;exact⟨⟨m,key _ _ h1⟩,⟨e,key _ _ h2,h3⟩,e',key _ _ h4,h5⟩
theorem uK {laid:List (String × DataW Unit)} (hp:(laid.all fun x=>x.2.handleName?.isNone)=true) (hm:("internal/strconv.uint64pow10",Rows.laid_internal_strconv_uint64pow10)∈laid)
 (hm1:("setsquare/unit.units",Rows.laid_setsquare_unit_units)∈laid)
 (hm2:("setsquare/formula.symbols",Rows.laid_setsquare_formula_symbols)∈laid)
 (hm3:("setsquare/formula.operands",Rows.laid_setsquare_formula_operands)∈laid)
 (hm4:("setsquare/constraint.table",Rows.laid_setsquare_constraint_table)∈laid)
 {W:World}
 (hva:oh W)
 (h:laidMetH Tryz.prog laid W):cH (fun _=>False) W:=by
 rw[MakeChecks.laidMetH_plain _ _ _ hp]at h;obtain⟨ps,hv,_⟩:=h;obtain⟨g,t,cs,fuel,p,h1,h2,h3,h4⟩:=ga hv hm;obtain rfl:=Option.some.inj (K3.symm.trans h1);obtain rfl:=Option.some.inj (LF.symm.trans h2);have hd:(Rows.laid_internal_strconv_uint64pow10:DataW Unit)=Lib.tabData .u64 Lib.pow10Tab:=rfl;rw[hd]at h4
 have ht:Lib.TabIs Tryz.prog W "internal/strconv.uint64pow10" .u64 Lib.pow10Tab:=by
  unfold Lib.TabIs;rw[h3,<- Lib.cells_of_tab underlying247 underlying169 DB Lb h4]
 refine⟨fun w' hb=>⟨Lib.tabBelow_of_tabIs ht w' hb,Ah hva hb⟩,fun _ h=>h.elim,fun k cs h=>?_⟩;unfold GT at h;rcases m4 h with⟨rfl,rfl⟩|h
 ·exact pF hv hm1 Ly Kt Kx (by simp) (n:=4) rfl rfl
 rcases m4 h with⟨rfl,rfl⟩|h
 ·exact pF hv hm2 Et DP Dp (by simp) (n:=4) rfl rfl
 rcases m4 h with⟨rfl,rfl⟩|h
 ·exact pF hv hm4 K0 KV LX (by simp) (n:=5) rfl rfl
 rcases m4 h with⟨rfl,rfl⟩|h
 ·exact pF hv hm3 Ab Bf AG (by simp) (n:=4) rfl rfl
 cases h
end
def pw:Rat->Nat->Rat
 |q,0=>q
 |q,k+1=>pw q k*((10:Int):Rat)
theorem u6 {n:Int} (h:n.natAbs<4294967296):dA 1 (n:Rat):=⟨Sz.small h,Sz.small (z:=1) (by decide)⟩
theorem JE {q:Rat} {n:Nat} (h:dA n q):∀k,dA (n+k) (pw q k)
 |0=>h
 |k+1=>by
  have:=dA.mul (JE h k) (u6 (n:=10) (by decide))
  rwa[Nat.add_assoc]at this
def ti (k:Nat) (t:List UInt8):List UInt8:=List.replicate (k+1-t.length) 48++t
def lg (k:Nat) (t:List UInt8):List UInt8:=if 0<k then(ti k t).take ((ti k t).length-k)++[46]++(ti k t).drop ((ti k t).length-k)else ti k t
def lj (q:Rat):Nat->Nat->Option (List UInt8)
 |0,_=>none
 |n+1,k=>if((pw q k).den:Int)=1 then(if(lg k (fmt (pw q k).num)).length<=40 then some (lg k (fmt (pw q k).num))else none)else lj q n (k+1)
def fT (q:Rat):Option (List UInt8):=if MU q<0 then none else lj q 41 0
def lX (na:Bool) (xs:List Nat) (nb:Bool) (ys:List Nat):Option (List UInt8):=if fh na xs nb ys then fT (Rat.divInt (bC na xs) (bC nb ys))else none
theorem oC (q:Rat):∀n k,∃K,k<=K/\K<=k+n/\(∀j,k<=j->j<K-> ¬((pw q j).den:Int)=1)/\((K=k+n/\lj q n k=none)∨(K<k+n/\((pw q K).den:Int)=1/\lj q n k=if(lg K (fmt (pw q K).num)).length<=40 then some (lg K (fmt (pw q K).num))else none))
 |0,k=>⟨k,Nat.le_refl _,Nat.le_refl _,fun j h1 h2=>by omega, .inl ⟨rfl,rfl⟩⟩
 |n+1,k=>by
  by_cases h:((pw q k).den:Int)=1
  ·exact⟨k,Nat.le_refl _,by omega,fun j h1 h2=>by omega, .inr ⟨by omega,h,by rw[lj,if_pos h]⟩⟩
  ·obtain⟨K,h1,h2,h3,h4⟩:=oC q n (k+1)
   refine⟨K,by omega,by omega,fun j hj hj2=>?_,?_⟩
   ·by_cases e:j=k
    ·subst e;exact h
    ·exact h3 j (by omega) hj2
   ·rw[lj,if_neg h]
    exact NK
theorem rT {q:Rat} (h:¬MU q<0):∃K,K<=41/\(∀j,j<K-> ¬((pw q j).den:Int)=1)/\((K=41/\fT q=none)∨(K<=40/\((pw q K).den:Int)=1/\fT q=if(lg K (fmt (pw q K).num)).length<=40 then some (lg K (fmt (pw q K).num))else none)):=by
 obtain⟨K,h1,h2,h3,h4⟩:=oC q 41 0;refine⟨K,by omega,fun j hj=>h3 j (Nat.zero_le _) hj,?_⟩;rw[fT,if_neg h];exact NK
theorem G4 (k:Nat) (t:List UInt8):(ti k t).length=max (k+1) t.length:=by
 unfold ti
 simp
 omega
theorem Hn (k:Nat) (t:List UInt8) (h:0<k):(lg k t).length=max (k+1) t.length+1:=by
 have:=G4 k t;unfold lg;rw[if_pos h]
 simp only[List.length_append,List.length_take,List.length_drop,List.length_cons,List.length_nil]
 omega
theorem y2 {q:Rat} {n:Nat} (sq:dA n q) (hn:n<=900):∃t,aa Tryz.prog 111 [dQ q] (.tup [dL t,dB (fT q).isSome])/\ ∀u,fT q=some u->t=u:=by
 have cv:aa Tryz.prog 155 [dQ q] (.one (dB true)):=vC q sq (by omega)
 by_cases hneg:MU q<0
 ·have h0:fT q=none:=by rw[fT,if_pos hneg]
  refine⟨[],?_,fun u h=>by rw[h0]at h;cases h⟩;rw[h0];refine kV func111 ?_;refine kQ (cv) ?_;refine kC (rW q) ?_;refine kB true ?_ ?_
  ·exact decide_eq_true hneg
  exact am
 ·obtain⟨K,k1,k2,k3⟩:=rT hneg
  have main:∀t b,(K=41->t=[]/\b=false)->(K<=40->t=lg K (fmt (pw q K).num)/\b=decide (t.length<=40))->aa Tryz.prog 111 [dQ q] (.tup [dL t,dB b]):=by
   intro t b g1 g2;refine kV func111 ?_;refine kQ (cv) ?_;refine kC (rW q) ?_;refine kB false ?_ ?_
   ·exact decide_eq_false hneg
   refine kW ?_;refine ae (gR 10 (by decide) (by decide) (q:=((10:Int):Rat)) rfl) rfl rfl rfl rfl rfl rfl rfl ?_;refine kW ?_;refine ae (fv 1 (by decide) (by decide)) rfl rfl rfl rfl rfl rfl rfl ?_;refine kW ?_
   refine ax Nat (fun k=>k<=K) (fun k=>⟨[(1, .box 0 0),(2, .d (dL [])),(3, .d (dB false)),(4, .box 3001 0),(5, .box 4001 0),(6, .box 5001 0),(7, .d (dN .i64 k))],[(0,some (aQ q)),(3001,some (aQ ((10:Int):Rat))),(4001,some (aZ 1)),(5001,some (aQ (pw q k)))]⟩) (fun k=>41-k) 0 (Nat.zero_le _)
    kw ?_
   intro k hk;have sk:=JE sq k;refine kI ?_;refine kO ?_
   by_cases h40:k<=40
   ·refine kT ?_
    refine kW ?_;have hcs:=FF (pw q k).den 1
    by_cases hd1:((pw q k).den:Int)=1
    ·have hkK:k=K:=by
      rcases Nat.lt_or_ge k K with h|h
      ·exact absurd hd1 (k2 k h)
      ·omega
     rw[decide_eq_true hd1]at hcs;obtain⟨rfl,rfl⟩:=g2 (by omega);subst hkK;refine kQ (hcs) ?_;have hlen:(fmt (pw q k).num).length<=10*(n+k)+2:=BI sk.1;refine ae (tA (b8.of_lt sk.1 (by omega))) rfl rfl rfl rfl rfl rfl rfl ?_;unfold lg ti;generalize fmt (pw q k).num=u at *;refine kW ?_
     refine ax Nat (fun j=>j<=k+1-u.length) (fun j=>⟨[(2, .d (dL [])),(3, .d (dB false)),(7, .d (dN .i64 k)),(8, .d (dL (List.replicate j 48++u)))],[]⟩) (fun j=>k+1-u.length-j) 0 (Nat.zero_le _)
      kw ?_
     intro j hj;have hB:(Bs (List.replicate j 48++u)).size=j+u.length:=by rw[aB];simp
     refine kI ?_
     refine kO3 ?_
     by_cases hjk:j+u.length<=k
     ·refine kT ?_
      refine kW ?_;refine aD rfl rfl rfl rfl rfl rfl rfl (db (a:=[48]) (b:=List.replicate j 48++u) (by simp;omega)) ?_;refine kW ?_;exact⟨j+1,by omega,by omega,weak ⟨rfl,rfl,rfl,rfl,trivial⟩ trivial rfl⟩
     ·refine kE ?_
      obtain rfl:j=k+1-u.length:=by omega
      have hwl:(List.replicate (k+1-u.length) 48++u).length=k+1-u.length+u.length:=by simp
      generalize hwd:List.replicate (k+1-u.length) 48++u=w at *;refine tq ?_;refine kI ?_;refine kO ?_
      by_cases hk0:0<k
      ·rw[if_pos hk0]
       refine kT ?_;refine kN ?_;refine bu (T:=TT) ?_;refine dP (T:=TT) rfl ?_;refine O3 ?_;refine S2 ?_;generalize hz:w.take (w.length-k)++[46]++w.drop (w.length-k)=z;have hzB:=aB z;refine vJ ?_;refine bM (v':= .bool (decide (z.length<=40))) rfl rfl rfl rfl ?_ ?_
       ·exact Hz
       exact am
      ·rw[if_neg hk0]
       refine kE ?_;refine kN ?_;refine bu (T:=TT) ?_;refine dD (T:=TT) rfl ?_;refine kI ?_
       refine kO3 ?_
       refine bM (v':= .bool (decide (w.length<=40))) rfl rfl rfl rfl ?_ ?_
       ·exact Hz
       exact am
    ·rw[decide_eq_false hd1]at hcs
     refine kQ (hcs) ?_;refine ae (D3 sk (u6 (n:=10) (by decide)) (by omega) (q:=pw q (k+1)) rfl) rfl rfl rfl rfl rfl rfl rfl ?_;refine kW ?_
     exact⟨k+1,by
      rcases Nat.lt_or_ge k K with h|h
      ·exact h
      ·obtain rfl:k=K:=by omega
       rcases k3 with⟨e,_⟩| ⟨_,k3,_⟩
       ·omega
       ·exact absurd k3 hd1,by omega,weak ⟨rfl,rfl,rfl,rfl,rfl,rfl,aA (by omega) (by omega),trivial⟩ ⟨rfl,rfl,rfl,rfl,trivial⟩ rfl⟩
   ·refine kE ?_
    obtain⟨rfl,rfl⟩:=g1 (by omega);exact am
  rcases k3 with⟨e,h0⟩| ⟨e,h1,h2⟩
  ·exact G5
  ·exact Tf
abbrev my:=Except (Nat × Int) (Ex × List Tk)
inductive Md where
 |sum
 |prod
 |un
 |prim
 |more (two:Bool) (e:Ex)
def Ek:Bool->List UInt8->Option B4
 |false,[c]=>if c=43 then some .add else if c=45 then some .sub else none
 |true,[c]=>if c=42 then some .mul else if c=47 then some .div else none
 |_,_=>none
def iL (two:Bool):List Tk->Option (B4 × List Tk)
 |t::r=>if t.1=4 then(match Ek two t.2.1 with|some k=>some (k,r)|none=>none)else none
 | []=>none
def dj (c:UInt8):List Tk->Option (List Tk)
 |t::r=>if t.1=4/\t.2.1=[c]then some r else none
 | []=>none
def Hi:List Tk->Nat
 |t::_=>t.2.2
 | []=>0
noncomputable def ic (t:Tk) (r:List Tk):my:=match fS t.2.1 with
 |none=> .error (t.2.2,2)
 |some q=>match fT q with
  |none=> .error (t.2.2,3)
  |some _=>match r with
   |u::r'=>if u.1=1 then .ok (.num q u.2.1,r')else .ok (.num q [],r)
   | []=> .ok (.num q [],r)
def jl:Bool->Md
 |false=> .prod
 |true=> .un
noncomputable def pP:Nat->Md->List Tk->Option my
 |0,_,_=>none
 |f+1, .sum,ts=>match pP f .prod ts with
  |some (.ok (e,r))=>pP f (.more false e) r
  |x=>x
 |f+1, .prod,ts=>match pP f .un ts with
  |some (.ok (e,r))=>pP f (.more true e) r
  |x=>x
 |f+1, .more two e,ts=>match iL two ts with
  |some (k,r)=>match pP f (jl two) r with
   |some (.ok (e2,r2))=>pP f (.more two (.bin k e e2)) r2
   |x=>x
  |none=>some (.ok (e,ts))
 |f+1, .un,ts=>match dj 45 ts with
  |some r=>match pP f .un r with
   |some (.ok (e,r2))=>some (.ok (.neg e,r2))
   |x=>x
  |none=>pP f .prim ts
 |f+1, .prim,ts=>match dj 40 ts with
  |some r=>match pP f .sum r with
   |some (.ok (e,r2))=>match dj 41 r2 with
    |some r3=>some (.ok (e,r3))
    |none=>some (.error (Hi r2,2))
   |x=>x
  |none=>match ts with
   |t::r=>if t.1=2 then some (ic t r)else if t.1=1 then some (.ok (.nam t.2.1,r))else some (.error (t.2.2,2))
   | []=>some (.error (0,2))
theorem jf (f:Nat) (ts:List Tk):pP (f+1) .sum ts=match pP f .prod ts with
 |some (.ok (e,r))=>pP f (.more false e) r
 |x=>x:=rfl
theorem gc (f:Nat) (ts:List Tk):pP (f+1) .prod ts=match pP f .un ts with
 |some (.ok (e,r))=>pP f (.more true e) r
 |x=>x:=rfl
theorem eG (f:Nat) (two:Bool) (e:Ex) (ts:List Tk):pP (f+1) (.more two e) ts=match iL two ts with
 |some (k,r)=>match pP f (jl two) r with
  |some (.ok (e2,r2))=>pP f (.more two (.bin k e e2)) r2
  |x=>x
 |none=>some (.ok (e,ts)):=rfl
theorem mD (f:Nat) (ts:List Tk):pP (f+1) .un ts=match dj 45 ts with
 |some r=>match pP f .un r with
  |some (.ok (e,r2))=>some (.ok (.neg e,r2))
  |x=>x
 |none=>pP f .prim ts:=rfl
theorem fZ (f:Nat) (ts:List Tk):pP (f+1) .prim ts=match dj 40 ts with
 |some r=>match pP f .sum r with
  |some (.ok (e,r2))=>match dj 41 r2 with
   |some r3=>some (.ok (e,r3))
   |none=>some (.error (Hi r2,2))
  |x=>x
 |none=>match ts with
  |t::r=>if t.1=2 then some (ic t r)else if t.1=1 then some (.ok (.nam t.2.1,r))else some (.error (t.2.2,2))
  | []=>some (.error (0,2)):=rfl
theorem q7 {two:Bool} {ts r:List Tk} {k:B4} (h:iL two ts=some (k,r)):r.length<ts.length:=by
 cases ts with
 |nil=>cases h
 |cons t r'=>
  simp only[iL]at h
  split at h
  ·split at h
   ·cases h;simp
   ·cases h
  ·cases h
theorem eE {c:UInt8} {ts r:List Tk} (h:dj c ts=some r):r.length<ts.length:=by
 cases ts with
 |nil=>cases h
 |cons t r'=>
  simp only[dj]at h
  split at h
  ·cases h;simp
  ·cases h
theorem xc {t:Tk} {r r2:List Tk} {e:Ex} (h:ic t r= .ok (e,r2)):r2.length<=r.length:=by
 unfold ic at h
 split at h
 ·cases h
 ·split at h
  ·cases h
  ·split at h
   ·split at h
    ·cases h;simp
    ·cases h;exact Nat.le_refl _
   ·cases h;exact Nat.le_refl _
theorem kA:∀(f:Nat) (m:Md) (ts:List Tk) (x:my),pP f m ts=some x->pP (f+1) m ts=some x
 |0,_,_,_,h=>by cases h
 |f+1, .sum,ts,x,h=>by
  rw[jf]at h ⊢;cases h1:pP f .prod ts with
  |none=>rw[h1]at h;cases h
  |some y=>
   exact G2
 |f+1, .prod,ts,x,h=>by
  rw[gc]at h ⊢;cases h1:pP f .un ts with
  |none=>rw[h1]at h;cases h
  |some y=>
   exact G2
 |f+1, .more two e,ts,x,h=>by
  rw[eG]at h ⊢;cases h0:iL two ts with
  |none=>rw[h0]at h;exact h
  |some p=>
   obtain⟨k,r⟩:=p;rw[h0]at h;dsimp only at h ⊢;cases h1:pP f (jl two) r with
   |none=>rw[h1]at h;cases h
   |some y=>
    exact G2
 |f+1, .un,ts,x,h=>by
  rw[mD]at h ⊢;cases h0:dj 45 ts with
  |none=>rw[h0]at h;exact kA f _ _ _ h
  |some r=>
   rw[h0]at h;dsimp only at h ⊢;cases h1:pP f .un r with
   |none=>rw[h1]at h;cases h
   |some y=>
    rw[h1]at h;rw[kA f _ _ _ h1];exact h
 |f+1, .prim,ts,x,h=>by
  rw[fZ]at h ⊢;cases h0:dj 40 ts with
  |none=>rw[h0]at h;exact h
  |some r=>
   rw[h0]at h;dsimp only at h ⊢;cases h1:pP f .sum r with
   |none=>rw[h1]at h;cases h
   |some y=>
    rw[h1]at h;rw[kA f _ _ _ h1];exact h
theorem Fs {f f':Nat} (hf:f<=f') {m:Md} {ts:List Tk} {x:my} (h:pP f m ts=some x):pP f' m ts=some x:=by
 induction hf with
 |refl=>exact h
 |step _ ih=>exact kA _ _ _ _ ih
theorem gv:∀(f:Nat) (m:Md) (ts:List Tk) (e:Ex) (r:List Tk),pP f m ts=some (.ok (e,r))->r.length<=ts.length/\((∀two x,m≠ .more two x)->r.length<ts.length)
 |0,_,_,_,_,h=>by cases h
 |f+1, .sum,ts,e,r,h=>by
  rw[jf]at h
  split at h
  ·rename_i e1 r1 h1
   exact NZ
  ·exact mR
 |f+1, .prod,ts,e,r,h=>by
  rw[gc]at h
  split at h
  ·rename_i e1 r1 h1
   exact NZ
  ·exact mR
 |f+1, .more two e0,ts,e,r,h=>by
  rw[eG]at h;refine⟨?_,fun hm=>absurd rfl (hm two e0)⟩
  split at h
  ·rename_i k r1 h0
   have hl:=q7 h0
   split at h
   ·rename_i e1 r2 h1
    have a:=(gv f _ _ _ _ h1).1;have b:=(gv f _ _ _ _ h).1;omega
   ·exact mR
  ·cases h;exact Nat.le_refl _
 |f+1, .un,ts,e,r,h=>by
  rw[mD]at h
  split at h
  ·rename_i r1 h0
   have hl:=eE h0
   split at h
   ·rename_i e1 r2 h1
    have a:=(gv f _ _ _ _ h1).1;cases h;exact⟨by omega,fun _=>by omega⟩
   ·exact mR
  ·exact⟨(gv f _ _ _ _ h).1,fun _=>(gv f _ _ _ _ h).2 (fun _ _ h=>by cases h)⟩
 |f+1, .prim,ts,e,r,h=>by
  rw[fZ]at h
  split at h
  ·rename_i r1 h0
   have hl:=eE h0
   split at h
   ·rename_i e1 r2 h1
    have a:=(gv f _ _ _ _ h1).1
    split at h
    ·rename_i r3 h2
     have b:=eE h2;cases h;exact⟨by omega,fun _=>by omega⟩
    ·cases h
   ·exact mR
  ·split at h
   ·rename_i t r1 _
    split at h
    ·injection h with h
     have:=xc h;exact⟨by simp;omega,fun _=>by simp;omega⟩
    ·split at h
     ·cases h;exact⟨by simp,fun _=>by simp⟩
     ·cases h
   ·cases h
def rk:Md->Nat
 | .sum=>4
 | .prod=>3
 | .un=>2
 | .prim=>1
 | .more _ _=>0
theorem O7:∀(n:Nat) (m:Md) (ts:List Tk),5*ts.length+rk m+1<=n-> ∃x,pP n m ts=some x:=by
 intro n
 induction n using Nat.strongRecOn with
 |_ n ih=>
  intro m ts hn;cases n with
  |zero=>omega
  |succ f=>
   cases m with
   |sum=>
    obtain⟨y,hy⟩:=ih f (by omega) .prod ts (by simp only[rk]at hn ⊢;omega);rw[jf,hy];cases y with
    |error e=>exact⟨_,rfl⟩
    |ok y=>
     obtain⟨e,r⟩:=y;have:=(gv f _ _ _ _ hy).1;exact ih f (by omega) (.more false e) r (by simp only[rk]at hn ⊢;omega)
   |prod=>
    obtain⟨y,hy⟩:=ih f (by omega) .un ts (by simp only[rk]at hn ⊢;omega);rw[gc,hy];cases y with
    |error e=>exact⟨_,rfl⟩
    |ok y=>
     obtain⟨e,r⟩:=y;have:=(gv f _ _ _ _ hy).1;exact ih f (by omega) (.more true e) r (by simp only[rk]at hn ⊢;omega)
   |un=>
    rw[mD];cases h0:dj 45 ts with
    |none=>exact ih f (by omega) .prim ts (by simp only[rk]at hn ⊢;omega)
    |some r=>
     have hl:=eE h0;obtain⟨y,hy⟩:=ih f (by omega) .un r (by simp only[rk]at hn ⊢;omega);dsimp only;rw[hy];cases y with
     |error e=>exact⟨_,rfl⟩
     |ok y=>exact⟨_,rfl⟩
   |prim=>
    rw[fZ];cases h0:dj 40 ts with
    |none=>
     cases ts with
     |nil=>exact⟨_,rfl⟩
     |cons t r=>
      dsimp only
      split
      ·exact⟨_,rfl⟩
      ·split
       ·exact⟨_,rfl⟩
       ·exact⟨_,rfl⟩
    |some r=>
     have hl:=eE h0;obtain⟨y,hy⟩:=ih f (by omega) .sum r (by simp only[rk]at hn ⊢;omega);dsimp only;rw[hy];cases y with
     |error e=>exact⟨_,rfl⟩
     |ok y=>
      obtain⟨e,r2⟩:=y;dsimp only
      split
      ·exact⟨_,rfl⟩
      ·exact⟨_,rfl⟩
   |more two e0=>
    rw[eG];cases h0:iL two ts with
    |none=>exact⟨_,rfl⟩
    |some p=>
     obtain⟨k,r⟩:=p;have hl:=q7 h0;dsimp only;obtain⟨y,hy⟩:=ih f (by omega) (jl two) r (by cases two<;>(simp only[jl,rk]at hn ⊢;omega));rw[hy];cases y with
     |error e=>exact⟨_,rfl⟩
     |ok y=>
      obtain⟨e,r2⟩:=y;have h2:r2.length<r.length:=(gv f _ _ _ _ hy).2 (by cases two<;>(intro _ _ h;cases h))
      exact ih f (by omega) (.more two (.bin k e0 e)) r2 (by simp only[rk]at hn ⊢;omega)
section
variable {P:Program} {T:TypeId->Option Ty} {n:Nat} {ops:Array Oper} {id:Nat} {draw:Bool} {K:AS->Prop} {s:AS} {k:Nat} {o:Oper} {os:List Oper} {fps:List FP}
theorem MJ (hT:∀t d,T t=some d->aY P t d) {t:TypeId} {ty:Ty} {x y:Operand} {et q m i:Nat} {ik:IntKind} {cs:List AV} (hcs:cs.length<=m*q) (hi:i<=m) (h1:gd ops s o=some true) (h2:o.op= .slice t x (some y) none none) (h5:T t=some ty) (h6:ty.elem=some (et,q)) (h7:s.ev x= .d (.leaf (.sl m cs))) (h8:s.ev y= .d (.leaf (.val (.int ik (i:Nat)))))
 (h3:aG n o.dst=true) (h4:eY draw ops (az ops o ⟨.d (.leaf (.sl (m-i) (cs.drop (i*q)))),none⟩ []) k fps=true) (h:aq P T n ops id draw K (k+1) os (s.eff o.dst ⟨.d (.leaf (.sl (m-i) (cs.drop (i*q)))),none⟩) (az ops o ⟨.d (.leaf (.sl (m-i) (cs.drop (i*q)))),none⟩ []::fps)):aq P T n ops id draw K k (o::os) s fps:=by
 refine .run h1 (.gen fun s2 ht _=>?_) h3 h4 h;have hx:=(aw ht (x:=x) (by simp[h2,Op.operands])).trans h7;have hy:=(aw ht (x:=y) (by simp[h2,Op.operands])).trans h8;obtain⟨u,hu,_,hel,_⟩:=(hT _ _ h5).und;obtain⟨rfl,hks⟩:=hel et q h6;refine an fun n S0 w0 g a w hM=>?_
 have hm:=hM.ev x;rw[hx]at hm;have hm:AV.M (Own S0 g s2) w (.sl m cs) (a.eval x):=hm;have hiv:=bh hM hy
 have key:∃v,(Instr.sliceAt t (a.eval x) (some (.int ik (i:Nat))) none none).run P w= .ok v w/\AV.M (Own S0 g s2) w (.sl (m-i) (cs.drop (i*q))) v:=by
  generalize a.eval x=v at hm;have hib:(0:Int)<=(i:Int)/\(i:Int)<=(m:Nat):=⟨by omega,by omega⟩
  have run:∀(A:Option Addr) (c:Nat),(Instr.sliceAt t (.slice A m c) (some (.int ik (i:Nat))) none none).run P w= .ok (.slice (if c=i then A else A.map (·.add (i*q))) (m-i) (c-i)) w:=fun A c=>by
   refine Bw ?_;unfold Instr.slice
   simp only[Sem.run_bind,run_underlying hu w,Result.andThen_ok,Instr.sliceBounds,Instr.sliceBound,Sem.run_pure,asIntOf]
   rw[if_pos hib]
   simp only[Sem.run_pure,Result.andThen_ok,Int.toNat_natCast]
   rw[bA hks w];rfl
  cases hm with
  |emp e1 e2 e3=>
   rename_i A c
   refine⟨_,run A c,?_⟩;rw[List.drop_nil];refine .emp (by omega) (by omega) (fun hA=>?_)
   split at hA
   ·rename_i hci;omega
   ·have:A=none:=by cases A<;>simp_all
    have:=e3 this;omega
  |sl f e1 e2 e3 e4 e5 e6=>
   rename_i b off c
   refine⟨_,run _ c,?_⟩
   by_cases hci:c=i
   ·rw[if_pos hci]
    have hd:cs.drop (i*q)=[]:=List.drop_eq_nil_of_le (by rw[show i=m by omega];exact hcs);rw[hd];exact .emp (by omega) (by omega) (fun h=>by cases h)
   ·rw[if_neg hci]
    show AV.M _ _ _ (.slice (some ((⟨b,off,none⟩:Addr).add (i*q))) (m-i) (c-i));rw[bX];refine .sl (fun j=>f (i*q+j)) (by omega) (by omega) e3 e4 (fun j x hj=>?_) (fun j x hj=>?_)
    ·rw[List.getElem?_drop]at hj
     rw[Nat.add_assoc];exact e5 _ _ hj
    ·rw[List.getElem?_drop]at hj
     exact e6 _ _ hj
 obtain⟨v,hr,hv⟩:=key;refine⟨v,w,?_,Below.refl _ _,hv⟩;unfold execOp;rw[h2]
 simp only[hiv,Option.map_some,Option.map_none,Sem.run_bind,hr,Result.andThen_ok]
 rfl
theorem oG {w:World} {t kt et:TypeId} {r:Nat} {es:Array MapEntry} {clk:Nat} {key:ByteArray} {v:Value} (hm:P.underlying t=some (.map kt et)) (hk:P.underlying kt=some .string) (hb:w.heap[r]? =some (.map es clk)) (hf:Instr.findNow .string (.string key) es.toList 0=some none):
 (Instr.mapUpdate t (.map (some r)) (.string key) v).run P w= .ok () { w with heap:=w.heap.setIfInBounds r (.map (es.push { key:= .string key,val:=v,born:=clk }) (clk+1)) }:=by
 have hc:(Instr.checkKey false 10000 kt (.string key)).run P w= .ok () w:=MapKept.run_checkKey hk (by simp[MapKept.IsKey]) false 9999
 simp[Instr.mapUpdate,run_underlying hm,MapKept.run_getObj_map hb,hc,MapKept.run_findKey hk hf,MapKept.run_setObj_map _ hb,Result.andThen]
theorem O5 {o1 o2 o3:Oper} {d:Nat} {t kt et:TypeId} {k1 k2:ByteArray} {v1 v2:Value} (hm:P.underlying t=some (.map kt et)) (hk:P.underlying kt=some .string) (h0:draw=false) (h1:o1.op= .makeMap t none) (h2:o2.op= .insert t (.tmp d) (.const (.string k1)) (.const v1)) (h3:o3.op= .insert t (.tmp d) (.const (.string k2)) (.const v2)) (hd:o1.dst=some d) (hg:o1.guard=none/\o2.guard=none/\o3.guard=none) (hd2:o2.dst=none) (hd3:o3.dst=none) (hdn:aG n o1.dst=true) (hne:(k2 == k1)=false)
 (h:aq P T n ops id draw K (k+3) os ⟨(d, .mp [(.string k1,v1),(.string k2,v2)])::s.t,s.b⟩ fps):aq P T n ops id draw K k (o1::o2::o3::os) s fps:=by
 refine .snd3 h0 hg (fun S0 w0 g a w K' Q hM hK=>?_) h;have hdl:d<n:=dx hdn d hd
 generalize hr:w.heap.size=r
 have hev:((a.put (some d) (.map (some r))).eval (.tmp d))= .map (some r):=by
  have:d<a.tmps.size:=by rw[hM.sz];exact hdl
  simp[Act.eval,Act.put,this]
 have b1:(w.alloc (.map #[] 0)).heap[r]? =some (.map #[] 0):=by rw[<- hr];exact heap_alloc_new w _
 have r1:=oG (P:=P) (w:=w.alloc (.map #[] 0)) (key:=k1) (v:=v1) hm hk b1 rfl;generalize he1:({ key:= .string k1,val:=v1,born:=0 }:MapEntry)=e1 at r1;have hk1:e1.key= .string k1:=by rw[<- he1]
 have hv1:e1.val=v1:=by rw[<- he1]
 generalize hw2:({ (w.alloc (.map #[] 0))with heap:=(w.alloc (.map #[] 0)).heap.setIfInBounds r (.map (#[].push e1) (0+1)) }:World)=w2 at r1
 have b2:w2.heap[r]? =some (.map #[e1] 1):=by
  rw[<- hw2];have:r<(w.alloc (.map #[] 0)).heap.size:=(Array.getElem?_eq_some_iff.1 b1).1
  show(Array.setIfInBounds _ r _)[r]? =_;rw[Array.getElem?_setIfInBounds,if_pos rfl,if_pos this];rfl
 have r2:=oG (P:=P) (w:=w2) (key:=k2) (v:=v2) hm hk b2 (by simp[Instr.findNow,Instr.sameNow,hk1,hne]);generalize he2:({ key:= .string k2,val:=v2,born:=1 }:MapEntry)=e2 at r2;have hk2:e2.key= .string k2:=by rw[<- he2]
 have hv2:e2.val=v2:=by rw[<- he2]
 have hfin:({ w2 with heap:=w2.heap.setIfInBounds r (.map (#[e1].push e2) (1+1)) }:World)=w.alloc (.map #[e1,e2] 2):=by
  have hA:∀o:Obj,w.alloc o={ w with heap:=w.heap.push o }:=fun _=>rfl
  rw[<- hw2,<- hr,hA,hA];show({ w with heap:=Array.setIfInBounds (Array.setIfInBounds (w.heap.push _) w.heap.size _) w.heap.size _ }:World)={ w with heap:=w.heap.push _ }
  congr 1
  apply Array.ext_getElem?
  intro i
  simp only[Array.getElem?_setIfInBounds,Array.getElem?_push,Array.size_setIfInBounds,Array.size_push]
  by_cases hi:i=w.heap.size
  ·subst hi;simp
  ·have:¬w.heap.size=i:=fun e=>hi e.symm
   simp[this,hi]
 have q1:(execOp a.eval o1).run P w= .ok (.value (.map (some r))) (w.alloc (.map #[] 0)):=by
  unfold execOp;rw[h1,<- hr];rfl
 generalize ha1:a.put (some d) (.map (some r))=a1 at hev;have hev:a1.tmps.getD d Go.undef= .map (some r):=hev
 have q2:(execOp a1.eval o2).run P (w.alloc (.map #[] 0))= .ok .skip w2:=by
  unfold execOp;rw[h2]
  simp only[Act.eval,hev,Sem.run_bind,r1,Result.andThen_ok,Sem.run_pure]
 have q3:(execOp a1.eval o3).run P w2= .ok .skip (w.alloc (.map #[e1,e2] 2)):=by
  unfold execOp;rw[h3]
  simp only[Act.eval,hev,Sem.run_bind,r2,hfin,Result.andThen_ok,Sem.run_pure]
 have fin:MG n S0 w0 g ⟨(d, .mp [(.string k1,v1),(.string k2,v2)])::s.t,s.b⟩ a1 (w.alloc (.map #[e1,e2] 2)):=by
  rw[<- ha1];refine hM.put hdl ((Below.refl _ _).alloc (Nat.le_refl _) _) ⟨r,#[e1,e2],2,rfl,by rw[<- hr];exact heap_alloc_new w _,fun hS=>?_,by simp[hk1,hv1,hk2,hv2]⟩;have:=hM.own_lt hS;omega
 unfold Oper.wp;rw[q1,Oper.upon_value,hd,ha1];show o2.upon P a1 _ Q ((execOp a1.eval o2).run P (w.alloc (.map #[] 0)));rw[q2,Oper.upon_skip,hd2];show o3.upon P a1 _ Q ((execOp a1.eval o3).run P w2);rw[q3,Oper.upon_skip,hd3];exact hK g _ _ fin
def Sb (k:ByteArray):List (Value × Value)->Option Value
 | []=>none
 |(.string a,v)::r=>match k == a with
  |true=>some v
  |false=>Sb k r
 |_::_=>none
theorem oN {k:ByteArray} {v:Value}:∀(l:List MapEntry) (i:Nat),Sb k (l.map fun e=>(e.key,e.val))=some v-> ∃j,Instr.findNow .string (.string k) l i=some (some (j,v))
 | [],_,h=>by cases h
 |e::r,i,h=>by
  simp only[List.map_cons]at h
  cases hk:e.key<;>rw[hk]at h<;>try(cases h)
  rename_i a
  simp only[Sb]at h
  simp only[Instr.findNow,hk,Instr.sameNow]
  cases hb:k == a
  ·rw[hb]at h
   exact oN r (i+1) h
  ·rw[hb]at h
   cases h;exact⟨i,rfl⟩
theorem FY {t kt et:TypeId} {x y:Operand} {es:List (Value × Value)} {key:ByteArray} {v:Value} (hm:P.underlying t=some (.map kt et)) (hk:P.underlying kt=some .string) (hl:Sb key es=some v) (hp:v.oneCell'=true) (h1:gd ops s o=some true) (h2:o.op= .lookup t x y false) (h7:s.ev x= .mp es) (h8:s.ev y= .d (.leaf (.val (.string key))))
 (h3:aG n o.dst=true) (h4:eY draw ops (az ops o ⟨.d (.leaf (.val v)),none⟩ []) k fps=true) (h:aq P T n ops id draw K (k+1) os (s.eff o.dst ⟨.d (.leaf (.val v)),none⟩) (az ops o ⟨.d (.leaf (.val v)),none⟩ []::fps)):aq P T n ops id draw K k (o::os) s fps:=by
 refine .run h1 (.gen fun s2 ht _=>?_) h3 h4 h;have hx:=(aw ht (x:=x) (by simp[h2,Op.operands])).trans h7;have hy:=(aw ht (x:=y) (by simp[h2,Op.operands])).trans h8;refine an fun n S0 w0 g a w hM=>⟨v,w,?_,Below.refl _ _,AV.M.val hp⟩
 have hmx:=hM.ev x;rw[hx]at hmx;obtain⟨r,ents,clk,e1,e2,_,e4⟩:=hmx;obtain⟨j,hj⟩:=oN ents.toList 0 (by rw[e4];exact hl);have hc:(Instr.checkKey ents.isEmpty 10000 kt (.string key)).run P w= .ok () w:=MapKept.run_checkKey hk (by simp[MapKept.IsKey]) _ 9999;unfold execOp;rw[h2]
 simp[e1,bh hM hy,Instr.lookup,run_underlying hm,MapKept.run_getObj_map e2,hc,MapKept.run_findKey hk hj,Result.andThen]
def TS (s:AS):Bool:=oe (s.tv DK)
theorem CL {f:Operand} {fid:FuncId} {args:Array Operand} {ts:Array TypeId} {cs:List CV} (h0:draw=false) (h1:gd ops s o=some true) (ho:o.op= .defer ⟨.value f,args,ts⟩) (hdst:o.dst=none) (hf:s.ev f= .d (.leaf (.val (.func (.func fid) #[] #[])))) (ha:mK s args.toList=some cs) (hd:TS s=true)
 (h:aq P T n ops id draw K (k+1) os ⟨(DK, .dfr fid cs)::s.t,s.b⟩ (az ops o ⟨.junk,none⟩ []::fps)):aq P T n ops id draw K k (o::os) s fps:=by
 refine .snd h0 h1 (fun S0 w0 g a w K' Q hM hK=>?_) h;have hv:=bh hM hf;have hc:=md hM ha;have e:(List.map a.eval args.toList).toArray=args.map a.eval:=Array.ext' (by simp)
 have hr:(execOp a.eval o).run P w= .ok (.defer ⟨.fn (.func fid) #[],(args.toList.map a.eval).toArray⟩) w:=by
  unfold execOp;rw[ho]
  simp only[resolve,hv,Deferred.ofValue,Sem.run_bind,Sem.run_pure,Result.andThen_ok,e,Array.empty_append]
 unfold Oper.wp;rw[hr,Oper.upon_defer,hdst];refine hK g _ w ⟨fun i=>?_,fun i ci hi=>?_,hM.inj,hM.grow,?_,hM.sz,hM.cl,hM.tg,fun k cs hk=>(hM.gl k cs hk).sameB rfl,hM.gp,hM.nk⟩
 ·by_cases hi:DK=i
  ·subst hi
   have e0:(AS.mk ((DK, .dfr fid cs)::s.t) s.b).tv DK= .dfr fid cs:=by simp[AS.tv,ai]
   rw[e0]
   trivial
  ·have e0:(AS.mk ((DK, .dfr fid cs)::s.t) s.b).tv i=s.tv i:=by simp[AS.tv,ap _ _ hi]
   rw[e0];exact(hM.tm i).sameB rfl
 ·obtain⟨h2,h3⟩:=hM.bm i ci hi
  exact⟨h2,h3.sameB rfl⟩
 ·have e0:(AS.mk ((DK, .dfr fid cs)::s.t) s.b).tv DK= .dfr fid cs:=by simp[AS.tv,ai]
  rw[e0];refine⟨args.toList.map a.eval,?_,pv.sameB (s:=s) (s':=⟨(DK, .dfr fid cs)::s.t,s.b⟩) rfl hc⟩;have h2:=(y8.no hd).1 hM.df;show _::a.defers=_;rw[h2]
end
section
variable {P:Program} {T:TypeId->Option Ty}
structure TA (P:Program) (s:AS) (b':BL) (fid:FuncId) (cs:List CV) (b1:BL) (r1:RT) (b2:BL):Prop where
 dk:s.tv DK= .dfr fid cs
 one:rV cs=true
 body:gC P fid (cs.map RM) b1 r1 b2
 kn:(BU (ar b1) ((cs.map RM).flatMap dw) && sI (ar b1) (ar b1))=true
 bx:p6 s (ar b1)
 cl:dt (b1.map (·.1)) s.b=true
 new:lH s b1 b2=true
 fin:p6 ⟨s.t,ar b2++cU b2 b1++s.b⟩ (ar b')
def Rl (P:Program) (T:TypeId->Option Ty) (s:AS) (rs:List ResultVar) (b':BL):Prop:=Lg T s rs (.v (.tup [])) b'∨ ∃fid cs b1 r1 b2,TA P s b' fid cs b1 r1 b2
theorem CallsD.mono {f:FuncId} {args:Array Value} {u:FrameMode} {w:World} {R R':Ending->FrameMode->World->Prop} (h:CallsD P f args u w R) (hR:∀e u' w',R e u' w'->R' e u' w'):CallsD P f args u w R':=fun c cs hu=>by
 obtain⟨e,u',w',fr,h1,h2⟩:=h c cs hu;exact⟨e,u',w',fr,hR _ _ _ h1,h2⟩
theorem ge (hT:∀t d,T t=some d->aY P t d) (hmix:P.follows .mixedOrders=true) {f:FuncId} {fn:Func} {c:Code} {ts:List TV} {b b':BL} (hf:P.funcs[f]? =some fn) (hb:fn.body=some c) (hn:(fn.name == "runtime.NumGoroutine")=false) (hsz:(Nat.ble ts.length fn.ntmps && Nat.ble fn.ntmps DK)=true) (hrs:fn.results= #[])
 (hrv:sG b' b=true) (hkn:wS (.v (.tup [])) b'=true) (hlen:di b b')
 (h:fq P T fn.ntmps c (fun e s=>match e with| .exit _=>False|_=>Rl P T s fn.results.toList b') ⟨tE 0 ts,ar b⟩):au P f ts b (.v (.tup [])) b':=by
 unfold wS at hkn;rw[Bool.and_eq_true]at hkn hsz;obtain⟨hwfc,_⟩:=hkn;obtain⟨hsz,hnk⟩:=hsz;have hsz:=Nat.le_of_ble_eq_true hsz;have hnk:=Nat.le_of_ble_eq_true hnk
 have hres:∀(t:Array Value) (w:World),(results fn t).run P w= .ok (.tuple #[]) w:=fun t w=>by
  unfold results;rw[hrs]
  simp
 refine⟨fun args w=>?_,fun S g w vs hS hv=>?_⟩
 ·exact NI
 ·refine calls_of_wp_defers hf hb (wp_mono (oj (S0:=S) (w0:=pg g w b) hT hmix c _ _ _ w h (yP hS hv hsz hnk)) fun e a w1 hq=>?_)
  have nil:∀g1 w2,TV.M (Own S g1 (sB b')) g1 (sB b') w2 (RT.v (.tup [])).tv (.tuple #[]):=fun g1 w2=>⟨[],rfl,rfl,fun i x u h1 _=>by simp at h1⟩
  have fin:∀s,Rl P T s fn.results.toList b'->M fn.ntmps S (pg g w b) s a w1->Leaves P fn a.tmps (uR S g b (.v (.tup [])) b' w) a.defers .returning w1:=by
   rintro s (⟨⟨l,h1,_⟩,hwk⟩| ⟨fid,cs,b1,r1,b2,hD⟩) ⟨g1,hm⟩
   ·rw[(y8.no (iH h1)).1 hm.df]
    exact⟨_,hres _ _,AI hrv hwfc hlen hwk hm (nil _ _)⟩
   ·have hdf:=hm.df
    rw[hD.dk]at hdf;obtain⟨us,e1,hcv⟩:=hdf;rw[e1];have hkw:=hD.kn;rw[Bool.and_eq_true]at hkw;obtain⟨S1,hpre,hO,hpost⟩:=hm.callT (b:=b1) (b':=b2) hD.bx hkw.2 (zv hD.cl) (fun j cs hj hn=>pH hD.new (bI.1 hj) hn);have inb:∀j cs,(sB b1).bx j=some cs->s.bx j=some cs:=fun j cs hj=>hD.bx.at (bI.1 hj)
    obtain⟨fn1,c1,hf1,hb1,hw1⟩:=hD.body.body;refine⟨(by simp), .func fid,#[],fid,us.toArray,rfl,?_,?_⟩
    ·have:=hD.body.enter us.toArray w1
     simp only[invoke]
     simpa using this
    ·refine CallsD.mono (callsD_of_wp hf1 hb1 (hw1 S1 g1 w1 us hpre (by rw[hO];exact pG inb (zH hkw.1) (sf hD.one hcv)))) fun e u' w2 hq=>?_
     obtain⟨rfl,v,g2,rfl,k2,k3,k4,k5,k6⟩:=hq;obtain⟨g3,hm3⟩:=hpost r1 v g2 w2 k2 k3 k4 k5 k6 none (fun d h=>by cases h);exact⟨_,hres _ _,AI hrv hwfc hlen hD.fin hm3 (nil _ _)⟩
  exact N2
end
theorem pt (s:List UInt8) (c:UInt8):aa Tryz.prog 228 [dL s,dL [c]] (.one (dB (decide (0<=Lib.indexByte s c)))):=
 ⟨av func228 rfl rfl,fun S w vs hS hv=>by
  match vs,hv with
  | [v,u],⟨h1,h2,_⟩=>
   obtain rfl:=aV h1;obtain rfl:=aV h2;refine(Tryz.strings_Contains_one (Bs s) c w).mono ?_;rintro e w' ⟨rfl,rfl⟩;exact⟨_,rfl,AV.M.val rfl,Below.refl _ _⟩⟩
def fw (ts:List Tk) (a e:Int):List AV:=[.sl ts.length (f9 ts), .val (.int .i64 a), .val (.int .i64 e)]
theorem fQ {ts ts':List Tk} {a e a' e':Int}:di [(900,fw ts a e)] [(900,fw ts' a' e')]:=di.one (Nat.le_refl 3)
theorem cZ (t:Tk) (r:List Tk) (a e:Int):au Tryz.prog 79 [.box 900 0] [(900,fw (t::r) a e)] (.v (.one (.agg (A2 t)))) [(900,fw (t::r) a e)]:=by
 refine aM ah cX func79 rfl rfl rfl rfl rfl (fQ) ?_;refine fP ?_
 refine aH (i:=0) (cs':=A2 t) (Nat.zero_lt_succ _) (fun j a h=>by
  rw[Nat.zero_mul,Nat.zero_add];show(A2 t++f9 r)[j]? =some a;rw[List.getElem?_append_left (List.getElem?_eq_some_iff.1 h).1];exact h) (Nat.zero_lt_succ 2) rfl rfl rfl rfl rfl rfl rfl rfl ?_
 exact jt
theorem jm (t:Tk) (r:List Tk) (a e:Int):au Tryz.prog 170 [.box 900 0] [(900,fw (t::r) a e)] (.v (.one (.agg (A2 t)))) [(900,fw r a e)]:=by
 refine aM ah cX func170 rfl rfl rfl rfl rfl (fQ) ?_;refine gI ?_;refine kD (cZ t r a e) ?_;refine kG ?_
 refine kO5 ?_
 refine MJ (m:=(t::r).length) (i:=1) (q:=3) ah (by rw[yh];exact Nat.le_refl _) (by simp) rfl rfl rfl rfl rfl rfl rfl rfl ?_;exact jt
def El (n8:List UInt8) (t:Tk):Bool:=match t.2.1 with
 | [c]=>decide (0<=Lib.indexByte n8 c)
 |_=>false
theorem rU (n8:List UInt8) (t:Tk) (r:List Tk) (a e:Int) (hk:t.1=4-> ∃c,t.2.1=[c]):au Tryz.prog 169 [.box 900 0, .d (dL n8)] [(900,fw (t::r) a e)] (.v (.one (dB (decide (e=0) && (decide (t.1=4) && El n8 t))))) [(900,fw (t::r) a e)]:=by
 obtain⟨k,x,p⟩:=t;dsimp only at hk ⊢
 by_cases he:e=0
 ·by_cases h4:k=4
  ·obtain⟨c,rfl⟩:=hk h4
   have hc:=pt n8 c;rw[decide_eq_true he,decide_eq_true h4,Bool.true_and,Bool.true_and,show El n8 (k,[c],p)=decide (0<=Lib.indexByte n8 c) from rfl];generalize decide (0<=Lib.indexByte n8 c)=b at *;refine I4 ?_;refine gI ?_;refine kD (cZ (k,[c],p) r a e) ?_;refine kG ?_
   refine kO4 ?_
   refine kT ?_
   refine kO3 ?_
   refine kT ?_
   refine kO5 ?_
   refine kC (hc) ?_;exact jt
  ·rw[decide_eq_true he,decide_eq_false h4,Bool.true_and,Bool.false_and]
   refine I4 ?_;refine gI ?_;refine kD (cZ (k,x,p) r a e) ?_;refine kG ?_
   refine kO4 ?_
   refine kT ?_
   refine kO3 ?_
   refine kE ?_;exact jt
 ·rw[decide_eq_false he,Bool.false_and]
  refine I4 ?_;refine gI ?_;refine kD (cZ (k,x,p) r a e) ?_;refine kG ?_
  refine kO4 ?_
  refine kB false ?_ ?_
  ·exact decide_eq_false he
  exact jt
theorem j9 (t:Tk) (r:List Tk) (a c:Int):au Tryz.prog 80 [.box 900 0, .d (dN .i64 c)] [(900,fw (t::r) a 0)] (.v (.tup [])) [(900,fw (t::r) t.2.2 c)]:=by
 refine aM ah cX func80 rfl rfl rfl rfl rfl (fQ) ?_;refine kW ?_;refine kD (cZ t r a 0) ?_;exact jt
theorem xT (t:Tk) (r:List Tk) (a e c:Int) (he:e≠0):au Tryz.prog 80 [.box 900 0, .d (dN .i64 c)] [(900,fw (t::r) a e)] (.v (.tup [])) [(900,fw (t::r) a e)]:=by
 refine aM ah cX func80 rfl rfl rfl rfl rfl (fQ) ?_;refine kI ?_
 refine kO4 ?_
 refine kB false ?_ ?_
 ·exact decide_eq_false he
 exact jt
def eZ:List Tk->Prop
 | []=>False
 | [t]=>t.1=0
 |t::u::r=>(t.1≠0/\(t.1=4-> ∃c,t.2.1=[c])/\(t.1=2->t.2.1.length<=500))/\eZ (u::r)
theorem eZ.head {t:Tk} {r:List Tk} (h:eZ (t::r)):(t.1=4-> ∃c,t.2.1=[c])/\(t.1=2->t.2.1.length<=500):=by
 cases r with
 |nil=>have h:t.1=0:=h;exact⟨fun e=>by omega,fun e=>by omega⟩
 |cons u r=>exact h.1.2
theorem eZ.tail {t:Tk} {r:List Tk} (h:eZ (t::r)) (h0:t.1≠0):eZ r:=by
 cases r with
 |nil=>exact absurd h h0
 |cons u r=>exact h.2
theorem eZ.ne {ts:List Tk} (h:eZ ts):∃t r,ts=t::r:=by
 cases ts with
 |nil=>exact h.elim
 |cons t r=>exact⟨t,r,rfl⟩
def Rd (fid:FuncId) (ts:List Tk) (a:Int):my->Prop
 | .ok (e,r)=>au Tryz.prog fid [.box 900 0] [(900,fw ts a 0)] (.v (.one (dE e))) [(900,fw r a 0)]/\eZ r
 | .error (p,c)=>c≠0/\ ∃y ts',au Tryz.prog fid [.box 900 0] [(900,fw ts a 0)] (.v (.one (dR y))) [(900,fw ts' p c)]/\eZ ts'
theorem PP (n:Nat):Lib.repeatL [48] n=List.replicate n 48:=by
 induction n with
 |zero=>rfl
 |succ n ih=>
  simp[Lib.repeatL,List.replicate_succ]at ih ⊢
  exact ih
theorem Gu (z:Int):0<(fmt z).length:=by
 rw[Ee]
 have:0<(AY z.natAbs).length:=by
  unfold AY
  split
  ·simp
  ·rename_i h
   obtain⟨c,r,e,_⟩:=IA h;rw[e]
   simp
 simp
 omega
theorem zJ (n:Nat) (hn:n<=1000000):aa Tryz.prog 178 [dL [48],dN .i64 n] (.one (dL (List.replicate n 48))):=
 ⟨av func178 rfl rfl,fun S w vs hS hv=>by
  match vs,hv with
  | [v,u],⟨h1,h2,_⟩=>
   obtain rfl:=aV h1;obtain rfl:=aV h2;refine(Tryz.strings_Repeat (Bs [48]) n w (by omega) (by rw[aB];simp;omega)).mono ?_;rintro e w' ⟨rfl,hb⟩;exact⟨_,rfl,by rw[show(Bs [48]).data.toList=[48] from rfl,PP];exact AV.M.val rfl,hb⟩⟩
theorem it {q:Rat} {n:Nat} (sq:dA n q) (hn:n<=900):∃t,aa Tryz.prog 125 [dQ q] (.tup [dL t,dB (fT q).isSome])/\ ∀u,fT q=some u->t=u:=by
 have cv:aa Tryz.prog 173 [dQ q] (.one (dB true)):=xd q sq (by omega)
 by_cases hneg:MU q<0
 ·have h0:fT q=none:=by rw[fT,if_pos hneg]
  refine⟨[],?_,fun u h=>by rw[h0]at h;cases h⟩;rw[h0];refine kV func125 ?_;refine kQ (cv) ?_;refine kC (nA q) ?_;refine kB true ?_ ?_
  ·exact decide_eq_true hneg
  exact am
 ·obtain⟨K,k1,k2,k3⟩:=rT hneg
  have main:∀t b,(40<=K->t=[]/\b=false)->(K<40->t=lg K (fmt (pw q K).num)/\b=decide (t.length<=40))->aa Tryz.prog 125 [dQ q] (.tup [dL t,dB b]):=by
   intro t b g1 g2;refine kV func125 ?_;refine kQ (cv) ?_;refine kC (nA q) ?_;refine kB false ?_ ?_
   ·exact decide_eq_false hneg
   refine kW ?_;refine ae (jj 10 (by decide) (by decide) (q:=((10:Int):Rat)) rfl) rfl rfl rfl rfl rfl rfl rfl ?_;refine kW ?_;refine ae (dq 1 (by decide) (by decide)) rfl rfl rfl rfl rfl rfl rfl ?_;refine kW ?_
   refine ax Nat (fun k=>k<=K) (fun k=>⟨[(1, .box 0 0),(2, .d (dL [])),(3, .d (dB false)),(4, .box 3001 0),(5, .box 4001 0),(6, .d (dN .i64 k))],[(0,some (aQ (pw q k))),(3001,some (aQ ((10:Int):Rat))),(4001,some (aZ 1))]⟩) (fun k=>41-k) 0 (Nat.zero_le _)
    kw ?_
   intro k hk;have sk:=JE sq k;refine kI ?_;refine kO ?_
   by_cases h40:k<40
   ·refine kT ?_
    refine kG ?_
    refine kO3 ?_
    have hcs:=EQ ((pw q k).den:Int) 1
    by_cases hd1:((pw q k).den:Int)=1
    ·have hkK:k=K:=by
      rcases Nat.lt_or_ge k K with h|h
      ·exact absurd hd1 (k2 k h)
      ·omega
     rw[show bE ((pw q k).den:Int) 1=0 by rw[hd1];exact BN 1]at hcs;obtain⟨rfl,rfl⟩:=g2 (by omega);subst hkK;refine kQ (hcs) ?_;have hlen:(fmt (pw q k).num).length<=10*(n+k)+2:=BI sk.1;refine ae (uQ (Nat.le_trans sk.1.digs (by omega))) rfl rfl rfl rfl rfl rfl rfl ?_;refine kG ?_;refine kO ?_;unfold lg ti;have hpos:0<(fmt (pw q k).num).length:=Gu _
     generalize fmt (pw q k).num=u at *;have hB:=aB u
     by_cases hk0:0<k
     ·rw[if_pos hk0]
      refine kT ?_;refine kG ?_
      refine kO4 ?_
      refine bM (v':= .int .i64 ((k:Int)+1-u.length)) rfl rfl rfl rfl ?_ ?_
      ·exact congrArg (Value.int .i64) (by rw[IntWalk.i64_in ((k:Int)+1) (by omega),IntWalk.i64_in _ (by omega)];omega)
      refine kG ?_;refine kO ?_
      by_cases hp:u.length<k+1
      ·refine kT ?_
       refine kG ?_;refine kO ?_;have cr:=zJ (k+1-u.length) (by omega);rw[show(((k+1-u.length:Nat)):Int)=(k:Int)+1-u.length by omega]at cr;refine kC (cr) ?_;refine kO ?_;refine aD rfl rfl rfl rfl rfl rfl rfl (db (a:=List.replicate (k+1-u.length) 48) (b:=u) (by simp;omega)) ?_;have hwl:(List.replicate (k+1-u.length) 48++u).length=k+1-u.length+u.length:=by simp
       generalize hwd:List.replicate (k+1-u.length) 48++u=w at *;have hwB:=aB w;exact NW
      ·refine kE ?_
       rw[show k+1-u.length=0 by omega,List.replicate_zero,List.nil_append];have hwl:u.length=u.length:=rfl;generalize hwd:u=w at *;exact NW
     ·obtain rfl:k=0:=by omega
      rw[if_neg hk0];have hu1:0+1-u.length=0:=by omega
      rw[hu1,List.replicate_zero,List.nil_append];refine kE ?_;refine kG ?_
      refine kO3 ?_
      refine bM (v':= .bool (decide (u.length<=40))) rfl rfl rfl rfl ?_ ?_
      ·exact Hz
      exact am
    ·have hne:bE ((pw q k).den:Int) 1≠0:=by
      rcases Int.lt_trichotomy ((pw q k).den:Int) 1 with h|h|h
      ·rw[fA h];decide
      ·exact absurd h hd1
      ·rw[i8 h];decide
     refine kC (hcs) ?_;refine kB true ?_ ?_
     ·exact(by simpa using hne)
     refine kW ?_;refine ae (qu sk (u6 (n:=10) (by decide)) (by omega) (q:=pw q (k+1)) rfl) rfl rfl rfl rfl rfl rfl rfl ?_;refine kW ?_
     exact⟨k+1,by
      rcases Nat.lt_or_ge k K with h|h
      ·exact h
      ·obtain rfl:k=K:=by omega
       rcases k3 with⟨e,_⟩| ⟨_,k3,_⟩
       ·omega
       ·exact absurd k3 hd1,by omega,weak ⟨rfl,rfl,rfl,rfl,rfl,aA (by omega) (by omega),trivial⟩ ⟨rfl,rfl,rfl,trivial⟩ rfl⟩
   ·refine kE ?_
    obtain⟨rfl,rfl⟩:=g1 (by omega);exact am
  rcases k3 with⟨e,h0⟩| ⟨e,h1,h2⟩
  ·exact G5
  ·by_cases h40:K=40
   ·have h0:fT q=none:=by
     rw[h2,if_neg];have:=Hn K (fmt (pw q K).num) (by omega);omega
    exact G5
   ·exact Tf
section
variable {P:Program} {T:TypeId->Option Ty} {n:Nat} {ops:Array Oper} {id:Nat} {draw:Bool} {K:AS->Prop} {s:AS} {k:Nat} {o:Oper} {os:List Oper} {fps:List FP}
end
open Classical in
noncomputable def Fb (n:Nat):List UInt8->Option Rat
 | []=>some ((n:Int):Rat)
 |c::b=>if c=46 then(if b≠[]/\(∀x∈b,gb x)then some (Rat.divInt ((n*10^b.length+num b:Nat):Int) ((10^b.length:Nat):Int))else none)else if c=47 then(if jy false b/\num b≠0/\num b≠1/\Nat.gcd n (num b)=1 then some (Rat.divInt (n:Int) (num b:Int))else none)else none
theorem K5 {t:List UInt8} (h:jy false (fJ t)):iN t=Fb (num (fJ t)) (jz t):=by
 unfold iN Fb;rw[if_pos h];cases jz t<;>rfl
theorem SF {n:Nat} {c:UInt8} {b:List UInt8} (hc:c=46) (h:¬(b≠[]/\(∀x∈b,gb x))):Fb n (c::b)=none:=by subst hc;unfold Fb;dsimp only;rw[if_pos rfl,if_neg h]
theorem PO {n:Nat} {c:UInt8} {b:List UInt8} (hc:c=46) (h:b≠[]/\(∀x∈b,gb x)):Fb n (c::b)=some (Rat.divInt ((n*10^b.length+num b:Nat):Int) ((10^b.length:Nat):Int)):=by subst hc;unfold Fb;dsimp only;rw[if_pos rfl,if_pos h]
theorem RZ {n:Nat} {c:UInt8} {b:List UInt8} (hc:c=47) (h:¬(jy false b/\num b≠0/\num b≠1/\Nat.gcd n (num b)=1)):Fb n (c::b)=none:=by subst hc;unfold Fb;dsimp only;rw[if_neg (by decide),if_pos rfl,if_neg h]
theorem OX {n:Nat} {c:UInt8} {b:List UInt8} (hc:c=47) (h:jy false b/\num b≠0/\num b≠1/\Nat.gcd n (num b)=1):Fb n (c::b)=some (Rat.divInt (n:Int) (num b:Int)):=by subst hc;unfold Fb;dsimp only;rw[if_neg (by decide),if_pos rfl,if_pos h]
theorem Rc {n:Nat} {c:UInt8} {b:List UInt8} (h:c≠46) (h':c≠47):Fb n (c::b)=none:=by unfold Fb;dsimp only;rw[if_neg h,if_neg h']
theorem Jd (t:List UInt8):(fJ t).length<=t.length:=by
 have:=congrArg List.length (r8 t);rw[List.length_append]at this;omega
theorem Qj {k j:Nat} (h:k<j):Sz j ((10^k:Nat):Int):=by
 unfold Sz;rw[Int.natAbs_natCast];exact Nat.lt_of_le_of_lt (Nat.pow_le_pow_left (by decide) k) (Nat.pow_lt_pow_right (by decide) h)
end Go.Proofs.YtnchbpoopnjghaaGreatDoor
