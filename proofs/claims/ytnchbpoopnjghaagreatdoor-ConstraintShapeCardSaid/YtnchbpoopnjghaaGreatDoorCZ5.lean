/- Parts of a proof: contracts of the functions that the laws reach. -/
import Derived.Test.YtnchbpoopnjghaaGreatDoorCZ4
set_option maxHeartbeats 100000000
set_option maxRecDepth 100000
set_option linter.all false
open Go.Proofs.Tryz
namespace Go.Proofs.YtnchbpoopnjghaaGreatDoor
open Go.RowKit
section
open Go.ChangeShapes Go.WideShapes Go.ChangeAt Go.RowKit Go.Joins
def Sh (P:Program):Nat->TypeId->List AV->Prop
 |0,_,_=>False
 |n+1,t,cs=>match P.underlying t with
  |some .bool=>∃b,cs=[.val (.bool b)]
  |some (.int k)=>∃i,cs=[.val (.int k i)]/\(Lit.int k i).wf=true
  |some .string=>∃s:ByteArray,cs=[.val (.string s)]/\s.size<=maxLen
  |some (.slice e)=>∃rows:List (List AV),cs=[.sl rows.length rows.flatten]/\rows.length<=maxLen/\ ∀r∈rows,Sh P n e r/\r.length=P.cellsOf e
  |some (.struct fs)=>cs.length=P.cellsOf t/\ ∀f∈fs.toList,Sh P n f.type ((cs.drop f.offset).take (P.cellsOf f.type))
  |_=>False
def mM (P:Program):Nat->Nat->List Field->Bool
 |off,sz,[]=>Nat.beq off sz
 |off,sz,f::r=>Nat.beq f.offset off && mM P (off+P.cellsOf f.type) sz r
def uu (P:Program) (L:List TypeId):Bool:=L.all fun t=>match P.underlying t with
 |some .bool=>true
 |some (.int _)=>true
 |some .string=>true
 |some (.slice e)=>L.elem e
 |some (.struct fs)=>(fs.toList.all fun f=>L.elem f.type) && mM P 0 (P.cellsOf t) fs.toList
 |_=>false
theorem yD {w:World} {a:Addr} {k:Nat} {l:List Value} (h:w.cells? 0 a k=some l):l.length=k/\ ∀(i:Nat) (v:Value),l[i]? =some v->w.cell? (a.add i)=some v:=by
 unfold World.cells? at h;rw[if_pos (Nat.zero_le _)]at h
 have:∀(xs:List Nat) (l:List Value),xs.mapM (fun i=>w.cell? (a.add i))=some l->l.length=xs.length/\ ∀(i:Nat) (v:Value),l[i]? =some v-> ∃x,xs[i]? =some x/\w.cell? (a.add x)=some v:=by
  intro xs
  induction xs with
  |nil=>intro l h;simp at h;subst h;exact⟨rfl,fun i v h=>by simp at h⟩
  |cons x xs ih=>
   intro l h
   simp only[List.mapM_cons,Option.bind_eq_bind]at h
   cases h1:w.cell? (a.add x)with
   |none=>rw[h1]at h;simp at h
   |some v=>
    cases h2:xs.mapM (fun i=>w.cell? (a.add i))with
    |none=>rw[h1,h2]at h;simp at h
    |some l'=>
     rw[h1,h2]at h
     simp at h
     subst h;obtain⟨h3,h4⟩:=ih l' h2;refine⟨by simp[h3],fun i u hu=>?_⟩;cases i with
     |zero=>simp at hu;subst hu;exact⟨x,rfl,h1⟩
     |succ i=>simpa using h4 i u (by simpa using hu)
 obtain⟨h1,h2⟩:=this _ _ h;refine⟨by simpa using h1,fun i v hv=>?_⟩;obtain⟨x,hx,hc⟩:=h2 i v hv
 have:x=i:=by
  have:=(List.getElem?_eq_some_iff.1 hx).2
  simpa using this.symm
 rw[<- this];exact hc
theorem xl {α β:Type} {f:α->Option β}:∀{xs:List α} {ys:List β},xs.mapM f=some ys->xs.length=ys.length/\ ∀(i:Nat) (x:α),xs[i]? =some x-> ∃y,ys[i]? =some y/\f x=some y
 | [],ys,h=>by simp at h;subst h;exact⟨rfl,fun i x h=>by simp at h⟩
 |x::xs,ys,h=>by
  simp only[List.mapM_cons,Option.bind_eq_bind]at h
  cases h1:f x with
  |none=>rw[h1]at h;simp at h
  |some y=>
   cases h2:xs.mapM f with
   |none=>rw[h1,h2]at h;simp at h
   |some l=>
    rw[h1,h2]at h
    simp at h
    subst h;obtain⟨h3,h4⟩:=xl h2;refine⟨by simp[h3],fun i z hz=>?_⟩;cases i with
    |zero=>simp at hz;subst hz;exact⟨y,rfl,h1⟩
    |succ i=>simpa using h4 i z (by simpa using hz)
theorem yF {rows:List (List AV)} {k:Nat} (h:∀r∈rows,r.length=k):∀(i:Nat) (r:List AV),rows[i]? =some r-> ∀j,j<k->rows.flatten[i*k+j]? =r[j]?:=by
 induction rows with
 |nil=>intro i r hr;simp at hr
 |cons x rows ih=>
  intro i r hr j hj;have hx:=h x (by simp)
  simp only[List.flatten_cons]
  cases i with
  |zero=>simp at hr;subst hr;rw[Nat.zero_mul,Nat.zero_add,List.getElem?_append_left (by omega)]
  |succ i=>
   rw[List.getElem?_append_right (by rw[Nat.add_mul];omega)];have:=ih (fun r hr=>h r (by simp[hr])) i r (by simpa using hr) j hj;rw[<- this]
   congr 1
   rw[Nat.add_mul];omega
theorem jN {rows:List (List AV)} {k:Nat} (h:∀r∈rows,r.length=k):rows.flatten.length=rows.length*k:=by
 induction rows with
 |nil=>simp
 |cons x rows ih=>rw[List.flatten_cons,List.length_append,ih (fun r hr=>h r (by simp[hr])),h x (by simp),List.length_cons,Nat.add_mul];omega
theorem Cm {P:Program} {sz:Nat}:∀{fs:List Field} {off:Nat},mM P off sz fs=true->off<=sz
 | [],off,h=>by have:=Nat.eq_of_beq_eq_true h;omega
 |f::r,off,h=>by
  simp only[mM,Bool.and_eq_true]at h
  have:=Cm h.2;omega
theorem Cl {P:Program} {w:World} {vs:List Value} {Q:TypeId->List AV->Prop}:∀(fs:List Field) (off:Nat),mM P off vs.length fs=true ->
 (∀f∈fs,∃cf,CM (fun _=>False) w cf ((vs.drop f.offset).take (P.cellsOf f.type))/\Q f.type cf) ->
 ∃cs,CM (fun _=>False) w cs (vs.drop off)/\ ∀f∈fs,off<=f.offset/\Q f.type ((cs.drop (f.offset-off)).take (P.cellsOf f.type))
 | [],off,h,_=>by
  have:=Nat.eq_of_beq_eq_true h;subst this;rw[List.drop_length];exact⟨[],CM.nil _ _,fun f hf=>by cases hf⟩
 |f::r,off,h,hf=>by
  simp only[mM,Bool.and_eq_true]at h
  have ho:=Nat.eq_of_beq_eq_true h.1;obtain⟨cf,h1,h2⟩:=hf f (by simp);obtain⟨cs,h3,h4⟩:=Cl r _ h.2 (fun g hg=>hf g (by simp[hg]));have hle:=Cm h.2;rw[ho]at h1;have hl:cf.length=P.cellsOf f.type:=by rw[h1.1];simp;omega
  refine⟨cf++cs,?_,fun g hg=>?_⟩
  ·have:=h1.append h3
   rwa[<- List.drop_drop,List.take_append_drop]at this
  ·rcases List.mem_cons.1 hg with rfl|hg
   ·refine⟨by omega,?_⟩
    rw[ho,Nat.sub_self,List.drop_zero,List.take_left' hl];exact h2
   ·obtain⟨h5,h6⟩:=h4 g hg
    refine⟨by omega,?_⟩;rw[show g.offset-off=cf.length+(g.offset-(off+P.cellsOf f.type)) by omega,<- List.drop_drop,List.drop_left' rfl];exact h6
theorem RY {P:Program} {W:World} {e:TypeId} {a:Addr} {len cap:Nat} {rows:List (List AV)} (hcap:cap<=9223372036854775807) (hlc:len<=cap) (hl:rows.length=len) (hsz:∀r∈rows,r.length=P.cellsOf e)
 (hr:∀i r,rows[i]? =some r-> ∃us:List Value,W.cells? 0 (a.add (i*P.cellsOf e)) (P.cellsOf e)=some us/\CM (fun _=>False) W r us):AV.M (fun _=>False) W (.sl len rows.flatten) (.slice (some a) len cap):=by
 by_cases h0:len*P.cellsOf e=0
 ·have:rows.flatten=[]:=List.eq_nil_of_length_eq_zero (by rw[jN hsz,hl];exact h0)
  rw[this];exact .emp hlc hcap (fun h=>by cases h)
 ·have hlen:0<len:=by
   rcases Nat.eq_zero_or_pos len with h|h
   ·rw[h,Nat.zero_mul]at h0;exact absurd rfl h0
   ·exact h
  have hcz:0<P.cellsOf e:=by
   rcases Nat.eq_zero_or_pos (P.cellsOf e)with h|h
   ·rw[h,Nat.mul_zero]at h0;exact absurd rfl h0
   ·exact h
  have hcell:∀q c,rows.flatten[q]? =some c-> ∃v,W.cell? (a.add q)=some v/\AV.M (fun _=>False) W c v:=by
   intro q c hq;have hql:q<len*P.cellsOf e:=by have:=(List.getElem?_eq_some_iff.1 hq).1;rwa[jN hsz,hl]at this
   have hi:q/P.cellsOf e<len:=Nat.div_lt_of_lt_mul (by rw[Nat.mul_comm];exact hql)
   have hj:q%P.cellsOf e<P.cellsOf e:=Nat.mod_lt _ hcz
   have e1:q=q/P.cellsOf e*P.cellsOf e+q%P.cellsOf e:=by have:=Nat.div_add_mod q (P.cellsOf e);rw[Nat.mul_comm]at this;omega
   have hrow':rows[q/P.cellsOf e]? =some (rows[q/P.cellsOf e]'(by omega)):=by simp
   have h1:=yF hsz _ _ hrow' (q%P.cellsOf e) hj;rw[<- e1,hq]at h1;obtain⟨us,h3,h4⟩:=hr _ _ hrow';have h5:=(yD h3);have h6:us[q%P.cellsOf e]? =some (us[q%P.cellsOf e]'(by omega)):=by simp
   refine⟨_,?_,h4.2 _ c _ h1.symm h6⟩;have h7:=h5.2 _ _ h6
   have e2:(a.add (q/P.cellsOf e*P.cellsOf e)).add (q%P.cellsOf e)=a.add q:=by
    unfold Addr.add
    by_cases c1:q/P.cellsOf e*P.cellsOf e=0
    ·by_cases c2:q%P.cellsOf e=0
     ·rw[if_pos c1,if_pos c2,if_pos (by omega)]
     ·rw[if_pos c1,if_neg c2,if_neg (by omega)]
      simp <;>omega
    ·by_cases c2:q%P.cellsOf e=0
     ·rw[if_neg c1,if_pos c2,if_neg (by omega)]
      simp <;>omega
     ·rw[if_neg c1,if_neg c2,if_neg (by omega)]
      simp <;>omega
   rwa[e2]at h7
  have hfl:0<rows.flatten.length:=by rw[jN hsz,hl];exact Nat.mul_pos hlen hcz
  obtain⟨v0,h1,_⟩:=hcell 0 rows.flatten[0] (by simp);have e0:a.add 0=a:=rfl;rw[e0]at h1;obtain⟨b,off,spot⟩:=a
  have hsp:spot=none:=by
   cases spot with
   |none=>rfl
   |some q=>
    unfold World.cell? at h1
    split at h1
    ·simp at h1
    ·cases h1
  subst hsp;refine AV.M.sl (fun q=>(W.cell? ⟨b,off+q,none⟩).getD undef) hlc hcap (fun h=>h) (World.block_lt_of_cell? W _ h1) (fun q c hq=>?_) (fun q c hq=>?_)
  ·obtain⟨v,h3,_⟩:=hcell q c hq
   rw[bL]at h3;rw[h3];rfl
  ·obtain⟨v,h3,h4⟩:=hcell q c hq
   rw[bL]at h3;rw[h3];exact h4
section
variable {H:Type} {enc:TypeId × Value->H} {W:World} {P:Program}
theorem DO {L:List TypeId} (hL:uu P L=true):∀(n:Nat) (t:TypeId) (vs:List Value) (x:DataW H × List MemPlace),t∈L->DataW.trod enc P W 0 (fun _=>true) true n t vs=some x ->
 ∃cs,CM (fun _=>False) W cs vs/\Sh P n t cs:=by
 intro n
 induction n with
 |zero=>intro t vs x _ h;simp[DataW.trod]at h
 |succ n ih=>
  intro t vs x ht h;have hp:=List.all_eq_true.1 hL t ht
  simp only[Sh]
  cases hu:P.underlying t with
  |none=>rw[hu]at hp;simp at hp
  |some d=>
   rw[hu]at hp;cases d with
   |bool=>
    obtain⟨b,rfl,_⟩:=DataW.trod_bool hu h;exact⟨_,CM.cons (.val rfl) (CM.nil _ _),b,rfl⟩
   |int k=>
    obtain⟨i,rfl,_,h1⟩:=DataW.trod_int hu h;exact⟨_,CM.cons (.val rfl) (CM.nil _ _),i,rfl,h1⟩
   |string=>
    obtain⟨s,rfl,_,h1⟩:=DataW.trod_string hu h;exact⟨_,CM.cons (.val rfl) (CM.nil _ _),s,rfl,h1⟩
   |slice e=>
    have he:e∈L:=by simpa using hp
    rcases DataW.trod_slice hu h with⟨rfl,_⟩| ⟨a,len,cap,elems,rest,m,hm,rfl,_,_,hlc,hcm,hel,hget,_,_⟩
    ·exact⟨_,CM.cons (.emp (Nat.le_refl _) (by omega) (fun _=>rfl)) (CM.nil _ _),[],rfl,by simp,fun r hr=>by cases hr⟩
    ·obtain rfl:m=n:=by omega
     have hrow:∀i,i<len-> ∃(r:List AV) (us:List Value),W.cells? 0 (a.add (i*P.cellsOf e)) (P.cellsOf e)=some us/\CM (fun _=>False) W r us/\Sh P m e r:=by
      intro i hi;have h1:=hget i hi;have h2:elems[i]? =some elems[i]:=by simp
      rw[h2]at h1;obtain⟨us,h3,h4⟩:=Option.bind_eq_some_iff.1 h1;obtain⟨r,h5,h6⟩:=ih e us _ he h4;exact⟨r,us,h3,h5,h6⟩
     have hrows:∀k,k<=len-> ∃rows:List (List AV),rows.length=k/\ ∀i r,rows[i]? =some r-> ∃us:List Value,W.cells? 0 (a.add (i*P.cellsOf e)) (P.cellsOf e)=some us/\CM (fun _=>False) W r us/\Sh P m e r:=by
      exact RD
     obtain⟨rows,hl,hr⟩:=hrows len (Nat.le_refl _)
     have hsz:∀r∈rows,r.length=P.cellsOf e:=by
      exact Mi
     have hsh:∀r∈rows,Sh P m e r:=by
      intro r hm;obtain⟨i,hi⟩:=List.getElem?_of_mem hm;obtain⟨us,_,_,h5⟩:=hr i r hi;exact h5
     refine⟨[.sl len rows.flatten],CM.cons ?_ (CM.nil _ _),rows,by rw[hl],by omega,fun r hm=>⟨hsh r hm,hsz r hm⟩⟩;exact M8
   |struct fs=>
    simp only[Bool.and_eq_true]at hp
    obtain⟨xs,m,hm,_,hlen,hxl,hget⟩:=DataW.trod_struct hu h;obtain rfl:m=n:=by omega
    have htile:=hp.2;rw[<- hlen]at htile
    obtain⟨cs,h1,h2⟩:=Cl (P:=P) (w:=W) (vs:=vs) (Q:=Sh P m) fs.toList 0 htile (fun f hf=>by
     obtain⟨i,hi⟩:=List.getElem?_of_mem hf;have hi':fs[i]? =some f:=by simpa using hi
     have h3:=hget i f hi';have hil:i<xs.length:=by rw[hxl];exact(Array.getElem?_eq_some_iff.1 hi').1
     have h4:xs[i]? =some xs[i]:=by simp[hil]
     rw[h4]at h3;have hfL:f.type∈L:=by have:=List.all_eq_true.1 hp.1 f hf;simpa using this
     exact ih f.type _ _ hfL h3)
    rw[List.drop_zero]at h1;refine⟨cs,h1,by rw[h1.1,hlen],fun f hf=>?_⟩;have:=(h2 f hf).2
    rwa[Nat.sub_zero]at this
   |_=>simp at hp
theorem Kg {L:List TypeId} (hL:uu P L=true) {t:TypeId} (ht:t∈L) {v:Value} {d:DataW H} {p:List MemPlace} (h:DataW.Trod enc P W 0 (fun _=>true) true t v d p):
 ∃n cs,CM (fun _=>False) W cs v.cells.toList/\Sh P n t cs:=by
 obtain⟨n,hn⟩:=h;obtain⟨cs,h1,h2⟩:=DO hL n t _ _ ht hn;exact⟨n,cs,h1,h2⟩
theorem N0 {cs:List AV} {vs:Array Value} (h:CM (fun _=>False) W cs vs.toList):DV.M (fun _=>False) W (.agg cs) (.agg vs):=⟨vs.toList,by simp,h⟩
end
end
section
open Go.RowKit Go.Joins
theorem Iv {n:Nat} {cs:List AV} (h:Sh Tryz.prog n 34 cs):∃xs:List Nat,cs=[aW xs]/\Wd xs:=by
 cases n with
 |zero=>exact h.elim
 |succ n=>
  simp only[Sh,underlying34]at h
  obtain⟨rows,rfl,_,hr⟩:=h
  have key:∀rows:List (List AV),(∀r∈rows,Sh Tryz.prog n 135 r/\r.length=Tryz.prog.cellsOf 135)-> ∃xs:List Nat,rows.length=xs.length/\rows.flatten=(xs.map fun x:Nat=>AV.val (bU x))/\Wd xs:=by
   intro rows
   induction rows with
   |nil=>intro _;exact⟨[],rfl,rfl,fun x hx=>by cases hx⟩
   |cons r rows ih=>
    intro hr;obtain⟨xs,h1,h2,h3⟩:=ih (fun r hm=>hr r (by simp[hm]));have h4:=(hr r (by simp)).1;cases n with
    |zero=>exact h4.elim
    |succ n=>
     simp only[Sh,underlying135]at h4
     obtain⟨i,rfl,hw⟩:=h4;have hb:=bounds_u32 hw;refine⟨i.toNat::xs,by simp[h1],?_,fun x hx=>?_⟩
     ·rw[List.flatten_cons,h2,List.map_cons]
      have:AV.val (.int .u32 i)=AV.val (bU i.toNat):=by unfold bU;congr 2;omega
      rw[this];rfl
     ·rcases List.mem_cons.1 hx with rfl|hx
      ·omega
      ·exact h3 x hx
  obtain⟨xs,h1,h2,h3⟩:=key rows hr;exact⟨xs,by unfold aW;rw[h1,h2],h3⟩
set_option maxRecDepth 100000 in
theorem Iq {n:Nat} {cs:List AV} (h:Sh Tryz.prog n 36 cs):∃na xs,cs=aI na xs/\Wd xs:=by
 cases n with
 |zero=>exact h.elim
 |succ n=>
  simp only[Sh,underlying36,List.forall_mem_cons,List.not_mem_nil,false_imp_iff,implies_true,and_true]at h
  obtain⟨hl,h0,h1⟩:=h;rw[show Tryz.prog.cellsOf 36=2 by kernel_rfl]at hl;rw[show Tryz.prog.cellsOf 4=1 by kernel_rfl]at h0;rw[show Tryz.prog.cellsOf 34=1 by kernel_rfl]at h1
  match cs,hl with
  | [c0,c1],_=>
   obtain⟨xs,e1,hw⟩:=Iv h1;cases n with
   |zero=>exact h0.elim
   |succ n=>
    simp only[Sh,underlying4]at h0
    obtain⟨b,e0⟩:=h0
    simp at e0 e1
    subst e0 e1;exact⟨b,xs,rfl,hw⟩
set_option maxRecDepth 100000 in
theorem O2 {n:Nat} {cs:List AV} (h:Sh Tryz.prog n 38 cs):∃na xs nb ys,cs=yQ na xs nb ys/\Wd xs/\Wd ys:=by
 cases n with
 |zero=>exact h.elim
 |succ n=>
  simp only[Sh,underlying38,List.forall_mem_cons,List.not_mem_nil,false_imp_iff,implies_true,and_true]at h
  obtain⟨hl,h0,h1⟩:=h;rw[show Tryz.prog.cellsOf 38=4 by kernel_rfl]at hl;rw[show Tryz.prog.cellsOf 36=2 by kernel_rfl]at h0 h1
  match cs,hl with
  | [c0,c1,c2,c3],_=>
   obtain⟨na,xs,e0,w0⟩:=Iq h0;obtain⟨nb,ys,e1,w1⟩:=Iq h1;refine⟨na,xs,nb,ys,?_,w0,w1⟩;show [c0,c1,c2,c3]=aI na xs++aI nb ys;rw[<- e0,<- e1];rfl
theorem D6 {n:Nat} {cs:List AV} (h:Sh Tryz.prog n 9 cs):∃l:List UInt8,cs=[.val (vL l)]/\l.length<=9223372036854775807:=by
 cases n with
 |zero=>exact h.elim
 |succ n=>
  simp only[Sh,underlying9]at h
  obtain⟨s,rfl,hs⟩:=h;obtain⟨l,rfl⟩:∃l,Bs l=s:=⟨_,NK s⟩;refine⟨l,rfl,?_⟩;rw[aw]at hs;unfold maxLen at hs;exact hs
theorem uN {n:Nat} {cs:List AV} (h:Sh Tryz.prog n 3 cs):∃i:Int,cs=[.val (.int .i64 i)]/\ -9223372036854775808<=i/\i<=9223372036854775807:=by
 cases n with
 |zero=>exact h.elim
 |succ n=>
  simp only[Sh,underlying3]at h
  obtain⟨i,rfl,hw⟩:=h;exact⟨i,rfl,bounds_i64 hw⟩
end
inductive Rx where
 |mk (op:Int) (na:Bool) (xs:List Nat) (nb:Bool) (ys:List Nat) (nm:List UInt8) (args:List Rx)
mutual
def aR:Rx->List AV
 | .mk op na xs nb ys nm args=>[.val (.int .i64 op)]++yQ na xs nb ys++[.val (vL nm), .sl args.length (eE args)]
def eE:List Rx->List AV
 | []=>[]
 |x::r=>aR x++eE r
end
def dR (x:Rx):DV:= .agg (aR x)
theorem Ab (x:Rx):(aR x).length=7:=by
 obtain⟨op,na,xs,nb,ys,nm,args⟩:=x;rfl
theorem eu:∀(l:List Rx) (i:Nat) (x:Rx),l[i]? =some x-> ∀(j:Nat) (a:AV),(aR x)[j]? =some a->(eE l)[i*7+j]? =some a
 | [],i,x,h,_,_,_=>by simp at h
 |y::l,0,x,h,j,a,ha=>by
  simp at h
  subst h
  simp only[eE,Nat.zero_mul,Nat.zero_add]
  exact LL
 |y::l,i+1,x,h,j,a,ha=>by
  simp only[eE]
  rw[List.getElem?_append_right (by rw[Ab,Nat.add_mul];omega),Ab,show(i+1)*7+j-7=i*7+j by rw[Nat.add_mul];omega];exact eu l i x (by simpa using h) j a ha
inductive nj:Rx->Prop
 |mk {op:Int} {na:Bool} {xs:List Nat} {nb:Bool} {ys:List Nat} {nm:List UInt8} {args:List Rx}: -9223372036854775808<=op->op<=9223372036854775807->Wd xs->Wd ys->nm.length<=9223372036854775807->args.length<=9223372036854775807->(∀x∈args,nj x)->nj (.mk op na xs nb ys nm args)
set_option maxRecDepth 100000 in
theorem Ls:∀(n:Nat) (cs:List AV),Sh Tryz.prog n 40 cs-> ∃x,cs=aR x/\nj x:=by
 intro n
 induction n using Nat.strongRecOn with
 |_ n ih=>
  intro cs h;cases n with
  |zero=>exact h.elim
  |succ n=>
   simp only[Sh,underlying40,List.forall_mem_cons,List.not_mem_nil,false_imp_iff,implies_true,and_true]at h
   obtain⟨hl,h0,h1,h2,h3⟩:=h;rw[show Tryz.prog.cellsOf 40=7 by kernel_rfl]at hl;rw[show Tryz.prog.cellsOf 3=1 by kernel_rfl]at h0;rw[show Tryz.prog.cellsOf 38=4 by kernel_rfl]at h1;rw[show Tryz.prog.cellsOf 9=1 by kernel_rfl]at h2;rw[show Tryz.prog.cellsOf 28=1 by kernel_rfl]at h3
   match cs,hl with
   | [c0,c1,c2,c3,c4,c5,c6],_=>
    obtain⟨op,e0,b0,b1⟩:=uN h0;obtain⟨na,xs,nb,ys,e1,w0,w1⟩:=O2 h1;obtain⟨nm,e2,hn⟩:=D6 h2;have e0:[c0]=[.val (.int .i64 op)]:=e0;have e1:[c1,c2,c3,c4]=yQ na xs nb ys:=e1;have e2:[c5]=[.val (vL nm)]:=e2;have h3:Sh Tryz.prog n 28 [c6]:=h3;cases n with
    |zero=>exact h3.elim
    |succ n=>
     simp only[Sh,underlying28]at h3
     obtain⟨rows,e3,hm,hr⟩:=h3
     have key:∀rows:List (List AV),(∀r∈rows,Sh Tryz.prog n 40 r/\r.length=Tryz.prog.cellsOf 40)-> ∃l:List Rx,rows.length=l.length/\rows.flatten=eE l/\ ∀x∈l,nj x:=by
      intro rows
      induction rows with
      |nil=>intro _;exact⟨[],rfl,rfl,fun x hx=>by cases hx⟩
      |cons r rows ihr=>
       intro hr;obtain⟨l,k1,k2,k3⟩:=ihr (fun r hm=>hr r (by simp[hm]));obtain⟨x,k4,k5⟩:=ih n (by omega) r (hr r (by simp)).1;refine⟨x::l,by simp[k1],by rw[List.flatten_cons,k2,k4];rfl,fun y hy=>?_⟩;rcases List.mem_cons.1 hy with rfl|hy
       ·exact k5
       ·exact k3 y hy
     obtain⟨l,k1,k2,k3⟩:=key rows hr;refine⟨.mk op na xs nb ys nm l,?_, .mk b0 b1 w0 w1 hn (by unfold maxLen at hm;omega) k3⟩;show [c0,c1,c2,c3,c4,c5,c6]=[.val (.int .i64 op)]++yQ na xs nb ys++[.val (vL nm), .sl l.length (eE l)]
     simp at e0 e2 e3
     rw[<- e1,e0,e2,e3,k1,k2];rfl
theorem below_grow (w:World) (k:Nat) (os:Array Obj):Below w.heap.size w (Go.Sort.grow (w.drewN k) os):=by
 refine⟨rfl,rfl,rfl,?_,fun b hb=>?_⟩
 ·show w.heap.size<=(w.heap++os).size
  simp
 ·show(w.heap++os)[b]? =w.heap[b]?
  rw[Array.getElem?_append_left hb]
theorem IR (p:Int):Lib.itoa p=fmt p:=by
 have hdd:∀n:Nat,n≠0->Lib.decDigits n=nH n:=by
  intro n
  induction n using Nat.strongRecOn with
  |_ n ih=>
   intro h0;rw[eS,fy h0]
   by_cases h:n<10
   ·rw[jO h,Nat.div_eq_of_lt h,eV,Nat.mod_eq_of_lt h];rfl
   ·rw[zm (by omega),<- eS,ih (n/10) (by omega) (by omega)]
 unfold Lib.itoa fmt
 by_cases h:p<0
 ·rw[if_pos h,if_neg (by omega),if_pos h,hdd _ (by omega)]
  rfl
 ·rw[if_neg h]
  by_cases h0:p=0
  ·subst h0
   rw[if_pos rfl,show(0:Int).toNat=0 from rfl,eS,jO (by decide)];rfl
  ·rw[if_neg h0,if_neg h,show p.toNat=p.natAbs by omega,hdd _ (by omega)]
   rfl
theorem zQ {p:Int} (h0: -9223372036854775808<=p) (h1:p<=9223372036854775807):aa Tryz.prog 101 [dN .i64 p] (.one (dL (fmt p))):=by
 refine⟨av func101 rfl rfl,fun S w vs hS hv=>?_⟩
 match vs,hv with
 | [v],⟨h,_⟩=>
  obtain rfl:=aT h;refine(Tryz.internal_strconv_Itoa p h0 h1 w hS.1.here).mono ?_;rintro e w' ⟨rfl,k,os,rfl⟩;refine⟨_,rfl,?_,below_grow _ _ _⟩;rw[IR];exact AV.M.val rfl
theorem AZ {p:Int} (h0: -9223372036854775808<=p) (h1:p<=9223372036854775807):aa Tryz.prog 60 [dN .i64 p] (.one (dL (fmt p))):=by
 refine kV func60 ?_;refine kC (zQ h0 h1) ?_;exact ar
inductive B4 where
 |add
 |sub
 |mul
 |div
def B4.code:B4->Int
 | .add=>4
 | .sub=>5
 | .mul=>6
 | .div=>7
inductive Ex where
 |num (v:Rat) (u:List UInt8)
 |nam (s:List UInt8)
 |neg (a:Ex)
 |bin (k:B4) (a b:Ex)
def rx:Ex->Rx
 | .num v u=> .mk 1 (decide (v.num<0)) (digs v.num.natAbs) (decide ((v.den:Int)<0)) (digs (v.den:Int).natAbs) u []
 | .nam s=> .mk 2 false [] false [] s []
 | .neg a=> .mk 3 false [] false [] [] [rx a]
 | .bin k a b=> .mk k.code false [] false [] [] [rx a,rx b]
def aE (e:Ex):List AV:=aR (rx e)
def dE (e:Ex):DV:= .agg (aE e)
theorem nS (a:Ex):aE (.neg a)=[.val (.int .i64 3)]++jb++[.val (vL []), .sl 1 (aE a)]:=by
 show [.val (.int .i64 3)]++yQ false [] false []++[.val (vL []), .sl 1 (aR (rx a)++[])]=_;rw[List.append_nil];rfl
theorem jw (k:B4) (a b:Ex):aE (.bin k a b)=[.val (.int .i64 k.code)]++jb++[.val (vL []), .sl 2 (aE a++aE b)]:=by
 show [.val (.int .i64 k.code)]++yQ false [] false []++[.val (vL []), .sl 2 (aR (rx a)++(aR (rx b)++[]))]=_;rw[List.append_nil];rfl
abbrev EL:=List (List UInt8 × (Rat × Int))
def lO:EL->List AV
 | []=>[]
 |x::r=>lB x.2.1 x.2.2++lO r
def ig (l:EL):DV:= .leaf (.sl l.length (l.map fun x=>AV.val (vL x.1)))
def jv (l:EL):DV:= .leaf (.sl l.length (lO l))
def a6 (l:EL) (s:List UInt8):Option (Rat × Int):=match l with
 | []=>none
 |x::r=>if x.1=s then some x.2 else a6 r s
theorem MN {l:EL} {i:Nat} {x:List UInt8 × (Rat × Int)} (h:l[i]? =some x):∀(j:Nat) (a:AV),[AV.val (vL x.1)][j]? =some a->(l.map fun x=>AV.val (vL x.1))[i*1+j]? =some a:=by
 exact LB
theorem Gh:∀{l:EL} {i:Nat} {x:List UInt8 × (Rat × Int)},l[i]? =some x-> ∀(j:Nat) (a:AV),(lB x.2.1 x.2.2)[j]? =some a->(lO l)[i*5+j]? =some a
 | [],i,x,h,_,_,_=>by simp at h
 |y::l,0,x,h,j,a,ha=>by
  simp at h
  subst h
  simp only[lO,Nat.zero_mul,Nat.zero_add]
  exact LL
 |y::l,i+1,x,h,j,a,ha=>by
  simp only[lO]
  have h5:(lB y.2.1 y.2.2).length=5:=rfl;rw[List.getElem?_append_right (by rw[h5,Nat.add_mul];omega),h5,show(i+1)*5+j-5=i*5+j by rw[Nat.add_mul];omega];exact Gh (l:=l) (by simpa using h) j a ha
def el (l:EL):Prop:=∀(i j:Nat) (a b:List UInt8 × (Rat × Int)),i<j->l[i]? =some a->l[j]? =some b->Op.bytesLess a.1 b.1=true
theorem iX:∀a:List UInt8,Op.bytesLess a a=false
 | []=>rfl
 |x::a=>by simp[Op.bytesLess,iX a]
theorem eK:∀{a b c:List UInt8},Op.bytesLess a b=true->Op.bytesLess b c=true->Op.bytesLess a c=true
 |_,_,[],_,h=>by simp[Op.bytesLess]at h
 | [],_,_::_,_,_=>rfl
 |_::_,[],_::_,h,_=>by simp[Op.bytesLess]at h
 |x::a,y::b,z::c,h,k=>by
  simp only[Op.bytesLess,Bool.or_eq_true,Bool.and_eq_true,decide_eq_true_eq,beq_iff_eq]at h k ⊢
  rcases h with h| ⟨rfl,h⟩
  ·rcases k with k| ⟨rfl,k⟩
   ·exact .inl (UInt8.lt_trans h k)
   ·exact .inl h
  ·rcases k with k| ⟨rfl,k⟩
   ·exact .inl k
   ·exact .inr ⟨rfl,eK h k⟩
theorem nU:∀{a b:List UInt8},Op.bytesLess a b=false->Op.bytesLess b a=false->a=b
 | [],[],_,_=>rfl
 | [],_::_,h,_=>by simp[Op.bytesLess]at h
 |_::_,[],_,h=>by simp[Op.bytesLess]at h
 |x::a,y::b,h,k=>by
  simp only[Op.bytesLess,Bool.or_eq_false_iff,Bool.and_eq_false_iff,decide_eq_false_iff_not,beq_eq_false_iff_ne]at h k
  have h1:x=y:=by
   rcases Nat.lt_trichotomy x.toNat y.toNat with h2|h2|h2
   ·exact absurd (UInt8.lt_iff_toNat_lt.2 h2) h.1
   ·exact UInt8.toNat_inj.1 h2
   ·exact absurd (UInt8.lt_iff_toNat_lt.2 h2) k.1
  subst h1;rw[nU (h.2.resolve_left (fun e=>e rfl)) (k.2.resolve_left (fun e=>e rfl))]
theorem tK {t:TypeId} {x y:Operand} {a b:List UInt8}:lJ .lss t x y (vL a) (vL b)=some (.bool (Op.bytesLess a b)):=by
 show some (Value.bool (Op.bytesLess (Bs a).toList (Bs b).toList))=_;rw[ff,ff]
theorem vK (a:List UInt8):aa Tryz.prog 294 [dL a] (.one (dB false)):=by
 refine kU func294 ?_;exact T3
theorem wj (a:List UInt8):aa Tryz.prog 248 [dL a] (.one (dB false)):=by
 refine kU func248 ?_;exact T3
theorem Li (a b:List UInt8):aa Tryz.prog 247 [dL a,dL b] (.one (dB (Op.bytesLess a b))):=by
 refine kU func247 ?_;refine S8 ?_;refine kC (vK a) ?_
 iterate 8 refine kO ?_
 refine aD rfl rfl rfl rfl rfl rfl rfl (tK (a:=a) (b:=b)) ?_;exact ar
theorem KJ (l:EL) (hs:el l) (hl:l.length<=1000000) (s:List UInt8):∃(i:Nat) (b:Bool),aa Tryz.prog 181 [ig l,dL s] (.tup [dN .i64 i,dB b]) /\
 (b=true-> ∃x,l[i]? =some x/\x.1=s)/\(b=false-> ∀x∈l,x.1≠s):=by
 obtain⟨p,hp1,hp2,hp3⟩:∃p,p<=l.length/\(∀(q:Nat) x,q<p->l[q]? =some x->Op.bytesLess x.1 s=true)/\(∀(q:Nat) x,p<=q->l[q]? =some x->Op.bytesLess x.1 s=false):=by
  have:∀k,k<=l.length-> ∃p,p<=k/\(∀(q:Nat) x,q<p->l[q]? =some x->Op.bytesLess x.1 s=true)/\(∀(q:Nat) x,p<=q->q<k->l[q]? =some x->Op.bytesLess x.1 s=false):=by
   intro k
   induction k with
   |zero=>intro _;exact⟨0,Nat.le_refl _,fun q x h=>absurd h (Nat.not_lt_zero _),fun q x _ h=>absurd h (Nat.not_lt_zero _)⟩
   |succ k ih=>
    intro hk;obtain⟨p,h1,h2,h3⟩:=ih (by omega);have hx:l[k]? =some (l[k]'(by omega)):=by simp
    by_cases hpk:p=k
    ·cases hb:Op.bytesLess (l[k]'(by omega)).1 s
     ·exact⟨k,by omega,fun q x hq=>h2 q x (by omega),fun q x h4 h5 h6=>by
       obtain rfl:q=k:=by omega
       rw[hx]at h6;cases h6;exact hb⟩
     ·exact⟨k+1,by omega,fun q x hq h6=>by
       by_cases e:q=k
       ·subst e;rw[hx]at h6;cases h6;exact hb
       ·exact h2 q x (by omega) h6,fun q x h4 h5=>by omega⟩
    ·refine⟨p,by omega,h2,fun q x h4 h5 h6=>?_⟩
     by_cases e:q=k
     ·subst e
      have hpx:l[p]? =some (l[p]'(by omega)):=by simp
      have h7:=h3 p _ (Nat.le_refl _) (by omega) hpx;cases hb:Op.bytesLess x.1 s
      ·rfl
      ·have h8:=hs p q _ _ (by omega) hpx h6
       rw[eK h8 hb]at h7;cases h7
     ·exact h3 q x h4 (by omega) h6
  obtain⟨p,h1,h2,h3⟩:=this l.length (Nat.le_refl _);exact⟨p,h1,h2,fun q x h4 h5=>h3 q x h4 (List.getElem?_eq_some_iff.1 h5).1 h5⟩
 have done:∀b,(∀x,l[p]? =some x->decide (x.1=s)=b)->(l[p]? =none->b=false)->aa Tryz.prog 181 [ig l,dL s] (.tup [dN .i64 p,dB b]):=by
  intro b hb hb';refine kV func181 ?_
  refine ax (Nat × Nat) (fun x=>x.1<=p/\p<=x.2/\x.2<=l.length) (fun x=>⟨[(0, .d (ig l)),(1, .d (dL s)),(4, .d (dN .i64 0)),(5, .d (dB false)),(6, .d (dN .i64 l.length)),(7, .d (dN .i64 x.1)),(8, .d (dN .i64 x.2))],[]⟩) (fun x=>x.2-x.1) (0,l.length) ⟨Nat.zero_le _,hp1,Nat.le_refl _⟩
   kw ?_
  rintro⟨i,j⟩ ⟨h1,h2,h3⟩;dsimp only at h1 h2 h3 ⊢;refine kI ?_
  refine kO2 ?_
  by_cases hij:i<j
  ·exact R7
  ·have e1:i=p:=by omega
   have e2:j=p:=by omega
   subst e2;subst e1;refine kE ?_;refine uU ?_;refine kI ?_
   refine kO3 ?_
   by_cases hil:i<l.length
   ·have hx:l[i]? =some l[i]:=by simp[hil]
    refine kT ?_;refine RZ ?_
    refine kO2 ?_
    have hb0:=hb _ hx
    by_cases e:l[i].1=s
    ·rw[decide_eq_true e]at hb0
     subst hb0;refine aD rfl rfl rfl rfl rfl rfl rfl (bf (a:=l[i].1) (b:=s) e) ?_;exact ar
    ·rw[decide_eq_false e]at hb0
     subst hb0;exact Nk
   ·have hn:=hb' (List.getElem?_eq_none (by omega))
    subst hn;refine kE ?_;exact ar
 cases hx:l[p]? with
 |none=>
  refine⟨p,false,done false (fun x h=>by rw[hx]at h;cases h) (fun _=>rfl),fun h=>(by cases h),fun _ x hm e=>?_⟩;obtain⟨q,hq⟩:=List.getElem?_of_mem hm;have h1:=List.getElem?_eq_none_iff.1 hx;have h2:=(List.getElem?_eq_some_iff.1 hq).1;have:=hp2 q x (by omega) hq;rw[e,iX]at this;cases this
 |some y=>
  by_cases e:y.1=s
  ·exact⟨p,true,done true (fun x h=>by rw[hx]at h;cases h;exact decide_eq_true e) (fun h=>by simp[hx]at h),fun _=>⟨y,hx,e⟩,fun h=>by cases h⟩
  ·refine⟨p,false,done false (fun x h=>by rw[hx]at h;cases h;exact decide_eq_false e) (fun h=>by simp[hx]at h),fun h=>(by cases h),fun _ x hm ex=>?_⟩
   obtain⟨q,hq⟩:=List.getElem?_of_mem hm;rcases Nat.lt_trichotomy q p with h|h|h
   ·have:=hp2 q x h hq
    rw[ex,iX]at this;cases this
   ·subst h;rw[hx]at hq;cases hq;exact e ex
   ·have h1:=hs p q _ _ h hx hq
    have h2:=hp3 p y (Nat.le_refl _) hx;rw[ex,h2]at h1;cases h1
theorem BP {l:EL} (hs:el l):∀{i:Nat} {x:List UInt8 × (Rat × Int)},l[i]? =some x->a6 l x.1=some x.2:=by
 induction l with
 |nil=>intro i x h;simp at h
 |cons y l ih=>
  intro i x h
  simp only[a6]
  cases i with
  |zero=>simp at h;subst h;rw[if_pos rfl]
  |succ i=>
   have h':l[i]? =some x:=by simpa using h
   have h1:=hs 0 (i+1) y x (by omega) rfl h;rw[if_neg (fun e=>by rw[e,iX]at h1;cases h1)];exact ih (fun a b u v hab hu hv=>hs (a+1) (b+1) u v (by omega) (by simpa using hu) (by simpa using hv)) h'
theorem Dl {l:EL} {s:List UInt8} (h:∀x∈l,x.1≠s):a6 l s=none:=by
 induction l with
 |nil=>rfl
 |cons y l ih=>simp only[a6];rw[if_neg (h y (by simp)),ih (fun x hx=>h x (by simp[hx]))]
def Ju:B4->Rat->Int->Rat->Int->QR
 | .add,a,p,b,p'=>su a p b p'
 | .sub,a,p,b,p'=>su a p (-b) p'
 | .mul,a,p,b,p'=>Ak a p b p'
 | .div,a,p,b,p'=>zr a p b p'
def bQ (env:List UInt8->Option (Rat × Int)):Ex->QR
 | .num v u=>if u=[]then .ok (v,0)else match PK u with
  |some q=> .ok (v*q,1)
  |none=> .error 8
 | .nam s=>match env s with
  |some x=> .ok x
  |none=> .error 4
 | .neg a=>match bQ env a with
  | .ok x=> .ok (-x.1,x.2)
  | .error e=> .error e
 | .bin k a b=>match bQ env a with
  | .error e=> .error e
  | .ok x=>match bQ env b with
   | .error e=> .error e
   | .ok y=>Ju k x.1 x.2 y.1 y.2
def mj:Ex->Nat
 | .num _ _=>9
 | .nam _=>400
 | .neg a=>mj a
 | .bin _ a b=>mj a+mj b+1
def ym:Ex->Prop
 | .num v _=>dJ 8 v
 | .nam _=>True
 | .neg a=>ym a
 | .bin _ a b=>ym a/\ym b
theorem J8 {k:B4} {a b:Rat} {p p' z:Int} (h:Ju k a p b p'= .error z):z=6∨z=8:=by
 cases k<;>simp only[Ju,su,Ak,zr]at h
 ·exact Cs
 ·exact Cs
 ·exact Cs
 ·split at h
  ·cases h;exact .inl rfl
  ·exact Cs
theorem eq {env:List UInt8->Option (Rat × Int)}:∀{e:Ex} {z:Int},bQ env e= .error z->z≠0
 | .num v u,z,h=>by
  simp only[bQ]at h
  split at h
  ·cases h
  ·split at h<;>cases h
   decide
 | .nam s,z,h=>by
  simp only[bQ]at h
  split at h<;>cases h
  decide
 | .neg a,z,h=>by
  simp only[bQ]at h
  split at h
  ·cases h
  ·rename_i e he;cases h;exact eq he
 | .bin k a b,z,h=>by
  simp only[bQ]at h
  split at h
  ·rename_i e he;cases h;exact eq he
  ·split at h
   ·rename_i e he;cases h;exact eq he
   ·rcases J8 h with rfl|rfl <;>decide
def qd (env:List UInt8->Option (Rat × Int)):Prop:=∀s x,env s=some x->dJ 400 x.1/\o9 x.2=true
theorem Oo {k:B4} {i j:Nat} {a b:Rat} {p p':Int} {x:Rat × Int} (h1:dJ i a) (h2:dJ j b) (hp:o9 p=true) (h:Ju k a p b p'= .ok x):dJ (i+j+1) x.1/\o9 x.2=true:=by
 cases k<;>simp only[Ju,su,Ak,zr]at h
 ·split at h<;>cases h;exact⟨h1.add h2,hp⟩
 ·split at h<;>cases h;exact⟨h1.add h2.neg,hp⟩
 ·split at h<;>cases h;exact⟨(h1.mul h2).mono (by omega),by assumption⟩
 ·split at h
  ·cases h
  ·split at h<;>cases h
   exact⟨(h1.div h2 (by assumption)).mono (by omega),by assumption⟩
theorem jn {env:List UInt8->Option (Rat × Int)} (henv:qd env):∀{e:Ex} {x:Rat × Int},ym e->bQ env e= .ok x->dJ (mj e) x.1/\o9 x.2=true
 | .num v u,x,ho,h=>by
  simp only[bQ]at h
  have ho:dJ 8 v:=ho
  split at h
  ·cases h;exact⟨ho.mono (show 8<=9 by decide),rfl⟩
  ·split at h
   ·rename_i q hq
    cases h;exact⟨ho.mul (Fb hq).1,rfl⟩
   ·cases h
 | .nam s,x,_,h=>by
  simp only[bQ]at h
  split at h
  ·rename_i y hy;cases h;exact henv s _ hy
  ·cases h
 | .neg a,x,ho,h=>by
  simp only[bQ]at h
  split at h
  ·rename_i y hy
   cases h;have:=jn henv (e:=a) ho hy;exact⟨this.1.neg,this.2⟩
  ·cases h
 | .bin k a b,x,ho,h=>by
  simp only[bQ]at h
  split at h
  ·cases h
  ·rename_i y hy
   split at h
   ·cases h
   ·rename_i z hz
    have h1:=jn henv ho.1 hy;have h2:=jn henv ho.2 hz;exact Oo h1.1 h2.1 h1.2 h
theorem rG {l:EL} (hv:∀x∈l,dJ 400 x.2.1/\o9 x.2.2=true):qd (a6 l):=by
 intro s x h
 induction l with
 |nil=>cases h
 |cons y l ih=>
  simp only[a6]at h
  split at h
  ·cases h;exact hv y (by simp)
  ·exact ih (fun x hx=>hv x (by simp[hx])) h
theorem Cw (a:Rat):a+((0:Int):Rat)=a:=Rat.add_zero a
theorem Fv:dJ 1 ((0:Int):Rat):=⟨.small (by decide), .small (by decide)⟩
section
variable {l:EL}
theorem sc {v:Rat} {u:List UInt8} (h:dJ 8 v):aa Tryz.prog 133 [dE (.num v u),ig l,jv l] (d9 (bQ (a6 l) (.num v u))):=by
 by_cases hu:u=[]
 ·rw[show bQ (a6 l) (.num v u)= .ok (v,0) from if_pos hu]
  refine G8 ?_;refine aD rfl rfl rfl rfl rfl rfl rfl (bf (a:=u) (b:=[]) hu) ?_;refine kW ?_;refine Ng ?_;refine am (l8 h Fv (by decide) (Cw v)) rfl rfl rfl rfl rfl rfl rfl ?_;exact ar
 ·have c1:=wy u
  unfold vQ at c1;cases hf:PK u with
  |none=>
   rw[hf]at c1;rw[show bQ (a6 l) (.num v u)= .error 8 by simp only[bQ,if_neg hu,hf]];refine G8 ?_;refine E3 ?_;exact oJ
  |some q=>
   rw[hf]at c1;rw[show bQ (a6 l) (.num v u)= .ok (v*q,1) by simp only[bQ,if_neg hu,hf]];refine G8 ?_;refine E3 ?_;refine dm ?_;refine am (qC h (Fb hf).1 (by decide) rfl) rfl rfl rfl rfl rfl rfl rfl ?_;exact ar
theorem sy {s:List UInt8} (hs:el l) (hl:l.length<=1000000) (hv:∀x∈l,dJ 400 x.2.1/\o9 x.2.2=true):aa Tryz.prog 133 [dE (.nam s),ig l,jv l] (d9 (bQ (a6 l) (.nam s))):=by
 obtain⟨i,b,c1,h1,h2⟩:=KJ l hs hl s;cases b with
 |false=>
  rw[show bQ (a6 l) (.nam s)= .error 4 by simp only[bQ,Dl (h2 rfl)]];refine kU func133 ?_;exact oJ
 |true=>
  obtain⟨x,hx,e⟩:=h1 rfl;have hi:i<l.length:=(List.getElem?_eq_some_iff.1 hx).1
  have hsz:=(hv x (List.mem_of_getElem? hx)).1;rw[show bQ (a6 l) (.nam s)= .ok x.2 by simp only[bQ,<- e,BP hs hx]];refine kU func133 ?_;refine dm ?_;refine aP (i:=i) (cs':=lB x.2.1 x.2.2) hi (Gh hx) (Nat.zero_lt_succ 4) rfl rfl rfl rfl rfl rfl rfl rfl ?_
  refine kO2 ?_
  refine Ng ?_;refine am (l8 hsz Fv (by decide) (Cw x.2.1)) rfl rfl rfl rfl rfl rfl rfl ?_
  refine kO2 ?_
  refine aP (i:=i) (cs':=lB x.2.1 x.2.2) hi (Gh hx) (Nat.zero_lt_succ 4) rfl rfl rfl rfl rfl rfl rfl rfl ?_;exact ar
def ab (o:Int) (na:Bool) (xs:List Nat) (nb:Bool) (ys:List Nat) (nm:List UInt8) (n:Nat) (cs:List AV):List AV:=[.val (.int .i64 o), .val (.bool na),aW xs, .val (.bool nb),aW ys, .val (vL nm), .sl n cs]
theorem aX (a:Ex):∃o na xs nb ys nm n cs,aE a=ab o na xs nb ys nm n cs:=by
 unfold aE;generalize rx a=x;exact LH
theorem Jp (a:List AV):∀(j:Nat) (x:AV),a[j]? =some x->a[0*7+j]? =some x:=fun j x h=>by rw[Nat.zero_mul,Nat.zero_add];exact h
theorem l5 (a b:List AV):∀(j:Nat) (x:AV),a[j]? =some x->(a++b)[0*7+j]? =some x:=fun j x h=>by
 rw[Nat.zero_mul,Nat.zero_add,List.getElem?_append_left (List.getElem?_eq_some_iff.1 h).1];exact h
theorem me {a:List AV} (b:List AV) (ha:a.length=7):∀(j:Nat) (x:AV),b[j]? =some x->(a++b)[1*7+j]? =some x:=fun j x h=>by
 rw[List.getElem?_append_right (by rw[ha];omega),ha,show 1*7+j-7=j by omega];exact h
theorem sQ {a:Ex} (henv:qd (a6 l)) (ho:ym a) (hw:mj a<=1000000) (ih:aa Tryz.prog 133 [dE a,ig l,jv l] (d9 (bQ (a6 l) a))):aa Tryz.prog 133 [dE (.neg a),ig l,jv l] (d9 (bQ (a6 l) (.neg a))):=by
 obtain⟨o1,na1,xs1,nb1,ys1,nm1,n1,cs1,hA⟩:=aX a;rw[show dE (.neg a)= .agg ([.val (.int .i64 3)]++jb++[.val (vL []), .sl 1 (aE a)]) from congrArg DV.agg (nS a),hA];rw[show dE a= .agg (ab o1 na1 xs1 nb1 ys1 nm1 n1 cs1) from congrArg DV.agg hA]at ih;cases ha:bQ (a6 l) a with
 |error z=>
  have hz:=eq ha;rw[ha]at ih;rw[show bQ (a6 l) (.neg a)= .error z by simp only[bQ,ha]];refine QJ ?_;refine vn ?_;exact ar
 |ok x=>
  obtain⟨hx,hp⟩:=jn henv ho ha;rw[ha]at ih;rw[show bQ (a6 l) (.neg a)= .ok (-x.1,x.2) by simp only[bQ,ha]];refine QJ ?_;refine kW ?_;refine it ?_;refine bI ⟨[(1, .d (ig l)),(2, .d (jv l)),(3, .box 0 0),(6, .box 1 0),(7, .d (dN .i64 0)),(12, .own 5001 1 5 92),(72, .d (.leaf (.sl 1 (ab o1 na1 xs1 nb1 ys1 nm1 n1 cs1)))),(73, .d (dN .i64 1)),(74, .d (dN .i64 1))],[(0,some ([.val (.int .i64 3)]++jb++[.val (vL []), .sl 1 (ab o1 na1 xs1 nb1 ys1 nm1 n1 cs1)])),(1,some ie),(5001,some (lB x.1 x.2))]⟩ kw ?_;refine kW ?_;refine lF (i:=0) (by decide) rfl rfl rfl rfl rfl rfl rfl rfl rfl ?_;refine kW ?_;refine am (ll hx (by omega)) rfl rfl rfl rfl rfl rfl rfl ?_;exact ar
theorem sP {a b:Ex} (henv:qd (a6 l)) (ho:ym a) (ho':ym b) (hw:mj a+mj b<=1000000) (ih:aa Tryz.prog 133 [dE a,ig l,jv l] (d9 (bQ (a6 l) a))) (ih':aa Tryz.prog 133 [dE b,ig l,jv l] (d9 (bQ (a6 l) b))):aa Tryz.prog 133 [dE (.bin .add a b),ig l,jv l] (d9 (bQ (a6 l) (.bin .add a b))):=by
 obtain⟨o1,na1,xs1,nb1,ys1,nm1,n1,cs1,hA⟩:=aX a;obtain⟨o2,na2,xs2,nb2,ys2,nm2,n2,cs2,hB⟩:=aX b;rw[show dE (.bin .add a b)= .agg ([.val (.int .i64 (B4.add).code)]++jb++[.val (vL []), .sl 2 (aE a++aE b)]) from congrArg DV.agg (jw .add a b),hA,hB];rw[show dE a= .agg (ab o1 na1 xs1 nb1 ys1 nm1 n1 cs1) from congrArg DV.agg hA]at ih;rw[show dE b= .agg (ab o2 na2 xs2 nb2 ys2 nm2 n2 cs2) from congrArg DV.agg hB]at ih';cases ha:bQ (a6 l) a with
 |error z=>
  have hz:=eq ha;rw[ha]at ih;rw[show bQ (a6 l) (.bin .add a b)= .error z by simp only[bQ,ha]];refine KM ?_;refine Sj ?_;refine vn ?_;exact ar
 |ok x=>
  obtain⟨hx,hpx⟩:=jn henv ho ha;rw[ha]at ih;cases hb:bQ (a6 l) b with
  |error z=>
   have hz:=eq hb;rw[hb]at ih';rw[show bQ (a6 l) (.bin .add a b)= .error z by simp only[bQ,ha,hb]];refine KM ?_;refine Ga ?_;refine Oe ?_;refine Mx ?_;refine vn ?_;exact ar
  |ok y=>
   obtain⟨hy,hpy⟩:=jn henv ho' hb;rw[hb]at ih';have hR:bQ (a6 l) (.bin .add a b)=Ju .add x.1 x.2 y.1 y.2:=by simp only[bQ,ha,hb]
   rw[hR];show aa Tryz.prog _ _ (d9 (su x.1 x.2 y.1 y.2));have c:=x3 hx hy (by omega) hpx (p':=y.2);cases hr:su x.1 x.2 y.1 y.2 with
   |error z=>
    rw[hr]at c;refine KM ?_;refine Ga ?_;refine Oe ?_;refine N7 ?_;refine Qe ?_;exact L9
   |ok z=>
    rw[hr]at c;refine KM ?_;refine Ga ?_;refine Oe ?_;refine N7 ?_;refine Qe ?_;exact L9
theorem sS {a b:Ex} (henv:qd (a6 l)) (ho:ym a) (ho':ym b) (hw:mj a+mj b<=1000000) (ih:aa Tryz.prog 133 [dE a,ig l,jv l] (d9 (bQ (a6 l) a))) (ih':aa Tryz.prog 133 [dE b,ig l,jv l] (d9 (bQ (a6 l) b))):aa Tryz.prog 133 [dE (.bin .sub a b),ig l,jv l] (d9 (bQ (a6 l) (.bin .sub a b))):=by
 obtain⟨o1,na1,xs1,nb1,ys1,nm1,n1,cs1,hA⟩:=aX a;obtain⟨o2,na2,xs2,nb2,ys2,nm2,n2,cs2,hB⟩:=aX b;rw[show dE (.bin .sub a b)= .agg ([.val (.int .i64 (B4.sub).code)]++jb++[.val (vL []), .sl 2 (aE a++aE b)]) from congrArg DV.agg (jw .sub a b),hA,hB];rw[show dE a= .agg (ab o1 na1 xs1 nb1 ys1 nm1 n1 cs1) from congrArg DV.agg hA]at ih;rw[show dE b= .agg (ab o2 na2 xs2 nb2 ys2 nm2 n2 cs2) from congrArg DV.agg hB]at ih';cases ha:bQ (a6 l) a with
 |error z=>
  have hz:=eq ha;rw[ha]at ih;rw[show bQ (a6 l) (.bin .sub a b)= .error z by simp only[bQ,ha]];refine Ok ?_;refine Sj ?_;refine vn ?_;exact ar
 |ok x=>
  obtain⟨hx,hpx⟩:=jn henv ho ha;rw[ha]at ih;cases hb:bQ (a6 l) b with
  |error z=>
   have hz:=eq hb;rw[hb]at ih';rw[show bQ (a6 l) (.bin .sub a b)= .error z by simp only[bQ,ha,hb]];refine Ok ?_;refine Ga ?_;refine Rn ?_;refine Mx ?_;refine vn ?_;exact ar
  |ok y=>
   obtain⟨hy,hpy⟩:=jn henv ho' hb;rw[hb]at ih';have hR:bQ (a6 l) (.bin .sub a b)=Ju .sub x.1 x.2 y.1 y.2:=by simp only[bQ,ha,hb]
   rw[hR];show aa Tryz.prog _ _ (d9 (su x.1 x.2 (-y.1) y.2));have c:=x3 hx hy.neg (by omega) hpx (p':=y.2);cases hr:su x.1 x.2 (-y.1) y.2 with
   |error z=>
    exact L0
   |ok z=>
    exact L0
theorem sJ {a b:Ex} (henv:qd (a6 l)) (ho:ym a) (ho':ym b) (hw:mj a+mj b<=1000000) (ih:aa Tryz.prog 133 [dE a,ig l,jv l] (d9 (bQ (a6 l) a))) (ih':aa Tryz.prog 133 [dE b,ig l,jv l] (d9 (bQ (a6 l) b))):aa Tryz.prog 133 [dE (.bin .mul a b),ig l,jv l] (d9 (bQ (a6 l) (.bin .mul a b))):=by
 obtain⟨o1,na1,xs1,nb1,ys1,nm1,n1,cs1,hA⟩:=aX a;obtain⟨o2,na2,xs2,nb2,ys2,nm2,n2,cs2,hB⟩:=aX b;rw[show dE (.bin .mul a b)= .agg ([.val (.int .i64 (B4.mul).code)]++jb++[.val (vL []), .sl 2 (aE a++aE b)]) from congrArg DV.agg (jw .mul a b),hA,hB];rw[show dE a= .agg (ab o1 na1 xs1 nb1 ys1 nm1 n1 cs1) from congrArg DV.agg hA]at ih;rw[show dE b= .agg (ab o2 na2 xs2 nb2 ys2 nm2 n2 cs2) from congrArg DV.agg hB]at ih';cases ha:bQ (a6 l) a with
 |error z=>
  have hz:=eq ha;rw[ha]at ih;rw[show bQ (a6 l) (.bin .mul a b)= .error z by simp only[bQ,ha]];refine Ka ?_;refine Sj ?_;refine vn ?_;exact ar
 |ok x=>
  obtain⟨hx,hpx⟩:=jn henv ho ha;rw[ha]at ih;cases hb:bQ (a6 l) b with
  |error z=>
   have hz:=eq hb;rw[hb]at ih';rw[show bQ (a6 l) (.bin .mul a b)= .error z by simp only[bQ,ha,hb]];refine Ka ?_;refine Ga ?_;refine NY ?_;refine Mx ?_;refine vn ?_;exact ar
  |ok y=>
   obtain⟨hy,hpy⟩:=jn henv ho' hb;rw[hb]at ih';have hR:bQ (a6 l) (.bin .mul a b)=Ju .mul x.1 x.2 y.1 y.2:=by simp only[bQ,ha,hb]
   rw[hR];show aa Tryz.prog _ _ (d9 (Ak x.1 x.2 y.1 y.2));have c:=GV hx hy (by omega) hpx hpy;cases hr:Ak x.1 x.2 y.1 y.2 with
   |error z=>
    rw[hr]at c;refine Ka ?_;refine Ga ?_;refine NY ?_;refine N7 ?_;refine Ru ?_;exact L9
   |ok z=>
    rw[hr]at c;refine Ka ?_;refine Ga ?_;refine NY ?_;refine N7 ?_;refine Ru ?_;exact L9
theorem sg {a b:Ex} (henv:qd (a6 l)) (ho:ym a) (ho':ym b) (hw:mj a+mj b<=1000000) (ih:aa Tryz.prog 133 [dE a,ig l,jv l] (d9 (bQ (a6 l) a))) (ih':aa Tryz.prog 133 [dE b,ig l,jv l] (d9 (bQ (a6 l) b))):aa Tryz.prog 133 [dE (.bin .div a b),ig l,jv l] (d9 (bQ (a6 l) (.bin .div a b))):=by
 obtain⟨o1,na1,xs1,nb1,ys1,nm1,n1,cs1,hA⟩:=aX a;obtain⟨o2,na2,xs2,nb2,ys2,nm2,n2,cs2,hB⟩:=aX b;rw[show dE (.bin .div a b)= .agg ([.val (.int .i64 (B4.div).code)]++jb++[.val (vL []), .sl 2 (aE a++aE b)]) from congrArg DV.agg (jw .div a b),hA,hB];rw[show dE a= .agg (ab o1 na1 xs1 nb1 ys1 nm1 n1 cs1) from congrArg DV.agg hA]at ih;rw[show dE b= .agg (ab o2 na2 xs2 nb2 ys2 nm2 n2 cs2) from congrArg DV.agg hB]at ih';cases ha:bQ (a6 l) a with
 |error z=>
  have hz:=eq ha;rw[ha]at ih;rw[show bQ (a6 l) (.bin .div a b)= .error z by simp only[bQ,ha]];refine Jz ?_;refine Sj ?_;refine vn ?_;exact ar
 |ok x=>
  obtain⟨hx,hpx⟩:=jn henv ho ha;rw[ha]at ih;cases hb:bQ (a6 l) b with
  |error z=>
   have hz:=eq hb;rw[hb]at ih';rw[show bQ (a6 l) (.bin .div a b)= .error z by simp only[bQ,ha,hb]];refine Jz ?_;refine Ga ?_;refine Ov ?_;refine Mx ?_;refine vn ?_;exact ar
  |ok y=>
   obtain⟨hy,hpy⟩:=jn henv ho' hb;rw[hb]at ih';have hR:bQ (a6 l) (.bin .div a b)=Ju .div x.1 x.2 y.1 y.2:=by simp only[bQ,ha,hb]
   rw[hR];show aa Tryz.prog _ _ (d9 (zr x.1 x.2 y.1 y.2));have c:=Hk hx hy (by omega) hpx hpy;cases hr:zr x.1 x.2 y.1 y.2 with
   |error z=>
    rw[hr]at c;refine Jz ?_;refine Ga ?_;refine Ov ?_;refine N7 ?_;refine RR ?_;exact L9
   |ok z=>
    rw[hr]at c;refine Jz ?_;refine Ga ?_;refine Ov ?_;refine N7 ?_;refine RR ?_;exact L9
end
theorem cu {l:EL} (hs:el l) (hl:l.length<=1000000) (hv:∀x∈l,dJ 400 x.2.1/\o9 x.2.2=true):∀e,ym e->mj e<=1000000->aa Tryz.prog 133 [dE e,ig l,jv l] (d9 (bQ (a6 l) e))
 | .num _ _,ho,_=>sc ho
 | .nam _,_,_=>sy hs hl hv
 | .neg a,ho,hw=>sQ (rG hv) ho hw (cu hs hl hv a ho hw)
 | .bin .add a b,ho,hw=>by
  have hw':mj a+mj b+1<=1000000:=hw;exact sP (rG hv) ho.1 ho.2 (by omega) (cu hs hl hv a ho.1 (by omega)) (cu hs hl hv b ho.2 (by omega))
 | .bin .sub a b,ho,hw=>by
  have hw':mj a+mj b+1<=1000000:=hw;exact sS (rG hv) ho.1 ho.2 (by omega) (cu hs hl hv a ho.1 (by omega)) (cu hs hl hv b ho.2 (by omega))
 | .bin .mul a b,ho,hw=>by
  have hw':mj a+mj b+1<=1000000:=hw;exact sJ (rG hv) ho.1 ho.2 (by omega) (cu hs hl hv a ho.1 (by omega)) (cu hs hl hv b ho.2 (by omega))
 | .bin .div a b,ho,hw=>by
  have hw':mj a+mj b+1<=1000000:=hw;exact sg (rG hv) ho.1 ho.2 (by omega) (cu hs hl hv a ho.1 (by omega)) (cu hs hl hv b ho.2 (by omega))
section
variable {l:EL}
end
section
variable {P:Program} {T:TypeId->Option Ty} {n:Nat} {ops:Array Oper} {id:Nat} {draw:Bool} {K:AS->Prop} {s:AS} {k:Nat} {o:Oper} {os:List Oper} {fps:List FP}
theorem Ra {x y:Operand} {ts:Array TypeId} {a b m:Int} (hm:max a b=m) (h1:gd ops s o=some true) (h2:o.op= .call ⟨.builtin .max,#[x,y],ts⟩) (h7:s.ev x= .d (dN .i64 a)) (h8:s.ev y= .d (dN .i64 b))
 (h3:aB n o.dst=true) (h4:eZ draw ops (au ops o ⟨.d (dN .i64 m),none⟩ []) k fps=true) (h:ak P T n ops id draw K (k+1) os (s.eff o.dst ⟨.d (dN .i64 m),none⟩) (au ops o ⟨.d (dN .i64 m),none⟩ []::fps)):ak P T n ops id draw K k (o::os) s fps:=by
 subst hm;refine .run h1 (.gen fun s2 ht _=>?_) h3 h4 h;have hx:=(aq ht (x:=x) (by simp[h2,Op.operands,Call.operands])).trans h7;have hy:=(aq ht (x:=y) (by simp[h2,Op.operands,Call.operands])).trans h8;refine ah fun n S0 w0 g a' w hM=>⟨.int .i64 (max a b),w,?_,Below.refl _ _,AV.M.val rfl⟩
 have hm:(Builtin.max2 (.int .i64 a) (.int .i64 b)).run P w= .ok (.int .i64 (max a b)) w:=by
  have e:max a b=if b > a then b else a:=by split <;>omega
  rw[e];rfl
 simp[execOp,h2,resolve,invoke,builtin,Builtin.max_,aY hM hx,aY hM hy,Sem.run_bind,hm]
end
theorem eQ {p:Rx->Prop} (h:∀op na xs nb ys nm args,(∀y∈args,p y)->p (.mk op na xs nb ys nm args)):∀x,p x
 | .mk op na xs nb ys nm args=>h op na xs nb ys nm args (fun y hy=>eQ h y)
decreasing_by
 have:=List.sizeOf_lt_of_mem hy
 simp
 omega
theorem aM (x:Rx):∃o na xs nb ys nm n cs,aR x=ab o na xs nb ys nm n cs:=by
 exact LH
mutual
def ib:Rx->Nat
 | .mk _ _ _ _ _ _ args=>eR args+1
def eR:List Rx->Nat
 | []=>0
 |x::r=>ib x+eR r
end
mutual
def rY:Rx->Nat->Nat
 | .mk _ _ _ _ _ _ args,m=>yT args 1 m
def yT:List Rx->Nat->Nat->Nat
 | [],n,_=>n
 |y::r,n,m=>if n<=m then yT r (n+rY y (m-n)) m else n
end
theorem wz:∀{l:List Rx} {n m:Nat},m<n->yT l n m=n
 | [],n,m,_=>rfl
 |y::r,n,m,h=>by rw[yT,if_neg (by omega)]
theorem Gu {l:List Rx} {i:Nat} (h:i<l.length) {n m:Nat} (hn:n<=m):yT (l.drop i) n m=yT (l.drop (i+1)) (n+rY l[i] (m-n)) m:=by
 rw[List.drop_eq_getElem_cons h,yT,if_pos hn]
theorem vS:∀(x:Rx) (m:Nat),1<=rY x m/\rY x m<=m+1/\(rY x m<=m->rY x m=ib x):=by
 refine eQ fun op na xs nb ys nm args ih m=>?_
 have key:∀(l:List Rx),(∀y∈l,∀m,1<=rY y m/\rY y m<=m+1/\(rY y m<=m->rY y m=ib y))-> ∀n,1<=n->n<=m+1->1<=yT l n m/\yT l n m<=m+1/\(yT l n m<=m->yT l n m=n+eR l):=by
  intro l
  induction l with
  |nil=>intro _ n h1 h2;exact⟨h1,h2,fun _=>rfl⟩
  |cons y r ihr=>
   intro h n h1 h2
   by_cases hn:n<=m
   ·rw[yT,if_pos hn]
    obtain⟨a1,a2,a3⟩:=h y (by simp) (m-n);obtain⟨b1,b2,b3⟩:=ihr (fun z hz=>h z (by simp[hz])) (n+rY y (m-n)) (by omega) (by omega);refine⟨b1,b2,fun hle=>?_⟩;rw[b3 hle,eR]
    by_cases hm:n+rY y (m-n)<=m
    ·rw[a3 (by omega)];omega
    ·rw[wz (by omega)]at hle;omega
   ·rw[yT,if_neg hn]
    exact⟨h1,h2,fun h=>absurd h hn⟩
 rw[rY,ib];obtain⟨c1,c2,c3⟩:=key args ih 1 (Nat.le_refl _) (by omega);exact⟨c1,c2,fun h=>by rw[c3 h];omega⟩
theorem Ft:∀(x:Rx),nj x-> ∀m:Nat,m<=1000000->aa Tryz.prog 50 [dR x,dN .i64 m] (.one (dN .i64 (rY x m))):=by
 refine eQ fun op na xs nb ys nm args ih hx m hm=>?_
 obtain⟨_,_,_,_,_,hlen,hargs⟩:=hx;show aa Tryz.prog _ [.agg (ab op na xs nb ys nm args.length (eE args)),_] _;have ht0:=(vS (.mk op na xs nb ys nm args) m).2.1;rw[rY]at ht0 ⊢;generalize ht:yT args 1 m=t at ht0;refine kV func50 ?_
 refine ax (Nat × Nat) (fun s=>s.1<=args.length/\1<=s.2/\s.2<=m+1/\yT (args.drop s.1) s.2 m=t) (fun s=>⟨[(1, .d (dN .i64 m)),(2, .box 0 0),(4, .d (dN .i64 0)),(5, .d (dN .i64 s.2)),(6, .d (dN .i64 s.1))],[(0,some (ab op na xs nb ys nm args.length (eE args)))]⟩) (fun s=>args.length-s.1) (0,1) ⟨Nat.zero_le _,Nat.le_refl _,by dsimp only;omega,ht⟩
  kw ?_
 rintro⟨i,n⟩ ⟨hi,h1,h2,hd⟩;dsimp only at hi h1 h2 hd ⊢;refine kI ?_
 refine kO4 ?_
 by_cases hlt:i<args.length
 ·refine kT ?_
  refine kO3 ?_
  by_cases hn:n<=m
  ·refine kT ?_
   obtain⟨o1,na1,xs1,nb1,ys1,nm1,n1,cs1,hA⟩:=aM args[i];have hat:∀(j:Nat) (a:AV),(ab o1 na1 xs1 nb1 ys1 nm1 n1 cs1)[j]? =some a->(eE args)[i*7+j]? =some a:=fun j a h=>eu args i args[i] (by simp[hlt]) j a (by rw[hA];exact h)
   have c:=ih args[i] (List.getElem_mem hlt) (hargs _ (List.getElem_mem hlt)) (m-n) (by omega);rw[show dR args[i]= .agg (ab o1 na1 xs1 nb1 ys1 nm1 n1 cs1) from congrArg DV.agg hA]at c;obtain⟨k1,k2,_⟩:=vS args[i] (m-n);have hstep:=Gu hlt hn;generalize rY args[i] (m-n)=k at *;refine uX ?_
   refine kO3 ?_
   refine kJ ((m-n:Nat)) ?_;refine kQ (c) ?_;exact⟨(i+1,n+k),⟨hlt,by dsimp only;omega,by dsimp only;omega,by dsimp only;rw[<- hstep];exact hd⟩,by dsimp only;omega,weak ⟨rfl,rfl,rfl,aA (by omega) (by omega),aA (by omega) (by omega),trivial⟩ ⟨rfl,trivial⟩ rfl⟩
  ·refine kE ?_
   refine kW ?_;rw[<- hd,wz (by omega)];exact dx (T:=TT) rfl rfl
 ·refine kE ?_
  refine kW ?_;rw[<- hd,List.drop_eq_nil_of_le (by omega),yT];exact dx (T:=TT) rfl rfl
mutual
def pJ:Rx->Bool
 | .mk _ _ xs _ ys nm args=>nC args && (decide (xs.length<=8) && decide (ys.length<=8) && decide (nm.length<=60))
def nC:List Rx->Bool
 | []=>true
 |y::r=>pJ y && nC r
end
theorem qq:∀{l:List Rx},nC l=true-> ∀y∈l,pJ y=true
 |a::l,h,y,hy=>by
  simp only[nC,Bool.and_eq_true]at h
  rcases List.mem_cons.1 hy with rfl|hy
  ·exact h.1
  ·exact qq h.2 y hy
theorem xr:∀{l:List Rx},(∀(q:Nat) (y:Rx),l[q]? =some y->pJ y=true)->nC l=true
 | [],_=>rfl
 |a::l,h=>by
  simp only[nC,Bool.and_eq_true]
  exact⟨h 0 a rfl,xr fun q y hq=>h (q+1) y (by simpa using hq)⟩
theorem Iz:∀(x:Rx),nj x->aa Tryz.prog 51 [dR x] (.one (dB (pJ x))):=by
 refine eQ fun op na xs nb ys nm args ih hx=>?_
 obtain⟨_,_,_,_,_,hlen,hargs⟩:=hx;have hB:=aw nm;refine MS ?_;refine kV func51 ?_
 refine ax Nat (fun i=>i<=args.length/\ ∀(q:Nat) y,q<i->args[q]? =some y->pJ y=true) (fun i=>⟨[(1, .box 0 0),(2, .d (dB false)),(3, .d (dN .i64 i))],[(0,some (ab op na xs nb ys nm args.length (eE args)))]⟩) (fun i=>args.length-i) 0 ⟨Nat.zero_le _,fun q y h=>absurd h (Nat.not_lt_zero _)⟩
  kw ?_
 rintro i ⟨hi,hq⟩;refine kI ?_
 refine kO4 ?_
 by_cases hlt:i<args.length
 ·refine kT ?_
  obtain⟨o1,na1,xs1,nb1,ys1,nm1,n1,cs1,hA⟩:=aM args[i];have hx:args[i]? =some args[i]:=by simp[hlt]
  have hat:∀(j:Nat) (a:AV),(ab o1 na1 xs1 nb1 ys1 nm1 n1 cs1)[j]? =some a->(eE args)[i*7+j]? =some a:=fun j a h=>eu args i args[i] hx j a (by rw[hA];exact h)
  have c:=ih args[i] (List.getElem_mem hlt) (hargs _ (List.getElem_mem hlt));rw[show dR args[i]= .agg (ab o1 na1 xs1 nb1 ys1 nm1 n1 cs1) from congrArg DV.agg hA]at c;refine uX ?_;refine kO ?_;cases hb:pJ args[i]
  ·rw[hb]at c
   refine kQ (c) ?_
   rw[show pJ (.mk op na xs nb ys nm args)=false by
    rw[pJ,Bool.and_eq_false_iff];refine .inl ?_;cases h:nC args
    ·rfl
    ·rw[qq h _ (List.getElem_mem hlt)]at hb;cases hb]
   exact dx (T:=TT) rfl rfl
  ·rw[hb]at c
   refine kQ (c) ?_
   exact⟨i+1,⟨hlt,fun q y h1 h2=>by
    by_cases e:q=i
    ·subst e;rw[hx]at h2;cases h2;exact hb
    ·exact hq q y (by omega) h2⟩,by omega,weak ⟨rfl,rfl,aA (by omega) (by omega),trivial⟩ ⟨rfl,trivial⟩ rfl⟩
 ·refine kE ?_
  have hall:nC args=true:=xr fun q y h=>hq q y (by have:=(List.getElem?_eq_some_iff.1 h).1;omega) h
  rw[pJ,hall,Bool.true_and];refine uU ?_;refine kI ?_
  refine kO5 ?_
  by_cases l1:xs.length<=8
  ·refine kT ?_
   iterate 6 refine kO ?_
   by_cases l2:ys.length<=8
   ·refine kT ?_
    refine kO5 ?_
    by_cases l3:nm.length<=60
    ·refine kT ?_
     refine kW ?_;rw[decide_eq_true l1,decide_eq_true l2,decide_eq_true l3];exact dx (T:=TT) rfl rfl
    ·refine kE ?_
     refine kW ?_;rw[decide_eq_true l1,decide_eq_true l2,decide_eq_false l3];exact dx (T:=TT) rfl rfl
   ·refine kE ?_
    refine kW ?_;rw[decide_eq_true l1,decide_eq_false l2];exact dx (T:=TT) rfl rfl
  ·refine kE ?_
   refine kW ?_;rw[decide_eq_false l1];exact dx (T:=TT) rfl rfl
mutual
def yJ:Rx->Nat
 | .mk _ _ _ _ _ _ args=>pf args+1
def pf:List Rx->Nat
 | []=>0
 |y::r=>max (yJ y) (pf r)
end
theorem Oz:∀x,yJ x<=ib x:=by
 refine eQ fun op na xs nb ys nm args ih=>?_
 have key:∀l:List Rx,(∀y∈l,yJ y<=ib y)->pf l<=eR l:=by
  intro l
  induction l with
  |nil=>intro _;exact Nat.le_refl _
  |cons y r ihr=>
   intro h;have h1:=h y (by simp);have h2:=ihr fun z hz=>h z (by simp[hz])
   rw[pf,eR];omega
 rw[yJ,ib];have:=key args ih;omega
theorem pm:∀{l:List Rx} {y:Rx},y∈l->ib y<=eR l
 |a::l,y,h=>by
  rw[eR];rcases List.mem_cons.1 h with rfl|h
  ·omega
  ·have:=pm h;omega
theorem CD:∀{l:List Rx} {y:Rx},y∈l->yJ y<=pf l
 |a::l,y,h=>by
  rw[pf];rcases List.mem_cons.1 h with rfl|h
  ·omega
  ·have:=CD h;omega
end Go.Proofs.YtnchbpoopnjghaaGreatDoor
