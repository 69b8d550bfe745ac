/- Parts of a proof: contracts of the functions that the laws reach. -/
import Derived.Test.YtnchbpoopnjghaaGreatDoorHZ5
set_option maxHeartbeats 100000000
set_option linter.all false
open Go.Proofs.Tryz
namespace Go.Proofs.YtnchbpoopnjghaaGreatDoor
open Go.RowKit
section
open Go.ChangeShapes Go.WideShapes Go.ChangeAt Go.RowKit Go.Joins
def Sh (P:Program):Nat->TypeId->List AV->Prop
 |0,_,_=>False
 |n+1,t,cs=>match P.underlying t with
  |some .bool=>∃b,cs=[.val (.bool b)]
  |some (.int k)=>∃i,cs=[.val (.int k i)]/\(Lit.int k i).wf=true
  |some .string=>∃s:ByteArray,cs=[.val (.string s)]/\s.size<=maxLen
  |some (.slice e)=>∃rows:List (List AV),cs=[.sl rows.length rows.flatten]/\rows.length<=maxLen/\ ∀r∈rows,Sh P n e r/\r.length=P.cellsOf e
  |some (.struct fs)=>cs.length=P.cellsOf t/\ ∀f∈fs.toList,Sh P n f.type ((cs.drop f.offset).take (P.cellsOf f.type))
  |_=>False
def ni (P:Program):Nat->Nat->List Field->Bool
 |off,sz,[]=>Nat.beq off sz
 |off,sz,f::r=>Nat.beq f.offset off && ni P (off+P.cellsOf f.type) sz r
def wu (P:Program) (L:List TypeId):Bool:=L.all fun t=>match P.underlying t with
 |some .bool=>true
 |some (.int _)=>true
 |some .string=>true
 |some (.slice e)=>L.elem e
 |some (.struct fs)=>(fs.toList.all fun f=>L.elem f.type) && ni P 0 (P.cellsOf t) fs.toList
 |_=>false
theorem yV {w:World} {a:Addr} {k:Nat} {l:List Value} (h:w.cells? 0 a k=some l):l.length=k/\ ∀(i:Nat) (v:Value),l[i]? =some v->w.cell? (a.add i)=some v:=by
 unfold World.cells? at h;rw[if_pos (Nat.zero_le _)]at h
 have:∀(xs:List Nat) (l:List Value),xs.mapM (fun i=>w.cell? (a.add i))=some l->l.length=xs.length/\ ∀(i:Nat) (v:Value),l[i]? =some v-> ∃x,xs[i]? =some x/\w.cell? (a.add x)=some v:=by
  intro xs
  induction xs with
  |nil=>intro l h;simp at h;subst h;exact⟨rfl,fun i v h=>by simp at h⟩
  |cons x xs ih=>
   intro l h
   simp only[List.mapM_cons,Option.bind_eq_bind]at h
   cases h1:w.cell? (a.add x)with
   |none=>rw[h1]at h;simp at h
   |some v=>
    cases h2:xs.mapM (fun i=>w.cell? (a.add i))with
    |none=>rw[h1,h2]at h;simp at h
    |some l'=>
     rw[h1,h2]at h
     simp at h
     subst h;obtain⟨h3,h4⟩:=ih l' h2;refine⟨by simp[h3],fun i u hu=>?_⟩;cases i with
     |zero=>simp at hu;subst hu;exact⟨x,rfl,h1⟩
     |succ i=>simpa using h4 i u (by simpa using hu)
 obtain⟨h1,h2⟩:=this _ _ h;refine⟨by simpa using h1,fun i v hv=>?_⟩;obtain⟨x,hx,hc⟩:=h2 i v hv
 have:x=i:=by
  have:=(List.getElem?_eq_some_iff.1 hx).2
  simpa using this.symm
 rw[<- this];exact hc
theorem x3 {α β:Type} {f:α->Option β}:∀{xs:List α} {ys:List β},xs.mapM f=some ys->xs.length=ys.length/\ ∀(i:Nat) (x:α),xs[i]? =some x-> ∃y,ys[i]? =some y/\f x=some y
 | [],ys,h=>by simp at h;subst h;exact⟨rfl,fun i x h=>by simp at h⟩
 |x::xs,ys,h=>by
  simp only[List.mapM_cons,Option.bind_eq_bind]at h
  cases h1:f x with
  |none=>rw[h1]at h;simp at h
  |some y=>
   cases h2:xs.mapM f with
   |none=>rw[h1,h2]at h;simp at h
   |some l=>
    rw[h1,h2]at h
    simp at h
    subst h;obtain⟨h3,h4⟩:=x3 h2;refine⟨by simp[h3],fun i z hz=>?_⟩;cases i with
    |zero=>simp at hz;subst hz;exact⟨y,rfl,h1⟩
    |succ i=>simpa using h4 i z (by simpa using hz)
theorem x1 {rows:List (List AV)} {k:Nat} (h:∀r∈rows,r.length=k):∀(i:Nat) (r:List AV),rows[i]? =some r-> ∀j,j<k->rows.flatten[i*k+j]? =r[j]?:=by
 induction rows with
 |nil=>intro i r hr;simp at hr
 |cons x rows ih=>
  intro i r hr j hj;have hx:=h x (by simp)
  simp only[List.flatten_cons]
  cases i with
  |zero=>simp at hr;subst hr;rw[Nat.zero_mul,Nat.zero_add,List.getElem?_append_left (by omega)]
  |succ i=>
   rw[List.getElem?_append_right (by rw[Nat.add_mul];omega)];have:=ih (fun r hr=>h r (by simp[hr])) i r (by simpa using hr) j hj;rw[<- this]
   congr 1
   rw[Nat.add_mul];omega
theorem jT {rows:List (List AV)} {k:Nat} (h:∀r∈rows,r.length=k):rows.flatten.length=rows.length*k:=by
 induction rows with
 |nil=>simp
 |cons x rows ih=>rw[List.flatten_cons,List.length_append,ih (fun r hr=>h r (by simp[hr])),h x (by simp),List.length_cons,Nat.add_mul];omega
theorem Ct {P:Program} {sz:Nat}:∀{fs:List Field} {off:Nat},ni P off sz fs=true->off<=sz
 | [],off,h=>by have:=Nat.eq_of_beq_eq_true h;omega
 |f::r,off,h=>by
  simp only[ni,Bool.and_eq_true]at h
  have:=Ct h.2;omega
theorem CS {P:Program} {w:World} {vs:List Value} {Q:TypeId->List AV->Prop}:∀(fs:List Field) (off:Nat),ni P off vs.length fs=true ->
 (∀f∈fs,∃cf,CM (fun _=>False) w cf ((vs.drop f.offset).take (P.cellsOf f.type))/\Q f.type cf) ->
 ∃cs,CM (fun _=>False) w cs (vs.drop off)/\ ∀f∈fs,off<=f.offset/\Q f.type ((cs.drop (f.offset-off)).take (P.cellsOf f.type))
 | [],off,h,_=>by
  have:=Nat.eq_of_beq_eq_true h;subst this;rw[List.drop_length];exact⟨[],CM.nil _ _,fun f hf=>by cases hf⟩
 |f::r,off,h,hf=>by
  simp only[ni,Bool.and_eq_true]at h
  have ho:=Nat.eq_of_beq_eq_true h.1;obtain⟨cf,h1,h2⟩:=hf f (by simp);obtain⟨cs,h3,h4⟩:=CS r _ h.2 (fun g hg=>hf g (by simp[hg]));have hle:=Ct h.2;rw[ho]at h1;have hl:cf.length=P.cellsOf f.type:=by rw[h1.1];simp;omega
  refine⟨cf++cs,?_,fun g hg=>?_⟩
  ·have:=h1.append h3
   rwa[<- List.drop_drop,List.take_append_drop]at this
  ·rcases List.mem_cons.1 hg with rfl|hg
   ·refine⟨by omega,?_⟩
    rw[ho,Nat.sub_self,List.drop_zero,List.take_left' hl];exact h2
   ·obtain⟨h5,h6⟩:=h4 g hg
    refine⟨by omega,?_⟩;rw[show g.offset-off=cf.length+(g.offset-(off+P.cellsOf f.type)) by omega,<- List.drop_drop,List.drop_left' rfl];exact h6
theorem Uf {P:Program} {W:World} {e:TypeId} {a:Addr} {len cap:Nat} {rows:List (List AV)} (hcap:cap<=9223372036854775807) (hlc:len<=cap) (hl:rows.length=len) (hsz:∀r∈rows,r.length=P.cellsOf e)
 (hr:∀i r,rows[i]? =some r-> ∃us:List Value,W.cells? 0 (a.add (i*P.cellsOf e)) (P.cellsOf e)=some us/\CM (fun _=>False) W r us):AV.M (fun _=>False) W (.sl len rows.flatten) (.slice (some a) len cap):=by
 by_cases h0:len*P.cellsOf e=0
 ·have:rows.flatten=[]:=List.eq_nil_of_length_eq_zero (by rw[jT hsz,hl];exact h0)
  rw[this];exact .emp hlc hcap (fun h=>by cases h)
 ·have hlen:0<len:=by
   rcases Nat.eq_zero_or_pos len with h|h
   ·rw[h,Nat.zero_mul]at h0;exact absurd rfl h0
   ·exact h
  have hcz:0<P.cellsOf e:=by
   rcases Nat.eq_zero_or_pos (P.cellsOf e)with h|h
   ·rw[h,Nat.mul_zero]at h0;exact absurd rfl h0
   ·exact h
  have hcell:∀q c,rows.flatten[q]? =some c-> ∃v,W.cell? (a.add q)=some v/\AV.M (fun _=>False) W c v:=by
   intro q c hq;have hql:q<len*P.cellsOf e:=by have:=(List.getElem?_eq_some_iff.1 hq).1;rwa[jT hsz,hl]at this
   have hi:q/P.cellsOf e<len:=Nat.div_lt_of_lt_mul (by rw[Nat.mul_comm];exact hql)
   have hj:q%P.cellsOf e<P.cellsOf e:=Nat.mod_lt _ hcz
   have e1:q=q/P.cellsOf e*P.cellsOf e+q%P.cellsOf e:=by have:=Nat.div_add_mod q (P.cellsOf e);rw[Nat.mul_comm]at this;omega
   have hrow':rows[q/P.cellsOf e]? =some (rows[q/P.cellsOf e]'(by omega)):=by simp
   have h1:=x1 hsz _ _ hrow' (q%P.cellsOf e) hj;rw[<- e1,hq]at h1;obtain⟨us,h3,h4⟩:=hr _ _ hrow';have h5:=(yV h3);have h6:us[q%P.cellsOf e]? =some (us[q%P.cellsOf e]'(by omega)):=by simp
   refine⟨_,?_,h4.2 _ c _ h1.symm h6⟩;have h7:=h5.2 _ _ h6
   have e2:(a.add (q/P.cellsOf e*P.cellsOf e)).add (q%P.cellsOf e)=a.add q:=by
    unfold Addr.add
    by_cases c1:q/P.cellsOf e*P.cellsOf e=0
    ·by_cases c2:q%P.cellsOf e=0
     ·rw[if_pos c1,if_pos c2,if_pos (by omega)]
     ·rw[if_pos c1,if_neg c2,if_neg (by omega)]
      simp <;>omega
    ·by_cases c2:q%P.cellsOf e=0
     ·rw[if_neg c1,if_pos c2,if_neg (by omega)]
      simp <;>omega
     ·rw[if_neg c1,if_neg c2,if_neg (by omega)]
      simp <;>omega
   rwa[e2]at h7
  have hfl:0<rows.flatten.length:=by rw[jT hsz,hl];exact Nat.mul_pos hlen hcz
  obtain⟨v0,h1,_⟩:=hcell 0 rows.flatten[0] (by simp);have e0:a.add 0=a:=rfl;rw[e0]at h1;obtain⟨b,off,spot⟩:=a
  have hsp:spot=none:=by
   cases spot with
   |none=>rfl
   |some q=>
    unfold World.cell? at h1
    split at h1
    ·simp at h1
    ·cases h1
  subst hsp;refine AV.M.sl (fun q=>(W.cell? ⟨b,off+q,none⟩).getD undef) hlc hcap (fun h=>h) (World.block_lt_of_cell? W _ h1) (fun q c hq=>?_) (fun q c hq=>?_)
  ·obtain⟨v,h3,_⟩:=hcell q c hq
   rw[b7]at h3;rw[h3];rfl
  ·obtain⟨v,h3,h4⟩:=hcell q c hq
   rw[b7]at h3;rw[h3];exact h4
section
variable {H:Type} {enc:TypeId × Value->H} {W:World} {P:Program}
theorem Fw {L:List TypeId} (hL:wu P L=true):∀(n:Nat) (t:TypeId) (vs:List Value) (x:DataW H × List MemPlace),t∈L->DataW.trod enc P W 0 (fun _=>true) true n t vs=some x ->
 ∃cs,CM (fun _=>False) W cs vs/\Sh P n t cs:=by
 intro n
 induction n with
 |zero=>intro t vs x _ h;simp[DataW.trod]at h
 |succ n ih=>
  intro t vs x ht h;have hp:=List.all_eq_true.1 hL t ht
  simp only[Sh]
  cases hu:P.underlying t with
  |none=>rw[hu]at hp;simp at hp
  |some d=>
   rw[hu]at hp;cases d with
   |bool=>
    obtain⟨b,rfl,_⟩:=DataW.trod_bool hu h;exact⟨_,CM.cons (.val rfl) (CM.nil _ _),b,rfl⟩
   |int k=>
    obtain⟨i,rfl,_,h1⟩:=DataW.trod_int hu h;exact⟨_,CM.cons (.val rfl) (CM.nil _ _),i,rfl,h1⟩
   |string=>
    obtain⟨s,rfl,_,h1⟩:=DataW.trod_string hu h;exact⟨_,CM.cons (.val rfl) (CM.nil _ _),s,rfl,h1⟩
   |slice e=>
    have he:e∈L:=by simpa using hp
    rcases DataW.trod_slice hu h with⟨rfl,_⟩| ⟨a,len,cap,elems,rest,m,hm,rfl,_,_,hlc,hcm,hel,hget,_,_⟩
    ·exact⟨_,CM.cons (.emp (Nat.le_refl _) (by omega) (fun _=>rfl)) (CM.nil _ _),[],rfl,by simp,fun r hr=>by cases hr⟩
    ·obtain rfl:m=n:=by omega
     have hrow:∀i,i<len-> ∃(r:List AV) (us:List Value),W.cells? 0 (a.add (i*P.cellsOf e)) (P.cellsOf e)=some us/\CM (fun _=>False) W r us/\Sh P m e r:=by
      intro i hi;have h1:=hget i hi;have h2:elems[i]? =some elems[i]:=by simp
      rw[h2]at h1;obtain⟨us,h3,h4⟩:=Option.bind_eq_some_iff.1 h1;obtain⟨r,h5,h6⟩:=ih e us _ he h4;exact⟨r,us,h3,h5,h6⟩
     have hrows:∀k,k<=len-> ∃rows:List (List AV),rows.length=k/\ ∀i r,rows[i]? =some r-> ∃us:List Value,W.cells? 0 (a.add (i*P.cellsOf e)) (P.cellsOf e)=some us/\CM (fun _=>False) W r us/\Sh P m e r:=by
      exact R6
     obtain⟨rows,hl,hr⟩:=hrows len (Nat.le_refl _)
     have hsz:∀r∈rows,r.length=P.cellsOf e:=by
      exact Pj
     have hsh:∀r∈rows,Sh P m e r:=by
      intro r hm;obtain⟨i,hi⟩:=List.getElem?_of_mem hm;obtain⟨us,_,_,h5⟩:=hr i r hi;exact h5
     refine⟨[.sl len rows.flatten],CM.cons ?_ (CM.nil _ _),rows,by rw[hl],by omega,fun r hm=>⟨hsh r hm,hsz r hm⟩⟩;exact Oi
   |struct fs=>
    simp only[Bool.and_eq_true]at hp
    obtain⟨xs,m,hm,_,hlen,hxl,hget⟩:=DataW.trod_struct hu h;obtain rfl:m=n:=by omega
    have htile:=hp.2;rw[<- hlen]at htile
    obtain⟨cs,h1,h2⟩:=CS (P:=P) (w:=W) (vs:=vs) (Q:=Sh P m) fs.toList 0 htile (fun f hf=>by
     obtain⟨i,hi⟩:=List.getElem?_of_mem hf;have hi':fs[i]? =some f:=by simpa using hi
     have h3:=hget i f hi';have hil:i<xs.length:=by rw[hxl];exact(Array.getElem?_eq_some_iff.1 hi').1
     have h4:xs[i]? =some xs[i]:=by simp[hil]
     rw[h4]at h3;have hfL:f.type∈L:=by have:=List.all_eq_true.1 hp.1 f hf;simpa using this
     exact ih f.type _ _ hfL h3)
    rw[List.drop_zero]at h1;refine⟨cs,h1,by rw[h1.1,hlen],fun f hf=>?_⟩;have:=(h2 f hf).2
    rwa[Nat.sub_zero]at this
   |_=>simp at hp
theorem LA {L:List TypeId} (hL:wu P L=true) {t:TypeId} (ht:t∈L) {v:Value} {d:DataW H} {p:List MemPlace} (h:DataW.Trod enc P W 0 (fun _=>true) true t v d p):
 ∃n cs,CM (fun _=>False) W cs v.cells.toList/\Sh P n t cs:=by
 obtain⟨n,hn⟩:=h;obtain⟨cs,h1,h2⟩:=Fw hL n t _ _ ht hn;exact⟨n,cs,h1,h2⟩
theorem RC {cs:List AV} {vs:Array Value} (h:CM (fun _=>False) W cs vs.toList):DV.M (fun _=>False) W (.agg cs) (.agg vs):=⟨vs.toList,by simp,h⟩
end
end
section
open Go.RowKit Go.Joins
theorem Ku {n:Nat} {cs:List AV} (h:Sh Tryz.prog n 34 cs):∃xs:List Nat,cs=[aW xs]/\Wd xs:=by
 cases n with
 |zero=>exact h.elim
 |succ n=>
  simp only[Sh,underlying34]at h
  obtain⟨rows,rfl,_,hr⟩:=h
  have key:∀rows:List (List AV),(∀r∈rows,Sh Tryz.prog n 135 r/\r.length=Tryz.prog.cellsOf 135)-> ∃xs:List Nat,rows.length=xs.length/\rows.flatten=(xs.map fun x:Nat=>AV.val (bR x))/\Wd xs:=by
   intro rows
   induction rows with
   |nil=>intro _;exact⟨[],rfl,rfl,fun x hx=>by cases hx⟩
   |cons r rows ih=>
    intro hr;obtain⟨xs,h1,h2,h3⟩:=ih (fun r hm=>hr r (by simp[hm]));have h4:=(hr r (by simp)).1;cases n with
    |zero=>exact h4.elim
    |succ n=>
     simp only[Sh,underlying135]at h4
     obtain⟨i,rfl,hw⟩:=h4;have hb:=bounds_u32 hw;refine⟨i.toNat::xs,by simp[h1],?_,fun x hx=>?_⟩
     ·rw[List.flatten_cons,h2,List.map_cons]
      have:AV.val (.int .u32 i)=AV.val (bR i.toNat):=by unfold bR;congr 2;omega
      rw[this];rfl
     ·rcases List.mem_cons.1 hx with rfl|hx
      ·omega
      ·exact h3 x hx
  obtain⟨xs,h1,h2,h3⟩:=key rows hr;exact⟨xs,by unfold aW;rw[h1,h2],h3⟩
set_option maxRecDepth 100000 in
theorem IX {n:Nat} {cs:List AV} (h:Sh Tryz.prog n 36 cs):∃na xs,cs=aI na xs/\Wd xs:=by
 cases n with
 |zero=>exact h.elim
 |succ n=>
  simp only[Sh,underlying36,List.forall_mem_cons,List.not_mem_nil,false_imp_iff,implies_true,and_true]at h
  obtain⟨hl,h0,h1⟩:=h;rw[show Tryz.prog.cellsOf 36=2 by kernel_rfl]at hl;rw[show Tryz.prog.cellsOf 4=1 by kernel_rfl]at h0;rw[show Tryz.prog.cellsOf 34=1 by kernel_rfl]at h1
  match cs,hl with
  | [c0,c1],_=>
   obtain⟨xs,e1,hw⟩:=Ku h1;cases n with
   |zero=>exact h0.elim
   |succ n=>
    simp only[Sh,underlying4]at h0
    obtain⟨b,e0⟩:=h0
    simp at e0 e1
    subst e0 e1;exact⟨b,xs,rfl,hw⟩
set_option maxRecDepth 100000 in
theorem Qo {n:Nat} {cs:List AV} (h:Sh Tryz.prog n 38 cs):∃na xs nb ys,cs=Ab na xs nb ys/\Wd xs/\Wd ys:=by
 cases n with
 |zero=>exact h.elim
 |succ n=>
  simp only[Sh,underlying38,List.forall_mem_cons,List.not_mem_nil,false_imp_iff,implies_true,and_true]at h
  obtain⟨hl,h0,h1⟩:=h;rw[show Tryz.prog.cellsOf 38=4 by kernel_rfl]at hl;rw[show Tryz.prog.cellsOf 36=2 by kernel_rfl]at h0 h1
  match cs,hl with
  | [c0,c1,c2,c3],_=>
   obtain⟨na,xs,e0,w0⟩:=IX h0;obtain⟨nb,ys,e1,w1⟩:=IX h1;refine⟨na,xs,nb,ys,?_,w0,w1⟩;show [c0,c1,c2,c3]=aI na xs++aI nb ys;rw[<- e0,<- e1];rfl
theorem FT {n:Nat} {cs:List AV} (h:Sh Tryz.prog n 9 cs):∃l:List UInt8,cs=[.val (vL l)]/\l.length<=9223372036854775807:=by
 cases n with
 |zero=>exact h.elim
 |succ n=>
  simp only[Sh,underlying9]at h
  obtain⟨s,rfl,hs⟩:=h;obtain⟨l,rfl⟩:∃l,Bs l=s:=⟨_,No s⟩;refine⟨l,rfl,?_⟩;rw[aF]at hs;unfold maxLen at hs;exact hs
theorem wA {n:Nat} {cs:List AV} (h:Sh Tryz.prog n 3 cs):∃i:Int,cs=[.val (.int .i64 i)]/\ -9223372036854775808<=i/\i<=9223372036854775807:=by
 cases n with
 |zero=>exact h.elim
 |succ n=>
  simp only[Sh,underlying3]at h
  obtain⟨i,rfl,hw⟩:=h;exact⟨i,rfl,bounds_i64 hw⟩
end
inductive Rx where
 |mk (op:Int) (na:Bool) (xs:List Nat) (nb:Bool) (ys:List Nat) (nm:List UInt8) (args:List Rx)
mutual
def aR:Rx->List AV
 | .mk op na xs nb ys nm args=>[.val (.int .i64 op)]++Ab na xs nb ys++[.val (vL nm), .sl args.length (dY args)]
def dY:List Rx->List AV
 | []=>[]
 |x::r=>aR x++dY r
end
def dR (x:Rx):DV:= .agg (aR x)
theorem BW (x:Rx):(aR x).length=7:=by
 obtain⟨op,na,xs,nb,ys,nm,args⟩:=x;rfl
theorem dP:∀(l:List Rx) (i:Nat) (x:Rx),l[i]? =some x-> ∀(j:Nat) (a:AV),(aR x)[j]? =some a->(dY l)[i*7+j]? =some a
 | [],i,x,h,_,_,_=>by simp at h
 |y::l,0,x,h,j,a,ha=>by
  simp at h
  subst h
  simp only[dY,Nat.zero_mul,Nat.zero_add]
  exact Ot
 |y::l,i+1,x,h,j,a,ha=>by
  simp only[dY]
  rw[List.getElem?_append_right (by rw[BW,Nat.add_mul];omega),BW,show(i+1)*7+j-7=i*7+j by rw[Nat.add_mul];omega];exact dP l i x (by simpa using h) j a ha
inductive ls:Rx->Prop
 |mk {op:Int} {na:Bool} {xs:List Nat} {nb:Bool} {ys:List Nat} {nm:List UInt8} {args:List Rx}: -9223372036854775808<=op->op<=9223372036854775807->Wd xs->Wd ys->nm.length<=9223372036854775807->args.length<=9223372036854775807->(∀x∈args,ls x)->ls (.mk op na xs nb ys nm args)
set_option maxRecDepth 100000 in
theorem LB:∀(n:Nat) (cs:List AV),Sh Tryz.prog n 40 cs-> ∃x,cs=aR x/\ls x:=by
 intro n
 induction n using Nat.strongRecOn with
 |_ n ih=>
  intro cs h;cases n with
  |zero=>exact h.elim
  |succ n=>
   simp only[Sh,underlying40,List.forall_mem_cons,List.not_mem_nil,false_imp_iff,implies_true,and_true]at h
   obtain⟨hl,h0,h1,h2,h3⟩:=h;rw[show Tryz.prog.cellsOf 40=7 by kernel_rfl]at hl;rw[show Tryz.prog.cellsOf 3=1 by kernel_rfl]at h0;rw[show Tryz.prog.cellsOf 38=4 by kernel_rfl]at h1;rw[show Tryz.prog.cellsOf 9=1 by kernel_rfl]at h2;rw[show Tryz.prog.cellsOf 28=1 by kernel_rfl]at h3
   match cs,hl with
   | [c0,c1,c2,c3,c4,c5,c6],_=>
    obtain⟨op,e0,b0,b1⟩:=wA h0;obtain⟨na,xs,nb,ys,e1,w0,w1⟩:=Qo h1;obtain⟨nm,e2,hn⟩:=FT h2;have e0:[c0]=[.val (.int .i64 op)]:=e0;have e1:[c1,c2,c3,c4]=Ab na xs nb ys:=e1;have e2:[c5]=[.val (vL nm)]:=e2;have h3:Sh Tryz.prog n 28 [c6]:=h3;cases n with
    |zero=>exact h3.elim
    |succ n=>
     simp only[Sh,underlying28]at h3
     obtain⟨rows,e3,hm,hr⟩:=h3
     have key:∀rows:List (List AV),(∀r∈rows,Sh Tryz.prog n 40 r/\r.length=Tryz.prog.cellsOf 40)-> ∃l:List Rx,rows.length=l.length/\rows.flatten=dY l/\ ∀x∈l,ls x:=by
      intro rows
      induction rows with
      |nil=>intro _;exact⟨[],rfl,rfl,fun x hx=>by cases hx⟩
      |cons r rows ihr=>
       intro hr;obtain⟨l,k1,k2,k3⟩:=ihr (fun r hm=>hr r (by simp[hm]));obtain⟨x,k4,k5⟩:=ih n (by omega) r (hr r (by simp)).1;refine⟨x::l,by simp[k1],by rw[List.flatten_cons,k2,k4];rfl,fun y hy=>?_⟩;rcases List.mem_cons.1 hy with rfl|hy
       ·exact k5
       ·exact k3 y hy
     obtain⟨l,k1,k2,k3⟩:=key rows hr;refine⟨.mk op na xs nb ys nm l,?_, .mk b0 b1 w0 w1 hn (by unfold maxLen at hm;omega) k3⟩;show [c0,c1,c2,c3,c4,c5,c6]=[.val (.int .i64 op)]++Ab na xs nb ys++[.val (vL nm), .sl l.length (dY l)]
     simp at e0 e2 e3
     rw[<- e1,e0,e2,e3,k1,k2];rfl
theorem below_grow (w:World) (k:Nat) (os:Array Obj):Below w.heap.size w (Go.Sort.grow (w.drewN k) os):=by
 refine⟨rfl,rfl,rfl,?_,fun b hb=>?_⟩
 ·show w.heap.size<=(w.heap++os).size
  simp
 ·show(w.heap++os)[b]? =w.heap[b]?
  rw[Array.getElem?_append_left hb]
theorem IP (p:Int):Lib.itoa p=fmt p:=by
 have hdd:∀n:Nat,n≠0->Lib.decDigits n=i8 n:=by
  intro n
  induction n using Nat.strongRecOn with
  |_ n ih=>
   intro h0;rw[eQ,de h0]
   by_cases h:n<10
   ·rw[jX h,Nat.div_eq_of_lt h,cH,Nat.mod_eq_of_lt h];rfl
   ·rw[Bq (by omega),<- eQ,ih (n/10) (by omega) (by omega)]
 unfold Lib.itoa fmt
 by_cases h:p<0
 ·rw[if_pos h,if_neg (by omega),if_pos h,hdd _ (by omega)]
  rfl
 ·rw[if_neg h]
  by_cases h0:p=0
  ·subst h0
   rw[if_pos rfl,show(0:Int).toNat=0 from rfl,eQ,jX (by decide)];rfl
  ·rw[if_neg h0,if_neg h,show p.toNat=p.natAbs by omega,hdd _ (by omega)]
   rfl
theorem Au {p:Int} (h0: -9223372036854775808<=p) (h1:p<=9223372036854775807):aa Tryz.prog 101 [dN .i64 p] (.one (dL (fmt p))):=by
 refine⟨aA func101 rfl rfl,fun S w vs hS hv=>?_⟩
 match vs,hv with
 | [v],⟨h,_⟩=>
  obtain rfl:=a6 h;refine(Tryz.internal_strconv_Itoa p h0 h1 w hS.1.here).mono ?_;rintro e w' ⟨rfl,k,os,rfl⟩;refine⟨_,rfl,?_,below_grow _ _ _⟩;rw[IP];exact AV.M.val rfl
theorem D2 {p:Int} (h0: -9223372036854775808<=p) (h1:p<=9223372036854775807):aa Tryz.prog 60 [dN .i64 p] (.one (dL (fmt p))):=by
 refine kV func60 ?_;refine kC (Au h0 h1) ?_;exact ap
inductive B4 where
 |add
 |sub
 |mul
 |div
def B4.code:B4->Int
 | .add=>4
 | .sub=>5
 | .mul=>6
 | .div=>7
inductive Ex where
 |num (v:Rat) (u:List UInt8)
 |nam (s:List UInt8)
 |neg (a:Ex)
 |bin (k:B4) (a b:Ex)
def rx:Ex->Rx
 | .num v u=> .mk 1 (decide (v.num<0)) (digs v.num.natAbs) (decide ((v.den:Int)<0)) (digs (v.den:Int).natAbs) u []
 | .nam s=> .mk 2 false [] false [] s []
 | .neg a=> .mk 3 false [] false [] [] [rx a]
 | .bin k a b=> .mk k.code false [] false [] [] [rx a,rx b]
def aE (e:Ex):List AV:=aR (rx e)
def dE (e:Ex):DV:= .agg (aE e)
theorem n6 (a:Ex):aE (.neg a)=[.val (.int .i64 3)]++iP++[.val (vL []), .sl 1 (aE a)]:=by
 show [.val (.int .i64 3)]++Ab false [] false []++[.val (vL []), .sl 1 (aR (rx a)++[])]=_;rw[List.append_nil];rfl
theorem iY (k:B4) (a b:Ex):aE (.bin k a b)=[.val (.int .i64 k.code)]++iP++[.val (vL []), .sl 2 (aE a++aE b)]:=by
 show [.val (.int .i64 k.code)]++Ab false [] false []++[.val (vL []), .sl 2 (aR (rx a)++(aR (rx b)++[]))]=_;rw[List.append_nil];rfl
abbrev EL:=List (List UInt8 × (Rat × Int))
def mb:EL->List AV
 | []=>[]
 |x::r=>lY x.2.1 x.2.2++mb r
def iv (l:EL):DV:= .leaf (.sl l.length (l.map fun x=>AV.val (vL x.1)))
def jF (l:EL):DV:= .leaf (.sl l.length (mb l))
def bt (l:EL) (s:List UInt8):Option (Rat × Int):=match l with
 | []=>none
 |x::r=>if x.1=s then some x.2 else bt r s
theorem N4 {l:EL} {i:Nat} {x:List UInt8 × (Rat × Int)} (h:l[i]? =some x):∀(j:Nat) (a:AV),[AV.val (vL x.1)][j]? =some a->(l.map fun x=>AV.val (vL x.1))[i*1+j]? =some a:=by
 exact O2
theorem Io:∀{l:EL} {i:Nat} {x:List UInt8 × (Rat × Int)},l[i]? =some x-> ∀(j:Nat) (a:AV),(lY x.2.1 x.2.2)[j]? =some a->(mb l)[i*5+j]? =some a
 | [],i,x,h,_,_,_=>by simp at h
 |y::l,0,x,h,j,a,ha=>by
  simp at h
  subst h
  simp only[mb,Nat.zero_mul,Nat.zero_add]
  exact Ot
 |y::l,i+1,x,h,j,a,ha=>by
  simp only[mb]
  have h5:(lY y.2.1 y.2.2).length=5:=rfl;rw[List.getElem?_append_right (by rw[h5,Nat.add_mul];omega),h5,show(i+1)*5+j-5=i*5+j by rw[Nat.add_mul];omega];exact Io (l:=l) (by simpa using h) j a ha
def eD (l:EL):Prop:=∀(i j:Nat) (a b:List UInt8 × (Rat × Int)),i<j->l[i]? =some a->l[j]? =some b->Op.bytesLess a.1 b.1=true
theorem jk:∀a:List UInt8,Op.bytesLess a a=false
 | []=>rfl
 |x::a=>by simp[Op.bytesLess,jk a]
theorem fc:∀{a b c:List UInt8},Op.bytesLess a b=true->Op.bytesLess b c=true->Op.bytesLess a c=true
 |_,_,[],_,h=>by simp[Op.bytesLess]at h
 | [],_,_::_,_,_=>rfl
 |_::_,[],_::_,h,_=>by simp[Op.bytesLess]at h
 |x::a,y::b,z::c,h,k=>by
  simp only[Op.bytesLess,Bool.or_eq_true,Bool.and_eq_true,decide_eq_true_eq,beq_iff_eq]at h k ⊢
  rcases h with h| ⟨rfl,h⟩
  ·rcases k with k| ⟨rfl,k⟩
   ·exact .inl (UInt8.lt_trans h k)
   ·exact .inl h
  ·rcases k with k| ⟨rfl,k⟩
   ·exact .inl k
   ·exact .inr ⟨rfl,fc h k⟩
theorem oK:∀{a b:List UInt8},Op.bytesLess a b=false->Op.bytesLess b a=false->a=b
 | [],[],_,_=>rfl
 | [],_::_,h,_=>by simp[Op.bytesLess]at h
 |_::_,[],_,h=>by simp[Op.bytesLess]at h
 |x::a,y::b,h,k=>by
  simp only[Op.bytesLess,Bool.or_eq_false_iff,Bool.and_eq_false_iff,decide_eq_false_iff_not,beq_eq_false_iff_ne]at h k
  have h1:x=y:=by
   rcases Nat.lt_trichotomy x.toNat y.toNat with h2|h2|h2
   ·exact absurd (UInt8.lt_iff_toNat_lt.2 h2) h.1
   ·exact UInt8.toNat_inj.1 h2
   ·exact absurd (UInt8.lt_iff_toNat_lt.2 h2) k.1
  subst h1;rw[oK (h.2.resolve_left (fun e=>e rfl)) (k.2.resolve_left (fun e=>e rfl))]
theorem uM {t:TypeId} {x y:Operand} {a b:List UInt8}:j6 .lss t x y (vL a) (vL b)=some (.bool (Op.bytesLess a b)):=by
 show some (Value.bool (Op.bytesLess (Bs a).toList (Bs b).toList))=_;rw[fB,fB]
theorem xf (a:List UInt8):aa Tryz.prog 294 [dL a] (.one (dB false)):=by
 refine kU func294 ?_;exact Nt
theorem zo (a:List UInt8):aa Tryz.prog 248 [dL a] (.one (dB false)):=by
 refine kU func248 ?_;exact Nt
theorem LT (a b:List UInt8):aa Tryz.prog 247 [dL a,dL b] (.one (dB (Op.bytesLess a b))):=by
 refine kU func247 ?_;refine gL ?_;refine kC (xf a) ?_
 iterate 8 refine kO ?_
 refine aq rfl rfl rfl rfl rfl rfl rfl (uM (a:=a) (b:=b)) ?_;exact ap
theorem Lo (l:EL) (hs:eD l) (hl:l.length<=1000000) (s:List UInt8):∃(i:Nat) (b:Bool),aa Tryz.prog 181 [iv l,dL s] (.tup [dN .i64 i,dB b]) /\
 (b=true-> ∃x,l[i]? =some x/\x.1=s)/\(b=false-> ∀x∈l,x.1≠s):=by
 obtain⟨p,hp1,hp2,hp3⟩:∃p,p<=l.length/\(∀(q:Nat) x,q<p->l[q]? =some x->Op.bytesLess x.1 s=true)/\(∀(q:Nat) x,p<=q->l[q]? =some x->Op.bytesLess x.1 s=false):=by
  have:∀k,k<=l.length-> ∃p,p<=k/\(∀(q:Nat) x,q<p->l[q]? =some x->Op.bytesLess x.1 s=true)/\(∀(q:Nat) x,p<=q->q<k->l[q]? =some x->Op.bytesLess x.1 s=false):=by
   intro k
   induction k with
   |zero=>intro _;exact⟨0,Nat.le_refl _,fun q x h=>absurd h (Nat.not_lt_zero _),fun q x _ h=>absurd h (Nat.not_lt_zero _)⟩
   |succ k ih=>
    intro hk;obtain⟨p,h1,h2,h3⟩:=ih (by omega);have hx:l[k]? =some (l[k]'(by omega)):=by simp
    by_cases hpk:p=k
    ·cases hb:Op.bytesLess (l[k]'(by omega)).1 s
     ·exact⟨k,by omega,fun q x hq=>h2 q x (by omega),fun q x h4 h5 h6=>by
       obtain rfl:q=k:=by omega
       rw[hx]at h6;cases h6;exact hb⟩
     ·exact⟨k+1,by omega,fun q x hq h6=>by
       by_cases e:q=k
       ·subst e;rw[hx]at h6;cases h6;exact hb
       ·exact h2 q x (by omega) h6,fun q x h4 h5=>by omega⟩
    ·refine⟨p,by omega,h2,fun q x h4 h5 h6=>?_⟩
     by_cases e:q=k
     ·subst e
      have hpx:l[p]? =some (l[p]'(by omega)):=by simp
      have h7:=h3 p _ (Nat.le_refl _) (by omega) hpx;cases hb:Op.bytesLess x.1 s
      ·rfl
      ·have h8:=hs p q _ _ (by omega) hpx h6
       rw[fc h8 hb]at h7;cases h7
     ·exact h3 q x h4 (by omega) h6
  obtain⟨p,h1,h2,h3⟩:=this l.length (Nat.le_refl _);exact⟨p,h1,h2,fun q x h4 h5=>h3 q x h4 (List.getElem?_eq_some_iff.1 h5).1 h5⟩
 have done:∀b,(∀x,l[p]? =some x->decide (x.1=s)=b)->(l[p]? =none->b=false)->aa Tryz.prog 181 [iv l,dL s] (.tup [dN .i64 p,dB b]):=by
  intro b hb hb';refine kV func181 ?_
  refine ay (Nat × Nat) (fun x=>x.1<=p/\p<=x.2/\x.2<=l.length) (fun x=>⟨[(0, .d (iv l)),(1, .d (dL s)),(4, .d (dN .i64 0)),(5, .d (dB false)),(6, .d (dN .i64 l.length)),(7, .d (dN .i64 x.1)),(8, .d (dN .i64 x.2))],[]⟩) (fun x=>x.2-x.1) (0,l.length) ⟨Nat.zero_le _,hp1,Nat.le_refl _⟩
   kw ?_
  rintro⟨i,j⟩ ⟨h1,h2,h3⟩;dsimp only at h1 h2 h3 ⊢;refine kI ?_
  refine kO2 ?_
  by_cases hij:i<j
  ·exact Vv
  ·have e1:i=p:=by omega
   have e2:j=p:=by omega
   subst e2;subst e1;refine kE ?_;refine At ?_;refine kI ?_
   refine kO3 ?_
   by_cases hil:i<l.length
   ·have hx:l[i]? =some l[i]:=by simp[hil]
    refine kT ?_;refine Ub ?_
    refine kO2 ?_
    have hb0:=hb _ hx
    by_cases e:l[i].1=s
    ·rw[decide_eq_true e]at hb0
     subst hb0;refine aq rfl rfl rfl rfl rfl rfl rfl (bv (a:=l[i].1) (b:=s) e) ?_;exact ap
    ·rw[decide_eq_false e]at hb0
     subst hb0;exact OO
   ·have hn:=hb' (List.getElem?_eq_none (by omega))
    subst hn;refine kE ?_;exact ap
 cases hx:l[p]? with
 |none=>
  refine⟨p,false,done false (fun x h=>by rw[hx]at h;cases h) (fun _=>rfl),fun h=>(by cases h),fun _ x hm e=>?_⟩;obtain⟨q,hq⟩:=List.getElem?_of_mem hm;have h1:=List.getElem?_eq_none_iff.1 hx;have h2:=(List.getElem?_eq_some_iff.1 hq).1;have:=hp2 q x (by omega) hq;rw[e,jk]at this;cases this
 |some y=>
  by_cases e:y.1=s
  ·exact⟨p,true,done true (fun x h=>by rw[hx]at h;cases h;exact decide_eq_true e) (fun h=>by simp[hx]at h),fun _=>⟨y,hx,e⟩,fun h=>by cases h⟩
  ·refine⟨p,false,done false (fun x h=>by rw[hx]at h;cases h;exact decide_eq_false e) (fun h=>by simp[hx]at h),fun h=>(by cases h),fun _ x hm ex=>?_⟩
   obtain⟨q,hq⟩:=List.getElem?_of_mem hm;rcases Nat.lt_trichotomy q p with h|h|h
   ·have:=hp2 q x h hq
    rw[ex,jk]at this;cases this
   ·subst h;rw[hx]at hq;cases hq;exact e ex
   ·have h1:=hs p q _ _ h hx hq
    have h2:=hp3 p y (Nat.le_refl _) hx;rw[ex,h2]at h1;cases h1
theorem CQ {l:EL} (hs:eD l):∀{i:Nat} {x:List UInt8 × (Rat × Int)},l[i]? =some x->bt l x.1=some x.2:=by
 induction l with
 |nil=>intro i x h;simp at h
 |cons y l ih=>
  intro i x h
  simp only[bt]
  cases i with
  |zero=>simp at h;subst h;rw[if_pos rfl]
  |succ i=>
   have h':l[i]? =some x:=by simpa using h
   have h1:=hs 0 (i+1) y x (by omega) rfl h;rw[if_neg (fun e=>by rw[e,jk]at h1;cases h1)];exact ih (fun a b u v hab hu hv=>hs (a+1) (b+1) u v (by omega) (by simpa using hu) (by simpa using hv)) h'
theorem ER {l:EL} {s:List UInt8} (h:∀x∈l,x.1≠s):bt l s=none:=by
 induction l with
 |nil=>rfl
 |cons y l ih=>simp only[bt];rw[if_neg (h y (by simp)),ih (fun x hx=>h x (by simp[hx]))]
def Mf:B4->Rat->Int->Rat->Int->QR
 | .add,a,p,b,p'=>tT a p b p'
 | .sub,a,p,b,p'=>tT a p (-b) p'
 | .mul,a,p,b,p'=>Am a p b p'
 | .div,a,p,b,p'=>Az a p b p'
def ct (env:List UInt8->Option (Rat × Int)):Ex->QR
 | .num v u=>if u=[]then .ok (v,0)else match RU u with
  |some q=> .ok (v*q,1)
  |none=> .error 8
 | .nam s=>match env s with
  |some x=> .ok x
  |none=> .error 4
 | .neg a=>match ct env a with
  | .ok x=> .ok (-x.1,x.2)
  | .error e=> .error e
 | .bin k a b=>match ct env a with
  | .error e=> .error e
  | .ok x=>match ct env b with
   | .error e=> .error e
   | .ok y=>Mf k x.1 x.2 y.1 y.2
def nI:Ex->Nat
 | .num _ _=>9
 | .nam _=>400
 | .neg a=>nI a
 | .bin _ a b=>nI a+nI b+1
def zT:Ex->Prop
 | .num v _=>dO 8 v
 | .nam _=>True
 | .neg a=>zT a
 | .bin _ a b=>zT a/\zT b
theorem MF {k:B4} {a b:Rat} {p p' z:Int} (h:Mf k a p b p'= .error z):z=6∨z=8:=by
 cases k<;>simp only[Mf,tT,Am,Az]at h
 ·exact NS
 ·exact NS
 ·exact NS
 ·split at h
  ·cases h;exact .inl rfl
  ·exact NS
theorem eC {env:List UInt8->Option (Rat × Int)}:∀{e:Ex} {z:Int},ct env e= .error z->z≠0
 | .num v u,z,h=>by
  simp only[ct]at h
  split at h
  ·cases h
  ·split at h<;>cases h
   decide
 | .nam s,z,h=>by
  simp only[ct]at h
  split at h<;>cases h
  decide
 | .neg a,z,h=>by
  simp only[ct]at h
  split at h
  ·cases h
  ·rename_i e he;cases h;exact eC he
 | .bin k a b,z,h=>by
  simp only[ct]at h
  split at h
  ·rename_i e he;cases h;exact eC he
  ·split at h
   ·rename_i e he;cases h;exact eC he
   ·rcases MF h with rfl|rfl <;>decide
def qS (env:List UInt8->Option (Rat × Int)):Prop:=∀s x,env s=some x->dO 400 x.1/\pR x.2=true
theorem P3 {k:B4} {i j:Nat} {a b:Rat} {p p':Int} {x:Rat × Int} (h1:dO i a) (h2:dO j b) (hp:pR p=true) (h:Mf k a p b p'= .ok x):dO (i+j+1) x.1/\pR x.2=true:=by
 cases k<;>simp only[Mf,tT,Am,Az]at h
 ·split at h<;>cases h;exact⟨h1.add h2,hp⟩
 ·split at h<;>cases h;exact⟨h1.add h2.neg,hp⟩
 ·split at h<;>cases h;exact⟨(h1.mul h2).mono (by omega),by assumption⟩
 ·split at h
  ·cases h
  ·split at h<;>cases h
   exact⟨(h1.div h2 (by assumption)).mono (by omega),by assumption⟩
theorem jw {env:List UInt8->Option (Rat × Int)} (henv:qS env):∀{e:Ex} {x:Rat × Int},zT e->ct env e= .ok x->dO (nI e) x.1/\pR x.2=true
 | .num v u,x,ho,h=>by
  simp only[ct]at h
  have ho:dO 8 v:=ho
  split at h
  ·cases h;exact⟨ho.mono (show 8<=9 by decide),rfl⟩
  ·split at h
   ·rename_i q hq
    cases h;exact⟨ho.mul (Jl hq).1,rfl⟩
   ·cases h
 | .nam s,x,_,h=>by
  simp only[ct]at h
  split at h
  ·rename_i y hy;cases h;exact henv s _ hy
  ·cases h
 | .neg a,x,ho,h=>by
  simp only[ct]at h
  split at h
  ·rename_i y hy
   cases h;have:=jw henv (e:=a) ho hy;exact⟨this.1.neg,this.2⟩
  ·cases h
 | .bin k a b,x,ho,h=>by
  simp only[ct]at h
  split at h
  ·cases h
  ·rename_i y hy
   split at h
   ·cases h
   ·rename_i z hz
    have h1:=jw henv ho.1 hy;have h2:=jw henv ho.2 hz;exact P3 h1.1 h2.1 h1.2 h
theorem sX {l:EL} (hv:∀x∈l,dO 400 x.2.1/\pR x.2.2=true):qS (bt l):=by
 intro s x h
 induction l with
 |nil=>cases h
 |cons y l ih=>
  simp only[bt]at h
  split at h
  ·cases h;exact hv y (by simp)
  ·exact ih (fun x hx=>hv x (by simp[hx])) h
theorem Ea (a:Rat):a+((0:Int):Rat)=a:=Rat.add_zero a
theorem Kv:dO 1 ((0:Int):Rat):=⟨.small (by decide), .small (by decide)⟩
section
variable {l:EL}
theorem uf {v:Rat} {u:List UInt8} (h:dO 8 v):aa Tryz.prog 133 [dE (.num v u),iv l,jF l] (ew (ct (bt l) (.num v u))):=by
 by_cases hu:u=[]
 ·rw[show ct (bt l) (.num v u)= .ok (v,0) from if_pos hu]
  refine OU ?_;refine aq rfl rfl rfl rfl rfl rfl rfl (bv (a:=u) (b:=[]) hu) ?_;refine kW ?_;refine GO ?_;refine ae (m4 h Kv (by decide) (Ea v)) rfl rfl rfl rfl rfl rfl rfl ?_;exact ap
 ·have c1:=xQ u
  unfold vz at c1;cases hf:RU u with
  |none=>
   rw[hf]at c1;rw[show ct (bt l) (.num v u)= .error 8 by simp only[ct,if_neg hu,hf]];refine OU ?_;refine Sw ?_;exact NU
  |some q=>
   rw[hf]at c1;rw[show ct (bt l) (.num v u)= .ok (v*q,1) by simp only[ct,if_neg hu,hf]];refine OU ?_;refine Sw ?_;refine io ?_;refine ae (q7 h (Jl hf).1 (by decide) rfl) rfl rfl rfl rfl rfl rfl rfl ?_;exact ap
theorem ue {s:List UInt8} (hs:eD l) (hl:l.length<=1000000) (hv:∀x∈l,dO 400 x.2.1/\pR x.2.2=true):aa Tryz.prog 133 [dE (.nam s),iv l,jF l] (ew (ct (bt l) (.nam s))):=by
 obtain⟨i,b,c1,h1,h2⟩:=Lo l hs hl s;cases b with
 |false=>
  rw[show ct (bt l) (.nam s)= .error 4 by simp only[ct,ER (h2 rfl)]];refine kU func133 ?_;exact NU
 |true=>
  obtain⟨x,hx,e⟩:=h1 rfl;have hi:i<l.length:=(List.getElem?_eq_some_iff.1 hx).1
  have hsz:=(hv x (List.mem_of_getElem? hx)).1;rw[show ct (bt l) (.nam s)= .ok x.2 by simp only[ct,<- e,CQ hs hx]];refine kU func133 ?_;refine io ?_;refine aG (i:=i) (cs':=lY x.2.1 x.2.2) hi (Io hx) (Nat.zero_lt_succ 4) rfl rfl rfl rfl rfl rfl rfl rfl ?_
  refine kO2 ?_
  refine GO ?_;refine ae (m4 hsz Kv (by decide) (Ea x.2.1)) rfl rfl rfl rfl rfl rfl rfl ?_
  refine kO2 ?_
  refine aG (i:=i) (cs':=lY x.2.1 x.2.2) hi (Io hx) (Nat.zero_lt_succ 4) rfl rfl rfl rfl rfl rfl rfl rfl ?_;exact ap
def ab (o:Int) (na:Bool) (xs:List Nat) (nb:Bool) (ys:List Nat) (nm:List UInt8) (n:Nat) (cs:List AV):List AV:=[.val (.int .i64 o), .val (.bool na),aW xs, .val (.bool nb),aW ys, .val (vL nm), .sl n cs]
theorem aY (a:Ex):∃o na xs nb ys nm n cs,aE a=ab o na xs nb ys nm n cs:=by
 unfold aE;generalize rx a=x;exact Of
theorem My (a:List AV):∀(j:Nat) (x:AV),a[j]? =some x->a[0*7+j]? =some x:=fun j x h=>by rw[Nat.zero_mul,Nat.zero_add];exact h
theorem m5 (a b:List AV):∀(j:Nat) (x:AV),a[j]? =some x->(a++b)[0*7+j]? =some x:=fun j x h=>by
 rw[Nat.zero_mul,Nat.zero_add,List.getElem?_append_left (List.getElem?_eq_some_iff.1 h).1];exact h
theorem mx {a:List AV} (b:List AV) (ha:a.length=7):∀(j:Nat) (x:AV),b[j]? =some x->(a++b)[1*7+j]? =some x:=fun j x h=>by
 rw[List.getElem?_append_right (by rw[ha];omega),ha,show 1*7+j-7=j by omega];exact h
theorem tC {a:Ex} (henv:qS (bt l)) (ho:zT a) (hw:nI a<=1000000) (ih:aa Tryz.prog 133 [dE a,iv l,jF l] (ew (ct (bt l) a))):aa Tryz.prog 133 [dE (.neg a),iv l,jF l] (ew (ct (bt l) (.neg a))):=by
 obtain⟨o1,na1,xs1,nb1,ys1,nm1,n1,cs1,hA⟩:=aY a;refine Uo ?_;rw[show dE a= .agg (ab o1 na1 xs1 nb1 ys1 nm1 n1 cs1) from congrArg DV.agg hA]at ih;cases ha:ct (bt l) a with
 |error z=>
  have hz:=eC ha;rw[ha]at ih;rw[show ct (bt l) (.neg a)= .error z by simp only[ct,ha]];refine U4 ?_;refine IZ ?_;refine kW ?_;exact NZ
 |ok x=>
  obtain⟨hx,hp⟩:=jw henv ho ha;rw[ha]at ih;rw[show ct (bt l) (.neg a)= .ok (-x.1,x.2) by simp only[ct,ha]];refine U4 ?_;refine IZ ?_;refine kW ?_;refine kQ (ih) ?_;refine Vz ?_;refine bY ⟨[(1, .d (iv l)),(2, .d (jF l)),(3, .box 0 0),(6, .box 1 0),(7, .d (dN .i64 0)),(12, .own 5001 1 5 92),(72, .d (.leaf (.sl 1 (ab o1 na1 xs1 nb1 ys1 nm1 n1 cs1)))),(73, .d (dN .i64 1)),(74, .d (dN .i64 1))],[(0,some ([.val (.int .i64 3)]++iP++[.val (vL []), .sl 1 (ab o1 na1 xs1 nb1 ys1 nm1 n1 cs1)])),(1,some ic),(5001,some (lY x.1 x.2))]⟩ kw ?_;refine kW ?_;refine sh (i:=0) (by decide) rfl rfl rfl rfl rfl rfl rfl rfl rfl ?_;refine kW ?_;refine ae (lK hx (by omega)) rfl rfl rfl rfl rfl rfl rfl ?_;exact ap
theorem ua {a b:Ex} (henv:qS (bt l)) (ho:zT a) (ho':zT b) (hw:nI a+nI b<=1000000) (ih:aa Tryz.prog 133 [dE a,iv l,jF l] (ew (ct (bt l) a))) (ih':aa Tryz.prog 133 [dE b,iv l,jF l] (ew (ct (bt l) b))):aa Tryz.prog 133 [dE (.bin .add a b),iv l,jF l] (ew (ct (bt l) (.bin .add a b))):=by
 obtain⟨o1,na1,xs1,nb1,ys1,nm1,n1,cs1,hA⟩:=aY a;obtain⟨o2,na2,xs2,nb2,ys2,nm2,n2,cs2,hB⟩:=aY b;rw[show dE (.bin .add a b)= .agg ([.val (.int .i64 (B4.add).code)]++iP++[.val (vL []), .sl 2 (aE a++aE b)]) from congrArg DV.agg (iY .add a b),hA,hB];rw[show dE a= .agg (ab o1 na1 xs1 nb1 ys1 nm1 n1 cs1) from congrArg DV.agg hA]at ih;rw[show dE b= .agg (ab o2 na2 xs2 nb2 ys2 nm2 n2 cs2) from congrArg DV.agg hB]at ih';cases ha:ct (bt l) a with
 |error z=>
  have hz:=eC ha;rw[ha]at ih;rw[show ct (bt l) (.bin .add a b)= .error z by simp only[ct,ha]];refine QN ?_;refine SA ?_;exact NZ
 |ok x=>
  obtain⟨hx,hpx⟩:=jw henv ho ha;rw[ha]at ih;cases hb:ct (bt l) b with
  |error z=>
   have hz:=eC hb;rw[hb]at ih';rw[show ct (bt l) (.bin .add a b)= .error z by simp only[ct,ha,hb]];refine QN ?_;refine NQ ?_;refine Tt ?_;exact sv
  |ok y=>
   obtain⟨hy,hpy⟩:=jw henv ho' hb;rw[hb]at ih';have hR:ct (bt l) (.bin .add a b)=Mf .add x.1 x.2 y.1 y.2:=by simp only[ct,ha,hb]
   rw[hR];show aa Tryz.prog _ _ (ew (tT x.1 x.2 y.1 y.2));have c:=yG hx hy (by omega) hpx (p':=y.2);cases hr:tT x.1 x.2 y.1 y.2 with
   |error z=>
    exact NJ
   |ok z=>
    exact NJ
theorem t7 {a b:Ex} (henv:qS (bt l)) (ho:zT a) (ho':zT b) (hw:nI a+nI b<=1000000) (ih:aa Tryz.prog 133 [dE a,iv l,jF l] (ew (ct (bt l) a))) (ih':aa Tryz.prog 133 [dE b,iv l,jF l] (ew (ct (bt l) b))):aa Tryz.prog 133 [dE (.bin .sub a b),iv l,jF l] (ew (ct (bt l) (.bin .sub a b))):=by
 obtain⟨o1,na1,xs1,nb1,ys1,nm1,n1,cs1,hA⟩:=aY a;obtain⟨o2,na2,xs2,nb2,ys2,nm2,n2,cs2,hB⟩:=aY b;rw[show dE (.bin .sub a b)= .agg ([.val (.int .i64 (B4.sub).code)]++iP++[.val (vL []), .sl 2 (aE a++aE b)]) from congrArg DV.agg (iY .sub a b),hA,hB];rw[show dE a= .agg (ab o1 na1 xs1 nb1 ys1 nm1 n1 cs1) from congrArg DV.agg hA]at ih;rw[show dE b= .agg (ab o2 na2 xs2 nb2 ys2 nm2 n2 cs2) from congrArg DV.agg hB]at ih';cases ha:ct (bt l) a with
 |error z=>
  have hz:=eC ha;rw[ha]at ih;rw[show ct (bt l) (.bin .sub a b)= .error z by simp only[ct,ha]];refine Q3 ?_;refine SA ?_;exact NZ
 |ok x=>
  obtain⟨hx,hpx⟩:=jw henv ho ha;rw[ha]at ih;cases hb:ct (bt l) b with
  |error z=>
   have hz:=eC hb;rw[hb]at ih';rw[show ct (bt l) (.bin .sub a b)= .error z by simp only[ct,ha,hb]];refine Q3 ?_;refine NQ ?_;refine Sp ?_;exact sv
  |ok y=>
   obtain⟨hy,hpy⟩:=jw henv ho' hb;rw[hb]at ih';have hR:ct (bt l) (.bin .sub a b)=Mf .sub x.1 x.2 y.1 y.2:=by simp only[ct,ha,hb]
   rw[hR];show aa Tryz.prog _ _ (ew (tT x.1 x.2 (-y.1) y.2));have c:=yG hx hy.neg (by omega) hpx (p':=y.2);cases hr:tT x.1 x.2 (-y.1) y.2 with
   |error z=>
    exact DF
   |ok z=>
    exact DF
theorem tz {a b:Ex} (henv:qS (bt l)) (ho:zT a) (ho':zT b) (hw:nI a+nI b<=1000000) (ih:aa Tryz.prog 133 [dE a,iv l,jF l] (ew (ct (bt l) a))) (ih':aa Tryz.prog 133 [dE b,iv l,jF l] (ew (ct (bt l) b))):aa Tryz.prog 133 [dE (.bin .mul a b),iv l,jF l] (ew (ct (bt l) (.bin .mul a b))):=by
 obtain⟨o1,na1,xs1,nb1,ys1,nm1,n1,cs1,hA⟩:=aY a;obtain⟨o2,na2,xs2,nb2,ys2,nm2,n2,cs2,hB⟩:=aY b;rw[show dE (.bin .mul a b)= .agg ([.val (.int .i64 (B4.mul).code)]++iP++[.val (vL []), .sl 2 (aE a++aE b)]) from congrArg DV.agg (iY .mul a b),hA,hB];rw[show dE a= .agg (ab o1 na1 xs1 nb1 ys1 nm1 n1 cs1) from congrArg DV.agg hA]at ih;rw[show dE b= .agg (ab o2 na2 xs2 nb2 ys2 nm2 n2 cs2) from congrArg DV.agg hB]at ih';cases ha:ct (bt l) a with
 |error z=>
  have hz:=eC ha;rw[ha]at ih;rw[show ct (bt l) (.bin .mul a b)= .error z by simp only[ct,ha]];refine Rt ?_;refine SA ?_;exact NZ
 |ok x=>
  obtain⟨hx,hpx⟩:=jw henv ho ha;rw[ha]at ih;cases hb:ct (bt l) b with
  |error z=>
   have hz:=eC hb;rw[hb]at ih';rw[show ct (bt l) (.bin .mul a b)= .error z by simp only[ct,ha,hb]];refine Rt ?_;refine NQ ?_;refine Sm ?_;exact sv
  |ok y=>
   obtain⟨hy,hpy⟩:=jw henv ho' hb;rw[hb]at ih';have hR:ct (bt l) (.bin .mul a b)=Mf .mul x.1 x.2 y.1 y.2:=by simp only[ct,ha,hb]
   rw[hR];show aa Tryz.prog _ _ (ew (Am x.1 x.2 y.1 y.2));have c:=Jc hx hy (by omega) hpx hpy;cases hr:Am x.1 x.2 y.1 y.2 with
   |error z=>
    exact PV
   |ok z=>
    exact PV
theorem t8 {a b:Ex} (henv:qS (bt l)) (ho:zT a) (ho':zT b) (hw:nI a+nI b<=1000000) (ih:aa Tryz.prog 133 [dE a,iv l,jF l] (ew (ct (bt l) a))) (ih':aa Tryz.prog 133 [dE b,iv l,jF l] (ew (ct (bt l) b))):aa Tryz.prog 133 [dE (.bin .div a b),iv l,jF l] (ew (ct (bt l) (.bin .div a b))):=by
 obtain⟨o1,na1,xs1,nb1,ys1,nm1,n1,cs1,hA⟩:=aY a;obtain⟨o2,na2,xs2,nb2,ys2,nm2,n2,cs2,hB⟩:=aY b;rw[show dE (.bin .div a b)= .agg ([.val (.int .i64 (B4.div).code)]++iP++[.val (vL []), .sl 2 (aE a++aE b)]) from congrArg DV.agg (iY .div a b),hA,hB];rw[show dE a= .agg (ab o1 na1 xs1 nb1 ys1 nm1 n1 cs1) from congrArg DV.agg hA]at ih;rw[show dE b= .agg (ab o2 na2 xs2 nb2 ys2 nm2 n2 cs2) from congrArg DV.agg hB]at ih';cases ha:ct (bt l) a with
 |error z=>
  have hz:=eC ha;rw[ha]at ih;rw[show ct (bt l) (.bin .div a b)= .error z by simp only[ct,ha]];refine Qf ?_;refine SA ?_;exact NZ
 |ok x=>
  obtain⟨hx,hpx⟩:=jw henv ho ha;rw[ha]at ih;cases hb:ct (bt l) b with
  |error z=>
   have hz:=eC hb;rw[hb]at ih';rw[show ct (bt l) (.bin .div a b)= .error z by simp only[ct,ha,hb]];refine Qf ?_;refine NQ ?_;refine Su ?_;exact sv
  |ok y=>
   obtain⟨hy,hpy⟩:=jw henv ho' hb;rw[hb]at ih';have hR:ct (bt l) (.bin .div a b)=Mf .div x.1 x.2 y.1 y.2:=by simp only[ct,ha,hb]
   rw[hR];show aa Tryz.prog _ _ (ew (Az x.1 x.2 y.1 y.2));have c:=HG hx hy (by omega) hpx hpy;cases hr:Az x.1 x.2 y.1 y.2 with
   |error z=>
    exact Gu
   |ok z=>
    exact Gu
end
theorem dr {l:EL} (hs:eD l) (hl:l.length<=1000000) (hv:∀x∈l,dO 400 x.2.1/\pR x.2.2=true):∀e,zT e->nI e<=1000000->aa Tryz.prog 133 [dE e,iv l,jF l] (ew (ct (bt l) e))
 | .num _ _,ho,_=>uf ho
 | .nam _,_,_=>ue hs hl hv
 | .neg a,ho,hw=>tC (sX hv) ho hw (dr hs hl hv a ho hw)
 | .bin .add a b,ho,hw=>by
  have hw':nI a+nI b+1<=1000000:=hw;exact ua (sX hv) ho.1 ho.2 (by omega) (dr hs hl hv a ho.1 (by omega)) (dr hs hl hv b ho.2 (by omega))
 | .bin .sub a b,ho,hw=>by
  have hw':nI a+nI b+1<=1000000:=hw;exact t7 (sX hv) ho.1 ho.2 (by omega) (dr hs hl hv a ho.1 (by omega)) (dr hs hl hv b ho.2 (by omega))
 | .bin .mul a b,ho,hw=>by
  have hw':nI a+nI b+1<=1000000:=hw;exact tz (sX hv) ho.1 ho.2 (by omega) (dr hs hl hv a ho.1 (by omega)) (dr hs hl hv b ho.2 (by omega))
 | .bin .div a b,ho,hw=>by
  have hw':nI a+nI b+1<=1000000:=hw;exact t8 (sX hv) ho.1 ho.2 (by omega) (dr hs hl hv a ho.1 (by omega)) (dr hs hl hv b ho.2 (by omega))
section
variable {l:EL}
end
section
variable {P:Program} {T:TypeId->Option Ty} {n:Nat} {ops:Array Oper} {id:Nat} {draw:Bool} {K:AS->Prop} {s:AS} {k:Nat} {o:Oper} {os:List Oper} {fps:List FP}
theorem PT {x y:Operand} {ts:Array TypeId} {a b m:Int} (hm:max a b=m) (h1:gd ops s o=some true) (h2:o.op= .call ⟨.builtin .max,#[x,y],ts⟩) (h7:s.ev x= .d (dN .i64 a)) (h8:s.ev y= .d (dN .i64 b))
 (h3:aL n o.dst=true) (h4:fh draw ops (aB ops o ⟨.d (dN .i64 m),none⟩ []) k fps=true) (h:au P T n ops id draw K (k+1) os (s.eff o.dst ⟨.d (dN .i64 m),none⟩) (aB ops o ⟨.d (dN .i64 m),none⟩ []::fps)):au P T n ops id draw K k (o::os) s fps:=by
 subst hm;refine .run h1 (.gen fun s2 ht _=>?_) h3 h4 h;have hx:=(ax ht (x:=x) (by simp[h2,Op.operands,Call.operands])).trans h7;have hy:=(ax ht (x:=y) (by simp[h2,Op.operands,Call.operands])).trans h8;refine am fun n S0 w0 g a' w hM=>⟨.int .i64 (max a b),w,?_,Below.refl _ _,AV.M.val rfl⟩
 have hm:(Builtin.max2 (.int .i64 a) (.int .i64 b)).run P w= .ok (.int .i64 (max a b)) w:=by
  have e:max a b=if b > a then b else a:=by split <;>omega
  rw[e];rfl
 simp[execOp,h2,resolve,invoke,builtin,Builtin.max_,bg hM hx,bg hM hy,Sem.run_bind,hm]
end
theorem ef {p:Rx->Prop} (h:∀op na xs nb ys nm args,(∀y∈args,p y)->p (.mk op na xs nb ys nm args)):∀x,p x
 | .mk op na xs nb ys nm args=>h op na xs nb ys nm args (fun y hy=>ef h y)
decreasing_by
 have:=List.sizeOf_lt_of_mem hy
 simp
 omega
theorem aM (x:Rx):∃o na xs nb ys nm n cs,aR x=ab o na xs nb ys nm n cs:=by
 exact Of
mutual
def fi:Rx->Nat
 | .mk _ _ _ _ _ _ args=>dX args+1
def dX:List Rx->Nat
 | []=>0
 |x::r=>fi x+dX r
end
mutual
def tl:Rx->Nat->Nat
 | .mk _ _ _ _ _ _ args,m=>zZ args 1 m
def zZ:List Rx->Nat->Nat->Nat
 | [],n,_=>n
 |y::r,n,m=>if n<=m then zZ r (n+tl y (m-n)) m else n
end
theorem yI:∀{l:List Rx} {n m:Nat},m<n->zZ l n m=n
 | [],n,m,_=>rfl
 |y::r,n,m,h=>by rw[zZ,if_neg (by omega)]
theorem He {l:List Rx} {i:Nat} (h:i<l.length) {n m:Nat} (hn:n<=m):zZ (l.drop i) n m=zZ (l.drop (i+1)) (n+tl l[i] (m-n)) m:=by
 rw[List.drop_eq_getElem_cons h,zZ,if_pos hn]
theorem vu:∀(x:Rx) (m:Nat),1<=tl x m/\tl x m<=m+1/\(tl x m<=m->tl x m=fi x):=by
 refine ef fun op na xs nb ys nm args ih m=>?_
 have key:∀(l:List Rx),(∀y∈l,∀m,1<=tl y m/\tl y m<=m+1/\(tl y m<=m->tl y m=fi y))-> ∀n,1<=n->n<=m+1->1<=zZ l n m/\zZ l n m<=m+1/\(zZ l n m<=m->zZ l n m=n+dX l):=by
  intro l
  induction l with
  |nil=>intro _ n h1 h2;exact⟨h1,h2,fun _=>rfl⟩
  |cons y r ihr=>
   intro h n h1 h2
   by_cases hn:n<=m
   ·rw[zZ,if_pos hn]
    obtain⟨a1,a2,a3⟩:=h y (by simp) (m-n);obtain⟨b1,b2,b3⟩:=ihr (fun z hz=>h z (by simp[hz])) (n+tl y (m-n)) (by omega) (by omega);refine⟨b1,b2,fun hle=>?_⟩;rw[b3 hle,dX]
    by_cases hm:n+tl y (m-n)<=m
    ·rw[a3 (by omega)];omega
    ·rw[yI (by omega)]at hle;omega
   ·rw[zZ,if_neg hn]
    exact⟨h1,h2,fun h=>absurd h hn⟩
 rw[tl,fi];obtain⟨c1,c2,c3⟩:=key args ih 1 (Nat.le_refl _) (by omega);exact⟨c1,c2,fun h=>by rw[c3 h];omega⟩
theorem Jz:∀(x:Rx),ls x-> ∀m:Nat,m<=1000000->aa Tryz.prog 50 [dR x,dN .i64 m] (.one (dN .i64 (tl x m))):=by
 refine ef fun op na xs nb ys nm args ih hx m hm=>?_
 obtain⟨_,_,_,_,_,hlen,hargs⟩:=hx;show aa Tryz.prog _ [.agg (ab op na xs nb ys nm args.length (dY args)),_] _;have ht0:=(vu (.mk op na xs nb ys nm args) m).2.1;rw[tl]at ht0 ⊢;generalize ht:zZ args 1 m=t at ht0;refine kV func50 ?_
 refine ay (Nat × Nat) (fun s=>s.1<=args.length/\1<=s.2/\s.2<=m+1/\zZ (args.drop s.1) s.2 m=t) (fun s=>⟨[(1, .d (dN .i64 m)),(2, .box 0 0),(4, .d (dN .i64 0)),(5, .d (dN .i64 s.2)),(6, .d (dN .i64 s.1))],[(0,some (ab op na xs nb ys nm args.length (dY args)))]⟩) (fun s=>args.length-s.1) (0,1) ⟨Nat.zero_le _,Nat.le_refl _,by dsimp only;omega,ht⟩
  kw ?_
 rintro⟨i,n⟩ ⟨hi,h1,h2,hd⟩;dsimp only at hi h1 h2 hd ⊢;refine kI ?_
 refine kO4 ?_
 by_cases hlt:i<args.length
 ·refine kT ?_
  refine kO3 ?_
  by_cases hn:n<=m
  ·refine kT ?_
   obtain⟨o1,na1,xs1,nb1,ys1,nm1,n1,cs1,hA⟩:=aM args[i];have hat:∀(j:Nat) (a:AV),(ab o1 na1 xs1 nb1 ys1 nm1 n1 cs1)[j]? =some a->(dY args)[i*7+j]? =some a:=fun j a h=>dP args i args[i] (by simp[hlt]) j a (by rw[hA];exact h)
   have c:=ih args[i] (List.getElem_mem hlt) (hargs _ (List.getElem_mem hlt)) (m-n) (by omega);rw[show dR args[i]= .agg (ab o1 na1 xs1 nb1 ys1 nm1 n1 cs1) from congrArg DV.agg hA]at c;obtain⟨k1,k2,_⟩:=vu args[i] (m-n);have hstep:=He hlt hn;generalize tl args[i] (m-n)=k at *;refine KL ?_
   refine kO3 ?_
   refine kJ ((m-n:Nat)) ?_;refine kQ (c) ?_;exact⟨(i+1,n+k),⟨hlt,by dsimp only;omega,by dsimp only;omega,by dsimp only;rw[<- hstep];exact hd⟩,by dsimp only;omega,weak ⟨rfl,rfl,rfl,an (by omega) (by omega),an (by omega) (by omega),trivial⟩ ⟨rfl,trivial⟩ rfl⟩
  ·refine kE ?_
   refine kW ?_;rw[<- hd,yI (by omega)];exact bV (T:=TT) rfl rfl
 ·refine kE ?_
  refine kW ?_;rw[<- hd,List.drop_eq_nil_of_le (by omega),zZ];exact bV (T:=TT) rfl rfl
mutual
def qm:Rx->Bool
 | .mk _ _ xs _ ys nm args=>nX args && (decide (xs.length<=8) && decide (ys.length<=8) && decide (nm.length<=60))
def nX:List Rx->Bool
 | []=>true
 |y::r=>qm y && nX r
end
theorem r7:∀{l:List Rx},nX l=true-> ∀y∈l,qm y=true
 |a::l,h,y,hy=>by
  simp only[nX,Bool.and_eq_true]at h
  rcases List.mem_cons.1 hy with rfl|hy
  ·exact h.1
  ·exact r7 h.2 y hy
theorem zR:∀{l:List Rx},(∀(q:Nat) (y:Rx),l[q]? =some y->qm y=true)->nX l=true
 | [],_=>rfl
 |a::l,h=>by
  simp only[nX,Bool.and_eq_true]
  exact⟨h 0 a rfl,zR fun q y hq=>h (q+1) y (by simpa using hq)⟩
theorem HX:∀(x:Rx),ls x->aa Tryz.prog 51 [dR x] (.one (dB (qm x))):=by
 refine ef fun op na xs nb ys nm args ih hx=>?_
 obtain⟨_,_,_,_,_,hlen,hargs⟩:=hx;have hB:=aF nm;refine Qe ?_;refine kV func51 ?_
 refine ay Nat (fun i=>i<=args.length/\ ∀(q:Nat) y,q<i->args[q]? =some y->qm y=true) (fun i=>⟨[(1, .box 0 0),(2, .d (dB false)),(3, .d (dN .i64 i))],[(0,some (ab op na xs nb ys nm args.length (dY args)))]⟩) (fun i=>args.length-i) 0 ⟨Nat.zero_le _,fun q y h=>absurd h (Nat.not_lt_zero _)⟩
  kw ?_
 rintro i ⟨hi,hq⟩;refine kI ?_
 refine kO4 ?_
 by_cases hlt:i<args.length
 ·refine kT ?_
  obtain⟨o1,na1,xs1,nb1,ys1,nm1,n1,cs1,hA⟩:=aM args[i];have hx:args[i]? =some args[i]:=by simp[hlt]
  have hat:∀(j:Nat) (a:AV),(ab o1 na1 xs1 nb1 ys1 nm1 n1 cs1)[j]? =some a->(dY args)[i*7+j]? =some a:=fun j a h=>dP args i args[i] hx j a (by rw[hA];exact h)
  have c:=ih args[i] (List.getElem_mem hlt) (hargs _ (List.getElem_mem hlt));rw[show dR args[i]= .agg (ab o1 na1 xs1 nb1 ys1 nm1 n1 cs1) from congrArg DV.agg hA]at c;refine KL ?_;refine kO ?_;cases hb:qm args[i]
  ·rw[hb]at c
   refine kQ (c) ?_
   rw[show qm (.mk op na xs nb ys nm args)=false by
    rw[qm,Bool.and_eq_false_iff];refine .inl ?_;cases h:nX args
    ·rfl
    ·rw[r7 h _ (List.getElem_mem hlt)]at hb;cases hb]
   exact bV (T:=TT) rfl rfl
  ·exact Nx
 ·refine kE ?_
  have hall:nX args=true:=zR fun q y h=>hq q y (by have:=(List.getElem?_eq_some_iff.1 h).1;omega) h
  rw[qm,hall,Bool.true_and];refine At ?_;refine kI ?_
  refine kO5 ?_
  by_cases l1:xs.length<=8
  ·refine kT ?_
   iterate 6 refine kO ?_
   by_cases l2:ys.length<=8
   ·refine kT ?_
    refine kO5 ?_
    by_cases l3:nm.length<=60
    ·refine kT ?_
     refine kW ?_;rw[decide_eq_true l1,decide_eq_true l2,decide_eq_true l3];exact bV (T:=TT) rfl rfl
    ·refine kE ?_
     refine kW ?_;rw[decide_eq_true l1,decide_eq_true l2,decide_eq_false l3];exact bV (T:=TT) rfl rfl
   ·refine kE ?_
    refine kW ?_;rw[decide_eq_true l1,decide_eq_false l2];exact bV (T:=TT) rfl rfl
  ·refine kE ?_
   refine kW ?_;rw[decide_eq_false l1];exact bV (T:=TT) rfl rfl
mutual
def pO:Rx->Nat
 | .mk _ _ _ _ _ _ args=>ll args+1
def ll:List Rx->Nat
 | []=>0
 |y::r=>max (pO y) (ll r)
end
theorem Is:∀x,pO x<=fi x:=by
 refine ef fun op na xs nb ys nm args ih=>?_
 have key:∀l:List Rx,(∀y∈l,pO y<=fi y)->ll l<=dX l:=by
  intro l
  induction l with
  |nil=>intro _;exact Nat.le_refl _
  |cons y r ihr=>
   intro h;have h1:=h y (by simp);have h2:=ihr fun z hz=>h z (by simp[hz])
   rw[ll,dX];omega
 rw[pO,fi];have:=key args ih;omega
theorem mU:∀{l:List Rx} {y:Rx},y∈l->fi y<=dX l
 |a::l,y,h=>by
  rw[dX];rcases List.mem_cons.1 h with rfl|h
  ·omega
  ·have:=mU h;omega
theorem wR:∀{l:List Rx} {y:Rx},y∈l->pO y<=ll l
 |a::l,y,h=>by
  rw[ll];rcases List.mem_cons.1 h with rfl|h
  ·omega
  ·have:=wR h;omega
theorem J6:∀(x:Rx),ls x->fi x<=1000000->aa Tryz.prog 90 [dR x] (.one (dN .i64 (pO x))):=by
 refine ef fun op na xs nb ys nm args ih hx hs=>?_
 have hd0:=Is (.mk op na xs nb ys nm args);obtain⟨_,_,_,_,_,hlen,hargs⟩:=hx;rw[fi]at hs;rw[pO,fi]at hd0;refine Qe ?_;refine kV func90 ?_
 refine ay (Nat × Nat) (fun s=>s.1<=args.length/\s.2<=ll args/\max s.2 (ll (args.drop s.1))=ll args) (fun s=>⟨[(1, .box 0 0),(2, .d (dN .i64 0)),(3, .d (dN .i64 s.2)),(4, .d (dN .i64 s.1))],[(0,some (ab op na xs nb ys nm args.length (dY args)))]⟩) (fun s=>args.length-s.1) (0,0) ⟨Nat.zero_le _,Nat.zero_le _,Nat.zero_max _⟩
  kw ?_
 rintro⟨i,d⟩ ⟨hi,h1,h2⟩;dsimp only at hi h1 h2 ⊢;refine kI ?_
 refine kO4 ?_
 by_cases hlt:i<args.length
 ·refine kT ?_
  obtain⟨o1,na1,xs1,nb1,ys1,nm1,n1,cs1,hA⟩:=aM args[i];have hx:args[i]? =some args[i]:=by simp[hlt]
  have hat:∀(j:Nat) (a:AV),(ab o1 na1 xs1 nb1 ys1 nm1 n1 cs1)[j]? =some a->(dY args)[i*7+j]? =some a:=fun j a h=>dP args i args[i] hx j a (by rw[hA];exact h)
  have hm:=List.getElem_mem hlt;have hsz:=mU hm;have hdp:=wR hm;have c:=ih args[i] hm (hargs _ hm) (by omega);rw[show dR args[i]= .agg (ab o1 na1 xs1 nb1 ys1 nm1 n1 cs1) from congrArg DV.agg hA]at c;rw[List.drop_eq_getElem_cons hlt,ll]at h2;generalize pO args[i]=k at *;refine KL ?_;refine kO ?_;refine kC (c) ?_;refine PT (a:=d) (b:=k) (m:=(max d k:Nat)) (by omega) rfl rfl rfl rfl rfl rfl ?_;refine kW ?_;exact⟨(i+1,max d k),⟨hlt,by dsimp only;omega,by dsimp only;omega⟩,by dsimp only;omega,weak ⟨rfl,rfl,rfl,an (by omega) (by omega),trivial⟩ ⟨rfl,trivial⟩ rfl⟩
 ·exact zM
end Go.Proofs.YtnchbpoopnjghaaGreatDoor
