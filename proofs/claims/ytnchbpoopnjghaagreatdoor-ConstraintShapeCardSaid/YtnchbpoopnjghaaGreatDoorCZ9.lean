/- Parts of a proof: contracts of the functions that the laws reach. -/
import Derived.Test.YtnchbpoopnjghaaGreatDoorCZ8
set_option maxHeartbeats 100000000
set_option maxRecDepth 100000
set_option linter.all false
open Go.Proofs.Tryz
namespace Go.Proofs.YtnchbpoopnjghaaGreatDoor
open Go.RowKit
theorem uY (x:Rx) (hx:nj x):aa Tryz.prog 19 [dR x] (.one (dB (decide (rY x 120<=120) && pJ x))):=by
 have c1:=Ft x hx 120 (by decide);have c2:=Iz x hx;have hn:=vS x 120;obtain⟨o1,na1,xs1,nb1,ys1,nm1,n1,cs1,hA⟩:=aM x;rw[show dR x= .agg (ab o1 na1 xs1 nb1 ys1 nm1 n1 cs1) from congrArg DV.agg hA]at c1 c2 ⊢;generalize rY x 120=k at *
 by_cases hk:k<=120
 ·rw[decide_eq_true hk,Bool.true_and]
  refine kV func19 ?_;refine kC (c1) ?_;refine kX ?_;refine kC (c2) ?_;exact ar
 ·rw[decide_eq_false hk,Bool.false_and]
  refine kV func19 ?_;refine kC (c1) ?_;refine kE ?_;exact ar
inductive I1:Rx->Prop
 |mk {op:Int} {na:Bool} {xs:List Nat} {nb:Bool} {ys:List Nat} {nm:List UInt8} {args:List Rx}:xs.length<=510->ys.length<=510->nm.length<=65536->(∀x∈args,I1 x)->I1 (.mk op na xs nb ys nm args)
theorem I1.of_lt:∀x,pJ x=true->I1 x:=by
 refine eQ fun op na xs nb ys nm args ih hlt=>?_
 rw[pJ,Bool.and_eq_true,Bool.and_eq_true,Bool.and_eq_true,decide_eq_true_eq,decide_eq_true_eq,decide_eq_true_eq]at hlt;obtain⟨hla,⟨l1,l2⟩,l3⟩:=hlt;exact .mk (by omega) (by omega) (by omega) fun y hy=>ih y hy (qq hla y hy)
theorem rJ {na nb:Bool} {xs ys:List Nat} {q:Rat} (e:yQ na xs nb ys=aQ q) (e1:xs=digs q.num.natAbs) (e2:ys=digs (q.den:Int).natAbs) (hv:gU na xs nb ys=true):qt na xs nb ys=g8 q:=by
 have e3:na=decide (q.num<0):=by
  have:=congrArg (fun l:List AV=>l[0]?) e;exact BG
 have e4:nb=decide ((q.den:Int)<0):=by
  have:=congrArg (fun l:List AV=>l[2]?) e;exact BG
 unfold qt;rw[if_pos hv]
 congr 1
 have t1:aN na xs=q.num:=by
  rw[e1,e3,mJ]
  by_cases h:q.num<0
  ·rw[decide_eq_true h,if_pos rfl];omega
  ·rw[decide_eq_false h,if_neg (by decide)];omega
 have t2:aN nb ys=q.den:=by
  rw[e2,e4,mJ,decide_eq_false (by omega),if_neg (by decide)];omega
 rw[t1,t2,Rat.num_divInt_den]
theorem De {na nb:Bool} {xs ys:List Nat} (hw:Wd xs) (hw':Wd ys) (h1:xs.length<=510) (h2:ys.length<=510):
 ∃t,aa Tryz.prog 125 [M2 na xs nb ys] (.tup [dL t,dB (qt na xs nb ys).isSome])/\ ∀u,qt na xs nb ys=some u->t=u:=by
 cases hv:gU na xs nb ys with
 |false=>
  have hd:qt na xs nb ys=none:=if_neg (by rw[hv];decide);rw[hd];refine⟨[],?_,fun u h=>by cases h⟩;refine kV func125 ?_;refine am (oq hw hw' (Nat.le_trans h1 (by decide)) (Nat.le_trans h2 (by decide)) hv) rfl rfl rfl rfl rfl rfl rfl ?_;exact ar
 |true=>
  obtain⟨q,e,e1,e2⟩:=ub hw hw' hv;have sq:dJ 510 q:=⟨Sz.of_digs (by rw[<- e1];exact h1),Sz.of_digs (by rw[<- e2];exact h2)⟩;rw[rJ e e1 e2 hv,show M2 na xs nb ys=dQ q from congrArg DV.agg e];exact iF sq (by decide)
def CN (na:Bool) (xs:List Nat) (nb:Bool) (ys:List Nat):Bool:=!na && (!nb && (decide (xs.length=0) && decide (ys.length=0)))
theorem zD {na nb:Bool} {xs ys:List Nat} (h:CN na xs nb ys=true):na=false/\nb=false/\xs=[]/\ys=[]:=by
 unfold CN at h
 simp only[Bool.and_eq_true,Bool.not_eq_true',decide_eq_true_eq]at h
 exact⟨h.1,h.2.1,List.eq_nil_of_length_eq_zero h.2.2.1,List.eq_nil_of_length_eq_zero h.2.2.2⟩
def yS (op:Int) (d p m:Bool) (nm:List UInt8) (n:Nat):Bool:=if op=1 then d && (decide (nm=[]) || m) && decide (n=0)else if op=2 then p && m && decide (n=0)else if op=3 then p && decide (nm=[]) && decide (n=1)
 else if op=4∨op=5∨op=6∨op=7 then p && decide (nm=[]) && decide (n=2)else false
mutual
def yX:Rx->Bool
 | .mk op na xs nb ys nm args=>yS op (qt na xs nb ys).isSome (CN na xs nb ys) (o0 nm) nm args.length && kP args
def kP:List Rx->Bool
 | []=>true
 |y::r=>yX y && kP r
end
theorem rz:∀l:List Rx,kP l=l.all yX
 | []=>by simp[kP]
 |y::r=>by rw[kP,rz r,List.all_cons]
def lZ (x:Rx):Int:=if yX x=true then(if yJ x<=40 then 0 else 3)else 1
theorem uz:∀e,pg e->yX (rx e)=true
 | .num v u,h=>by
  obtain⟨h1,h2,h3⟩:=h;show(yS 1 (qt (decide (v.num<0)) (digs v.num.natAbs) (decide ((v.den:Int)<0)) (digs (v.den:Int).natAbs)).isSome _ (o0 u) u 0 && kP [])=true;rw[rJ (q:=v) rfl rfl rfl (qL v),h1,kP];rcases h3 with h|h<;>simp[yS,h]
 | .nam s,h=>by
  show(yS 2 _ (CN false [] false []) (o0 s) s 0 && kP [])=true;have h:o0 s=true:=h;rw[h,kP];rfl
 | .neg a,h=>by
  show(yS 3 (qt false [] false []).isSome (CN false [] false []) (o0 []) [] 1 && kP [rx a])=true;rw[kP,kP,uz a h];rfl
 | .bin k a b,h=>by
  show(yS k.code (qt false [] false []).isSome (CN false [] false []) (o0 []) [] 2 && kP [rx a,rx b])=true;rw[kP,kP,kP,uz a h.1,uz b h.2];cases k<;>rfl
theorem Pp:∀(x:Rx),nj x->I1 x->yX x=true-> ∃e,x=rx e/\pg e:=by
 refine eQ fun op na xs nb ys nm args ih hx hlt hf=>?_
 obtain⟨_,_,hw,hw',_,hlen,hargs⟩:=hx;obtain⟨l1,l2,l3,hla⟩:=hlt;rw[yX,rz,Bool.and_eq_true]at hf;obtain⟨hsh,hall⟩:=hf;have hall:∀y∈args,∃e,y=rx e/\pg e:=fun y hy=>ih y hy (hargs y hy) (hla y hy) (List.all_eq_true.1 hall y hy)
 unfold yS at hsh
 split at hsh
 ·rename_i ho
  subst ho
  simp only[Bool.and_eq_true,Bool.or_eq_true,decide_eq_true_eq]at hsh
  obtain⟨⟨h1,h2⟩,h3⟩:=hsh;obtain rfl:=List.eq_nil_of_length_eq_zero h3;cases hv:gU na xs nb ys with
  |false=>rw[qt,if_neg (by rw[hv];decide)]at h1;cases h1
  |true=>
   obtain⟨q,e,e1,e2⟩:=ub hw hw' hv;have sq:dJ 510 q:=⟨Sz.of_digs (by rw[<- e1];exact l1),Sz.of_digs (by rw[<- e2];exact l2)⟩;rw[rJ e e1 e2 hv]at h1
   have e3:na=decide (q.num<0):=by
    have:=congrArg (fun l:List AV=>l[0]?) e;exact BG
   have e4:nb=decide ((q.den:Int)<0):=by
    have:=congrArg (fun l:List AV=>l[2]?) e;exact BG
   subst e3 e4 e1 e2;exact⟨.num q nm,rfl,h1,sq,h2⟩
 ·split at hsh
  ·rename_i ho
   subst ho
   simp only[Bool.and_eq_true,decide_eq_true_eq]at hsh
   obtain⟨⟨h1,h2⟩,h3⟩:=hsh;obtain rfl:=List.eq_nil_of_length_eq_zero h3;obtain⟨rfl,rfl,rfl,rfl⟩:=zD h1;exact⟨.nam nm,rfl,h2⟩
  ·split at hsh
   ·rename_i ho
    subst ho
    simp only[Bool.and_eq_true,decide_eq_true_eq]at hsh
    obtain⟨⟨h1,rfl⟩,h3⟩:=hsh;obtain⟨rfl,rfl,rfl,rfl⟩:=zD h1
    match args,h3,hall with
    | [a],_,hall=>
     obtain⟨ea,rfl,oa⟩:=hall a (by simp);exact⟨.neg ea,rfl,oa⟩
   ·split at hsh
    ·rename_i ho
     simp only[Bool.and_eq_true,decide_eq_true_eq]at hsh
     obtain⟨⟨h1,rfl⟩,h3⟩:=hsh;obtain⟨rfl,rfl,rfl,rfl⟩:=zD h1
     match args,h3,hall with
     | [a,b],_,hall=>
      obtain⟨ea,rfl,oa⟩:=hall a (by simp);obtain⟨eb,rfl,ob⟩:=hall b (by simp);rcases ho with rfl|rfl|rfl|rfl
      ·exact⟨.bin .add ea eb,rfl,oa,ob⟩
      ·exact⟨.bin .sub ea eb,rfl,oa,ob⟩
      ·exact⟨.bin .mul ea eb,rfl,oa,ob⟩
      ·exact⟨.bin .div ea eb,rfl,oa,ob⟩
    ·cases hsh
section
open Go.ChangeShapes Go.WideShapes Go.ChangeAt Go.RowKit Go.Joins
theorem xh {H:Type} {enc:TypeId × Value->H} {W:World} {P:Program} {L:List TypeId} (hL:uu P L=true) {t:TypeId} (ht:t∈L) {fs:Array Field} (hu:P.underlying t=some (.struct fs)) {r:Reach} {b0:Nat} {v:Value} {d:DataW H} {p:List MemPlace} (hv:Value.okWide P W r b0 t v) (h:DataW.Trod enc P W 0 (fun _=>true) true t v d p):
 ∃n cs,DV.M (fun _=>False) W (.agg cs) v/\Sh P n t cs:=by
 obtain⟨cs,rfl,_⟩:=okWide_struct hu hv;obtain⟨n,xs,h1,h2⟩:=Kg hL ht h;exact⟨n,xs,N0 h1,h2⟩
end
section
open Go.ChangeShapes Go.WideShapes Go.ChangeAt Go.RowKit Go.Joins
def de (l:List Int):List AV:=l.map fun z=>AV.val (.int .i64 z)
def oX (l:List Int):DV:= .leaf (.sl l.length (de l))
theorem mU (l:List Int):(de l).length=l.length:=by simp[de]
theorem Co {l:List Int} {i:Nat} {z:Int} (h:l[i]? =some z):(de l)[i*1]? =some (.val (.int .i64 z)):=by simp[de,h]
theorem ef {l:List Int} {i:Nat} {z:Int} (h:l[i]? =some z):∀(j:Nat) (a:AV),[AV.val (.int .i64 z)][j]? =some a->(de l)[i*1+j]? =some a:=fun j a hj=>by
 cases j with
 |zero=>simp at hj;subst hj;exact Co h
 |succ j=>simp at hj
def nh (k:Int):Option Kd:=if 1<=k/\k<=17 then ko[k.toNat-1]? else none
def yU (s:List UInt8):Int:=if ko.findIdx (fun r=>decide (r.nm=s))<17 then(ko.findIdx (fun r=>decide (r.nm=s)):Int)+1 else 0
structure Cn where
 k:Int
 ps:List Int
 cs:List Int
 vs:List Rx
 s:Int
def aC (c:Cn):List AV:=[.val (.int .i64 c.k), .sl c.ps.length (de c.ps), .sl c.cs.length (de c.cs), .sl c.vs.length (eE c.vs), .val (.int .i64 c.s)]
def dC (c:Cn):DV:= .agg (aC c)
def PS (z:Int):Prop:= -9223372036854775808<=z/\z<=9223372036854775807
structure Lw (c:Cn):Prop where
 k:PS c.k
 ps:∀z∈c.ps,PS z
 cs:∀z∈c.cs,PS z
 vs:∀x∈c.vs,nj x
 s:PS c.s
def RM:List TypeId:=[30,27,40,38,36,4,34,135,3,9,28]
theorem ER:uu Tryz.prog RM=true:=by kernel_rfl
theorem Cx {n:Nat} {cs:List AV} (h:Sh Tryz.prog n 27 cs):∃l:List Int,cs=[.sl l.length (de l)]/\ ∀z∈l,PS z:=by
 cases n with
 |zero=>exact h.elim
 |succ n=>
  simp only[Sh,underlying27]at h
  obtain⟨rows,rfl,_,hr⟩:=h
  have key:∀rows:List (List AV),(∀r∈rows,Sh Tryz.prog n 3 r/\r.length=Tryz.prog.cellsOf 3)-> ∃l:List Int,rows.length=l.length/\rows.flatten=de l/\ ∀z∈l,PS z:=by
   intro rows
   induction rows with
   |nil=>intro _;exact⟨[],rfl,rfl,fun x hx=>by cases hx⟩
   |cons r rows ih=>
    intro hr;obtain⟨l,h1,h2,h3⟩:=ih (fun r hm=>hr r (by simp[hm]));obtain⟨i,h4,h5⟩:=uN (hr r (by simp)).1;refine⟨i::l,by simp[h1],by rw[List.flatten_cons,h2,h4];rfl,fun x hx=>?_⟩;rcases List.mem_cons.1 hx with rfl|hx
    ·exact h5
    ·exact h3 x hx
  obtain⟨l,h1,h2,h3⟩:=key rows hr;exact⟨l,by rw[h1,h2],h3⟩
set_option maxRecDepth 100000 in
theorem IM {n:Nat} {cs:List AV} (h:Sh Tryz.prog n 28 cs):∃l:List Rx,cs=[.sl l.length (eE l)]/\ ∀x∈l,nj x:=by
 cases n with
 |zero=>exact h.elim
 |succ n=>
  simp only[Sh,underlying28]at h
  obtain⟨rows,rfl,_,hr⟩:=h
  have key:∀rows:List (List AV),(∀r∈rows,Sh Tryz.prog n 40 r/\r.length=Tryz.prog.cellsOf 40)-> ∃l:List Rx,rows.length=l.length/\rows.flatten=eE l/\ ∀x∈l,nj x:=by
   intro rows
   induction rows with
   |nil=>intro _;exact⟨[],rfl,rfl,fun x hx=>by cases hx⟩
   |cons r rows ih=>
    intro hr;obtain⟨l,h1,h2,h3⟩:=ih (fun r hm=>hr r (by simp[hm]));obtain⟨x,h4,h5⟩:=Ls n _ (hr r (by simp)).1;refine⟨x::l,by simp[h1],by rw[List.flatten_cons,h2,h4];rfl,fun y hy=>?_⟩;rcases List.mem_cons.1 hy with rfl|hy
    ·exact h5
    ·exact h3 y hy
  obtain⟨l,h1,h2,h3⟩:=key rows hr;exact⟨l,by rw[h1,h2],h3⟩
set_option maxRecDepth 100000 in
theorem Jt {n:Nat} {cs:List AV} (h:Sh Tryz.prog n 30 cs):∃c:Cn,cs=aC c/\Lw c:=by
 cases n with
 |zero=>exact h.elim
 |succ n=>
  simp only[Sh,underlying30,List.forall_mem_cons,List.not_mem_nil,false_imp_iff,implies_true,and_true]at h
  obtain⟨hl,h0,h1,h2,h3,h4⟩:=h;rw[show Tryz.prog.cellsOf 30=5 by kernel_rfl]at hl;rw[show Tryz.prog.cellsOf 3=1 by kernel_rfl]at h0 h4;rw[show Tryz.prog.cellsOf 27=1 by kernel_rfl]at h1 h2;rw[show Tryz.prog.cellsOf 28=1 by kernel_rfl]at h3
  match cs,hl with
  | [c0,c1,c2,c3,c4],_=>
   obtain⟨k,e0,hk⟩:=uN h0;obtain⟨p,e1,hp⟩:=Cx h1;obtain⟨q,e2,hq⟩:=Cx h2;obtain⟨v,e3,hv⟩:=IM h3;obtain⟨s,e4,hs⟩:=uN h4
   simp at e0 e1 e2 e3 e4
   exact⟨⟨k,p,q,v,s⟩,by rw[e0,e1,e2,e3,e4];rfl,hk,hp,hq,hv,hs⟩
set_option maxRecDepth 100000 in
theorem kx {H:Type} {enc:TypeId × Value->H} {W:World} {r:Reach} {b0:Nat} {v:Value} {d:DataW H} {p:List MemPlace} (hv:Value.okWide Tryz.prog W r b0 30 v) (h:DataW.Trod enc Tryz.prog W 0 (fun _=>true) true 30 v d p):
 ∃c:Cn,DV.M (fun _=>False) W (dC c) v/\Lw c:=by
 obtain⟨n,cs,h1,h2⟩:=xh ER (by decide) underlying30 hv h;obtain⟨c,rfl,h3⟩:=Jt h2;exact⟨c,h1,h3⟩
end
theorem xH {x:UInt8} {b a t:List UInt8} (hx:x ∉ a) {i:Nat} (hi:i<a.length):Lib.occAt (a++t) (x::b) i=false:=by
 cases h:Lib.occAt (a++t) (x::b) i with
 |false=>rfl
 |true=>
  have:=Lib.occAt_head rfl h;rw[List.getElem?_append_left hi]at this;exact absurd (List.mem_of_getElem? this) hx
theorem O0 {a t:List UInt8} (hx:(61:UInt8) ∉ a) (ht:t=[]∨ ∃t',t=32::t') {i:Nat} (hi:i<a.length):Lib.occAt (a++t) [32,61,32] i=false:=by
 cases h:Lib.occAt (a++t) [32,61,32] i with
 |false=>rfl
 |true=>
  have:=Lib.occAt_second rfl h
  by_cases h1:i+1<a.length
  ·rw[List.getElem?_append_left h1]at this
   exact absurd (List.mem_of_getElem? this) hx
  ·rw[List.getElem?_append_right (by omega),show i+1-a.length=0 by omega]at this
   rcases ht with rfl| ⟨t',rfl⟩<;>simp at this
theorem DB {a b r:List UInt8} (h:∀i,i<a.length->Lib.occAt (a++(b++r)) b i=false):Lib.index (a++(b++r)) b=(a.length:Nat):=by
 refine Lib.index_first (by simp) ?_ h;unfold Lib.occAt;rw[List.drop_left];exact List.isPrefixOf_iff_prefix.2 ⟨r,rfl⟩
theorem wR {b s:List UInt8} (hb:b≠[]) (h:∀i,i<s.length->Lib.occAt s b i=false):Lib.index s b= -1:=by
 refine Lib.index_none fun j hj=>?_
 by_cases hlt:j<s.length
 ·exact h j hlt
 ·cases ho:Lib.occAt s b j with
  |false=>rfl
  |true=>
   rcases Lib.occAt_room ho with h1|h1
   ·have:=List.length_pos_iff.2 hb;omega
   ·exact absurd h1 hb
theorem NN {b s:List UInt8} (hb:b≠[]) (h:∀i,i<s.length->Lib.occAt s b i=false):Lib.cut s b=(s,[],false):=by
 unfold Lib.cut;rw[wR hb h,if_neg (by decide)]
theorem I7 {a:List UInt8} (hx:(61:UInt8) ∉ a):Lib.cut a [32,61,32]=(a,[],false):=NN (by simp) fun i hi=>by have:=O0 (t:=[]) hx (.inl rfl) hi;simpa using this
theorem tN {s b:List UInt8} {i:Nat} (hb:b≠[]) (h:Lib.index s b=i):Lib.split s b=s.take i::Lib.split (s.drop (i+b.length)) b:=by
 unfold Lib.split;rw[Lib.count_hit hb h,Nat.add_comm,Lib.splitK,h,if_neg (by rw[beq_iff_eq];omega),Int.toNat_natCast,Nat.add_zero]
theorem lM {s b:List UInt8} (h:Lib.index s b= -1):Lib.split s b=[s]:=by
 unfold Lib.split;rw[Lib.count_miss h];rfl
theorem m7 (x y b:List UInt8) (r:List (List UInt8)):Lib.join (x::y::r) b=x++(b++Lib.join (y::r) b):=by
 rw[Lib.join_cons,Lib.join_cons]
 simp[Lib.joinTail]
theorem qZ {x:UInt8} {b:List UInt8}:∀(l:List (List UInt8)),l≠[]->(∀y∈l,x ∉ y)->Lib.split (Lib.join l (x::b)) (x::b)=l
 | [],h,_=>absurd rfl h
 | [y],_,hx=>by
  rw[Lib.join_one];exact lM (wR (by simp) fun i hi=>by have:=xH (b:=b) (t:=[]) (hx y (by simp)) hi;simpa using this)
 |y::z::r,_,hx=>by
  have hy:=hx y (by simp);rw[m7,tN (by simp) (DB fun _ hi=>xH hy hi),List.take_left,<- List.append_assoc,List.drop_left' (by simp),qZ (z::r) (by simp) fun w hw=>hx w (by simp[List.mem_cons.1 hw])]
def pE (m z:Int):Bool:=decide (0<=z) && decide (z<m)
def G0:List Int->Bool
 | [p,q,r,s]=>!decide (p=q) && (!decide (r=s) && (!(decide (p=r) && decide (q=s)) && !(decide (p=s) && decide (q=r))))
 |_=>false
def M7 (b:Bool) (s:Int):Bool:=if b=true then decide (s=1) || decide (s= -1)else decide (s=0)
def yZ (c:Cn) (P Q:Int):Bool:=match nh c.k with
 |none=>false
 |some r=>(decide ((c.ps.length:Int)=r.p) && c.ps.all (pE P)) && ((decide ((c.cs.length:Int)=r.c) && c.cs.all (pE Q)) && (decide ((c.vs.length:Int)=r.n) && (c.vs.all (fun x=>decide (lZ x=0)) && (M7 r.s c.s &&
  (if 5<=c.k/\c.k<=8 then G0 c.ps else decide c.ps.Nodup && decide c.cs.Nodup)))))
theorem gn {c:Cn} {r:Kd} (h:nh c.k=some r) (P Q:Int):yZ c P Q=((decide ((c.ps.length:Int)=r.p) && c.ps.all (pE P)) && ((decide ((c.cs.length:Int)=r.c) && c.cs.all (pE Q)) && (decide ((c.vs.length:Int)=r.n) && (c.vs.all (fun x=>decide (lZ x=0)) && (M7 r.s c.s &&
 (if 5<=c.k/\c.k<=8 then G0 c.ps else decide c.ps.Nodup && decide c.cs.Nodup)))))):=by unfold yZ;rw[h]
theorem jB {c:Cn} (h:nh c.k=none) (P Q:Int):yZ c P Q=false:=by unfold yZ;rw[h]
def PN (k:Int):List UInt8:=if k=17 then [111,117,116,115,105,100,101]else [108,101,102,116]
def PC (k:Int):List UInt8:=if k=17 then [105,110,115,105,100,101]else [114,105,103,104,116]
def KX (z:Int):List UInt8:=112::fmt z
def OV (z:Int):List UInt8:=99::fmt z
def JN (c:Cn):List (List UInt8):=if c.s=1 then [PN c.k]else if c.s= -1 then [PC c.k]else []
def R5 (r:Kd) (c:Cn):List (List UInt8):=r.nm::(c.ps.map KX++c.cs.map OV++JN c)
def Fl (ts:List (List UInt8)):List UInt8:=if ts=[]then []else [32,61,32]++Lib.join ts [44,32]
def Ez (r:Kd) (c:Cn) (ts:List (List UInt8)):List UInt8:=Lib.join (R5 r c) [32]++Fl ts
def LK (x:UInt8) (w:List UInt8):Option Int:=match w with
 | []=>none
 |c::t=>if c=x then(match Lib.atoiAll t with| .ok v=>some v|_=>none)else none
theorem CK:ko.length=17:=rfl
theorem T6:(ko.all fun r=>decide ((32:UInt8) ∉ r.nm) && decide ((61:UInt8) ∉ r.nm))=true:=by decide
theorem TS:((List.range 17).all fun i=>decide (((ko[i]?).map fun r=>yU r.nm)=some ((i:Int)+1)))=true:=by decide
theorem xn {k:Int} {r:Kd} (h:nh k=some r):1<=k/\k<=17/\ko[k.toNat-1]? =some r:=by
 unfold nh at h
 split at h
 ·rename_i hk;exact⟨hk.1,hk.2,h⟩
 ·cases h
theorem T7 {k:Int} {r:Kd} (h:nh k=some r):yU r.nm=k/\(32:UInt8) ∉ r.nm/\(61:UInt8) ∉ r.nm:=by
 obtain⟨h1,h2,h3⟩:=xn h;have hm:=List.all_eq_true.1 T6 r (List.mem_of_getElem? h3);have hn:=List.all_eq_true.1 TS (k.toNat-1) (List.mem_range.2 (by omega));rw[h3]at hn
 simp only[Bool.and_eq_true,decide_eq_true_eq]at hm
 simp only[Option.map_some,decide_eq_true_eq,Option.some.injEq]at hn
 exact⟨by omega,hm⟩
structure Sb (d:Cn) (r:Kd) (P Q:Int):Prop where
 k:nh d.k=some r
 pl:(d.ps.length:Int)=r.p
 p:∀z∈d.ps,0<=z/\z<P
 cl:(d.cs.length:Int)=r.c
 c:∀z∈d.cs,0<=z/\z<Q
 vl:(d.vs.length:Int)=r.n
 v:∀x∈d.vs,lZ x=0
 s:M7 r.s d.s=true
 e:(if 5<=d.k/\d.k<=8 then G0 d.ps else decide d.ps.Nodup && decide d.cs.Nodup)=true
theorem Ck {c:Cn} {P Q:Int}:yZ c P Q=true↔ ∃r,Sb c r P Q:=by
 cases hk:nh c.k with
 |none=>exact⟨fun h=>(by rw[jB hk]at h;cases h),fun⟨r,h⟩=>(by rw[h.k]at hk;cases hk)⟩
 |some r=>
  rw[gn hk]
  simp only[Bool.and_eq_true,List.all_eq_true,pE]
  exact⟨fun⟨⟨h1,h2⟩,⟨h3,h4⟩,h5,h6,h7,h8⟩=>⟨r,hk,of_decide_eq_true h1,fun z hz=>⟨of_decide_eq_true (h2 z hz).1,of_decide_eq_true (h2 z hz).2⟩,of_decide_eq_true h3,fun z hz=>⟨of_decide_eq_true (h4 z hz).1,of_decide_eq_true (h4 z hz).2⟩,of_decide_eq_true h5,fun x hx=>of_decide_eq_true (h6 x hx),h7,h8⟩,fun⟨r',h⟩=>by
   have:=h.k;rw[hk]at this;cases this;exact⟨⟨decide_eq_true h.pl,fun z hz=>⟨decide_eq_true (h.p z hz).1,decide_eq_true (h.p z hz).2⟩⟩,⟨decide_eq_true h.cl,fun z hz=>⟨decide_eq_true (h.c z hz).1,decide_eq_true (h.c z hz).2⟩⟩,decide_eq_true h.vl,fun x hx=>decide_eq_true (h.v x hx),h.s,h.e⟩⟩
theorem Es {b:Bool} {s:Int} (h:M7 b s=true):s=1∨s= -1∨s=0:=by
 unfold M7 at h
 split at h
 ·simp at h;omega
 ·simp at h;omega
section
variable {P:Program} {T:TypeId->Option Ty} {n:Nat} {ops:Array Oper} {id:Nat} {draw:Bool} {K:AS->Prop} {s:AS} {k:Nat} {o:Oper} {os:List Oper} {fps:List FP}
theorem EO {t e:TypeId} {x y:Operand} {m i q:Nat} {ik:IntKind} {cs cs':List AV} (hcs:∀(j:Nat) (a:AV),cs'[j]? =some a->cs[i*q+j]? =some a) (hu:P.underlying t=some (.array m e)) (hs:(P.info? e).map (·.size)=some q) (hi:i<m) (h1:gd ops s o=some true) (ho:o.op= .indexAddr t x y) (hx:s.ev x= .rp cs) (hy:s.ev y= .d (.leaf (.val (.int ik (i:Nat)))))
 (h3:aB n o.dst=true) (h4:eZ draw ops (au ops o ⟨.rp cs',none⟩ []) k fps=true) (h:ak P T n ops id draw K (k+1) os (s.eff o.dst ⟨.rp cs',none⟩) (au ops o ⟨.rp cs',none⟩ []::fps)):ak P T n ops id draw K k (o::os) s fps:=
 .run h1 (.gen fun s2 ht _=>ah (tv:= .rp cs') fun n S0 w0 g a w hM=>by
  have hx2:=(aq ht (x:=x) (by simp[ho,Op.operands])).trans hx;have hy2:=(aq ht (x:=y) (by simp[ho,Op.operands])).trans hy;have h:=hM.ev x;rw[hx2]at h;obtain⟨b,off,f,e1,h1,h2,h3,h4⟩:=h;refine⟨.pointer (some ⟨b,off+i*q,none⟩),w,?_,Below.refl _ _,b,off+i*q,fun j=>f (i*q+j),rfl,h1,h2,fun j c hq=>?_,fun j c hq=>?_⟩
  ·refine Gm ?_
   have e2:(0:Int)<=i/\(i:Int)<m:=by omega
   simp only[e2,and_self,if_true,Sem.run_bind,bn hs w,Result.andThen_ok,Sem.run_pure,bL,Int.toNat_natCast]
  ·rw[Nat.add_assoc];exact h3 (i*q+j) c (hcs j c hq)
  ·exact h4 (i*q+j) c (hcs j c hq)) h3 h4 h
end
abbrev L8:=List UInt8
theorem AY (x y:L8):decide (x<=y)=!Op.bytesLess y x:=by
 rw[bytesLess_eq];show decide (¬y<x)=_;rw[decide_not]
def xF (l:List L8):Prop:=l.Pairwise fun a b=>Op.bytesLess a b=true
theorem BA:∀{a b:List L8},xF a->xF b->(∀x,x∈a↔x∈b)->a=b
 | [],[],_,_,_=>rfl
 | [],y::b,_,_,h=>absurd ((h y).2 (by simp)) (by simp)
 |x::a,[],_,_,h=>absurd ((h x).1 (by simp)) (by simp)
 |x::a,y::b,ha,hb,h=>by
  have ha:=List.pairwise_cons.1 ha;have hb:=List.pairwise_cons.1 hb
  have e:x=y:=by
   rcases List.mem_cons.1 ((h x).1 (by simp))with e|hx
   ·exact e
   ·rcases List.mem_cons.1 ((h y).2 (by simp))with e|hy
    ·exact e.symm
    ·have:=eK (ha.1 y hy) (hb.1 x hx)
     rw[iX]at this;cases this
  subst e
  congr 1
  refine BA ha.2 hb.2 fun z=>⟨fun hz=>?_,fun hz=>?_⟩
  ·rcases List.mem_cons.1 ((h z).1 (List.mem_cons_of_mem _ hz))with rfl|hz'
   ·have:=ha.1 z hz;rw[iX]at this;cases this
   ·exact hz'
  ·rcases List.mem_cons.1 ((h z).2 (List.mem_cons_of_mem _ hz))with rfl|hz'
   ·have:=hb.1 z hz;rw[iX]at this;cases this
   ·exact hz'
def lC:List L8->L8->List L8
 | [],x=>[x]
 |y::r,x=>if Op.bytesLess y x=true then y::lC r x else if y=x then y::r else x::y::r
theorem qP:∀{l:List L8} {x z:L8},z∈lC l x↔z=x∨z∈l
 | [],x,z=>by simp[lC]
 |y::r,x,z=>by
  have ih:=qP (l:=r) (x:=x) (z:=z);unfold lC
  split
  ·simp only[List.mem_cons,ih]
   constructor
   ·rintro(h|h|h)
    ·exact .inr (.inl h)
    ·exact .inl h
    ·exact .inr (.inr h)
   ·rintro(h|h|h)
    ·exact .inr (.inl h)
    ·exact .inl h
    ·exact .inr (.inr h)
  ·split
   ·rename_i e
    subst e
    simp only[List.mem_cons]
    constructor
    ·exact fun h=> .inr h
    ·rintro(h|h)
     ·exact .inl h
     ·exact h
   ·simp only[List.mem_cons]
theorem yh:∀{l:List L8} {x:L8},xF l->xF (lC l x)
 | [],x,_=>List.pairwise_singleton _ _
 |y::r,x,h=>by
  have h':=List.pairwise_cons.1 h;unfold lC
  split
  ·rename_i hy
   refine List.pairwise_cons.2 ⟨fun z hz=>?_,yh h'.2⟩;rcases qP.1 hz with rfl|hz
   ·exact hy
   ·exact h'.1 z hz
  ·split
   ·exact h
   ·rename_i h1 h2
    have hxy:Op.bytesLess x y=true:=by
     cases hb:Op.bytesLess x y
     ·exact absurd (nU (by simpa using h1) hb) h2
     ·rfl
    refine List.pairwise_cons.2 ⟨fun z hz=>?_,h⟩;rcases List.mem_cons.1 hz with rfl|hz
    ·exact hxy
    ·exact eK hxy (h'.1 z hz)
def jD (l:List L8):List L8:=l.foldl lC []
theorem nO:∀(l acc:List L8),xF acc->xF (l.foldl lC acc)/\ ∀z,z∈l.foldl lC acc↔z∈acc∨z∈l
 | [],acc,h=>⟨h,fun z=>by simp⟩
 |x::l,acc,h=>by
  obtain⟨h1,h2⟩:=nO l (lC acc x) (yh h);refine⟨h1,fun z=>?_⟩;rw[List.foldl_cons,h2,qP,List.mem_cons]
  constructor
  ·rintro((h|h)|h)
   ·exact .inr (.inl h)
   ·exact .inl h
   ·exact .inr (.inr h)
  ·rintro(h|h|h)
   ·exact .inl (.inr h)
   ·exact .inl (.inl h)
   ·exact .inr h
theorem AO (l:List L8):xF (jD l):=(nO l [] List.Pairwise.nil).1
theorem gg (l:List L8) (z:L8):z∈jD l↔z∈l:=by
 rw[jD,(nO l [] List.Pairwise.nil).2]
 simp
theorem vN (l:List L8) (x:L8):Lib.compact (l++[x])=Lib.compact l++if l.getLast? =some x then []else [x]:=by
 unfold Lib.compact;have hlen:(l++[x]).length=l.length+1:=by simp
 rw[hlen,Lib.compactUpTo_succ]
 have hg:∀j,j<l.length->(l++[x]).toArray[j]! =l.toArray[j]!:=fun j hj=>by
  rw[getElem!_pos _ j (by simp;omega),getElem!_pos _ j (by simpa using hj)]
  simp[List.getElem_append_left hj]
 congr 1
 ·unfold Lib.compactUpTo
  have hk:∀j∈List.range l.length,Lib.keeps (l++[x]).toArray j=Lib.keeps l.toArray j:=fun j hj=>by
   have hj:=List.mem_range.1 hj;unfold Lib.keeps;rw[hg j hj];cases j with
   |zero=>simp
   |succ j=>rw[show j+1-1=j from rfl,hg j (by omega)]
  rw[List.filter_congr hk];refine List.map_congr_left fun j hj=>?_
  exact hg j (List.mem_range.1 (List.mem_filter.1 hj).1)
 ·have hx:(l++[x]).toArray[l.length]! =x:=by
   rw[getElem!_pos _ _ (by simp)]
   simp
  rw[hx]
  by_cases h0:l=[]
  ·subst h0
   rfl
  ·have hp:0<l.length:=List.length_pos_iff.2 h0
   have hlast:l.getLast? =some ((l++[x]).toArray[l.length-1]!):=by
    rw[hg _ (by omega),getElem!_pos _ _ (by simpa using by omega),List.getLast?_eq_getElem?]
    simp[hp]
   rw[hlast];unfold Lib.keeps;rw[hx]
   by_cases e:(l++[x]).toArray[l.length-1]! =x
   ·rw[if_neg,if_pos (by rw[e])]
    rw[decide_eq_true_eq];rintro(h|h)
    ·omega
    ·exact h e.symm
   ·rw[if_pos,if_neg (fun h=>e (Option.some.inj h))]
    rw[decide_eq_true_eq];exact .inr fun h=>e h.symm
theorem Ac:∀(n:Nat) (l:List L8),l.length=n->l.Pairwise (fun a b=>Op.bytesLess b a=false)->xF (Lib.compact l)/\ ∀z,z∈Lib.compact l↔z∈l:=by
 intro n
 induction n with
 |zero=>
  intro l hl _;obtain rfl:=List.eq_nil_of_length_eq_zero hl;exact⟨List.Pairwise.nil,fun z=>Iff.rfl⟩
 |succ n ih=>
  intro l hl hp;obtain⟨l,x,rfl⟩:∃l' x,l=l'++[x]:=⟨l.dropLast,l.getLast (by intro e;rw[e]at hl;cases hl),(List.dropLast_concat_getLast _).symm⟩;have hl':l.length=n:=by simpa using hl
  obtain⟨hp1,_,hp2⟩:=List.pairwise_append.1 hp;obtain⟨h1,h2⟩:=ih l hl' hp1;rw[vN]
  by_cases e:l.getLast? =some x
  ·rw[if_pos e,List.append_nil]
   refine⟨h1,fun z=>?_⟩;rw[h2,List.mem_append,List.mem_singleton]
   constructor
   ·exact .inl
   ·rintro(h|rfl)
    ·exact h
    ·exact List.mem_of_getLast? e
  ·rw[if_neg e]
   refine⟨List.pairwise_append.2 ⟨h1,List.pairwise_singleton _ _,fun a ha b hb=>?_⟩,fun z=>?_⟩
   ·rw[List.mem_singleton.1 hb]
    have ha:=(h2 a).1 ha
    obtain⟨y,hy⟩:∃y,l.getLast? =some y:=by
     cases hl:l.getLast? with
     |none=>rw[List.getLast?_eq_none_iff.1 hl]at ha;cases ha
     |some y=>exact⟨y,rfl⟩
    have hyl:=List.mem_of_getLast? hy
    have hyx:Op.bytesLess y x=true:=by
     cases hb2:Op.bytesLess y x
     ·exact absurd (by rw[hy,nU hb2 (hp2 y hyl x (by simp))]) e
     ·rfl
    by_cases ey:a=y
    ·rw[ey];exact hyx
    ·have hay:Op.bytesLess y a=false:=by
      obtain⟨l2,rfl⟩:∃l2,l=l2++[y]:=by
       refine⟨l.dropLast,?_⟩;have:=List.getLast?_eq_some_iff.1 hy;obtain⟨ys,rfl⟩:=this
       simp
      rcases List.mem_append.1 ha with ha|ha
      ·exact(List.pairwise_append.1 hp1).2.2 a ha y (by simp)
      ·exact absurd (List.mem_singleton.1 ha) ey
     have hya:Op.bytesLess a y=true:=by
      cases hb3:Op.bytesLess a y
      ·exact absurd (nU hb3 hay) ey
      ·rfl
     exact eK hya hyx
   ·rw[List.mem_append,h2,List.mem_append]
theorem mz (l:List L8):Lib.compact (l.mergeSort fun x y=>decide (x<=y))=jD l:=by
 have hs:(l.mergeSort fun x y=>decide (x<=y)).Pairwise (fun a b=>Op.bytesLess b a=false):=by
  have:=List.pairwise_mergeSort (le:=fun x y:L8=>decide (x<=y)) (fun a b c h1 h2=>?_) (fun a b=>?_) l
  ·refine this.imp fun {a b} h=>?_
   rw[AY]at h
   simpa using h
  ·rw[AY]at h1 h2 ⊢
   simp only[Bool.not_eq_true']at h1 h2 ⊢
   cases hb:Op.bytesLess c a
   ·rfl
   ·cases h3:Op.bytesLess a b
    ·rw[nU h3 h1,h2]at hb;cases hb
    ·rw[eK hb h3]at h2;cases h2
  ·rw[AY,AY]
   cases h1:Op.bytesLess b a
   ·rfl
   ·cases h2:Op.bytesLess a b
    ·rfl
    ·have:=eK h1 h2;rw[iX]at this;cases this
 obtain⟨h1,h2⟩:=Ac _ _ rfl hs;refine BA h1 (AO l) fun z=>?_
 rw[h2,gg,(List.mergeSort_perm l _).mem_iff]
mutual
def oo:Rx->List L8
 | .mk op _ _ _ _ nm args=>jD ((if op=2 then [nm]else [])++fH args)
def fH:List Rx->List L8
 | []=>[]
 |y::r=>oo y++fH r
end
theorem uR:∀l:List Rx,l.length<=eR l
 | []=>Nat.zero_le _
 |y::r=>by
  have:=uR r;cases y
  simp only[eR,ib,List.length_cons]
  omega
theorem Dk {na nb:Bool} {xs ys:List Nat}:aa Tryz.prog 126 [M2 na xs nb ys] (.one (dB (CN na xs nb ys))):=by
 show aa Tryz.prog _ [.agg (yQ na xs nb ys)] _
 by_cases h1:xs.length=0
 ·by_cases h2:ys.length=0
  ·have e:CN na xs nb ys=(!na && !nb):=by unfold CN;rw[decide_eq_true h1,decide_eq_true h2];simp
   rw[e];cases na<;>cases nb
   all_goals
    refine kU func126 ?_;refine kR ?_;refine kI ?_
    refine kO4 ?_
    refine kT ?_
    refine kO5 ?_
    refine kT ?_;exact kF
  ·have e:CN na xs nb ys=false:=by unfold CN;rw[decide_eq_false h2];simp
   rw[e];refine kU func126 ?_;refine gm ?_;refine kT ?_
   refine kO5 ?_
   refine kE ?_;exact ar
 ·have e:CN na xs nb ys=false:=by unfold CN;rw[decide_eq_false h1];simp
  rw[e];refine kU func126 ?_;refine gm ?_;refine kE ?_;exact ar
theorem I9 (args:List Rx):(args.any fun y=>!yX y)=!(args.all yX):=by
 rw[List.all_eq_not_any_not,Bool.not_not]
theorem vm:∀(x:Rx),nj x->I1 x->ib x<=1000000->aa Tryz.prog 87 [dR x] (.one (dB (yX x))):=by
 refine eQ fun op na xs nb ys nm args ih hx hlt hs=>?_
 obtain⟨_,_,hw,hw',hnm,hlen,hargs⟩:=hx;obtain⟨l1,l2,l3,hla⟩:=hlt;rw[ib]at hs;have hge:=uR args;obtain⟨t,hdec,_⟩:=De (na:=na) (nb:=nb) hw hw' l1 l2;have hm:=eD nm (by omega);have hno:=Dk (na:=na) (nb:=nb) (xs:=xs) (ys:=ys);have hcf:=eh (fid:=127) (p:=fun y=>!yX y) args (fun y hy=>fW (ih y hy (hargs y hy) (hla y hy) (by have:=pm hy;omega))) (by omega) (I9 args);rw[yX,rz];have hA0:args.length=0->args.all yX=true:=fun h=>by rw[List.eq_nil_of_length_eq_zero h];rfl
 refine MS ?_;generalize args.all yX=A at *;generalize args.length=L at *;generalize(qt na xs nb ys).isSome=d at *;generalize CN na xs nb ys=p at *;generalize o0 nm=m at *;have hdec:aa Tryz.prog 125 [.agg (yQ na xs nb ys)] (.tup [dL t,dB d]):=hdec;have hno:aa Tryz.prog 126 [.agg (yQ na xs nb ys)] (.one (dB p)):=hno
 by_cases o1:op=1
 ·subst o1
  by_cases hl:L=0
  ·rw[hA0 hl,Bool.and_true,yS,if_pos rfl,decide_eq_true hl,Bool.and_true]
   generalize hz:decide (nm=[])=z;refine gD ?_;refine Lq ?_;refine Ii ?_;refine kC (hdec) ?_;cases d
   ·exact ar
   ·refine kG ?_
    refine kO4 ?_
    cases z
    ·refine Ro ?_
     refine kO3 ?_
     refine kC (hm) ?_;cases m
     ·exact ar
     ·exact ar
    ·refine aD rfl rfl rfl rfl rfl rfl rfl (bf (a:=nm) (b:=[]) (of_decide_eq_true hz)) ?_
     exact ar
  ·rw[yS,if_pos rfl,decide_eq_false hl,Bool.and_false,Bool.false_and]
   refine gD ?_;refine Lq ?_;exact qa
 by_cases o2:op=2
 ·subst o2
  by_cases hl:L=0
  ·rw[hA0 hl,Bool.and_true,yS,if_neg (by decide),if_pos rfl,decide_eq_true hl,Bool.and_true]
   refine gD ?_;refine GB ?_;refine Ii ?_;refine kC (hno) ?_;cases p
   ·exact ar
   ·refine kW ?_
    refine kC (hm) ?_;cases m
    ·exact ar
    ·exact ar
  ·rw[yS,if_neg (by decide),if_pos rfl,decide_eq_false hl,Bool.and_false,Bool.false_and]
   refine gD ?_;refine GB ?_;exact qa
 by_cases o3:op=3
 ·subst o3
  by_cases hl:L=1
  ·rw[yS,if_neg (by decide),if_neg (by decide),if_pos rfl,decide_eq_true hl,Bool.and_true]
   generalize hz:decide (nm=[])=z;refine gD ?_;refine Ig ?_;exact ye
  ·rw[yS,if_neg (by decide),if_neg (by decide),if_pos rfl,decide_eq_false hl,Bool.and_false,Bool.false_and]
   refine gD ?_;refine Ig ?_;exact qa
 by_cases o4:op=4
 ·subst o4
  by_cases hl:L=2
  ·refine Og ?_
   generalize hz:decide (nm=[])=z;refine gD ?_;refine G1 ?_;exact ye
  ·refine Ll ?_
   refine gD ?_;refine G1 ?_;exact qa
 by_cases o5:op=5
 ·subst o5
  by_cases hl:L=2
  ·refine Og ?_
   generalize hz:decide (nm=[])=z;refine gD ?_;refine Hj ?_;exact ye
  ·refine Ll ?_
   refine gD ?_;refine Hj ?_;exact qa
 by_cases o6:op=6
 ·subst o6
  by_cases hl:L=2
  ·refine Og ?_
   generalize hz:decide (nm=[])=z;refine gD ?_;refine Hu ?_;exact ye
  ·refine Ll ?_
   refine gD ?_;refine Hu ?_;exact qa
 by_cases o7:op=7
 ·subst o7
  by_cases hl:L=2
  ·refine Og ?_
   generalize hz:decide (nm=[])=z;refine gD ?_;refine EC ?_;exact ye
  ·refine Ll ?_
   refine gD ?_;refine EC ?_;exact qa
 rw[yS,if_neg o1,if_neg o2,if_neg o3,if_neg (by omega),Bool.false_and]
 by_cases hlo:op<1
 ·refine kU func87 ?_
  refine qE ?_;refine kB true ?_ ?_
  ·exact decide_eq_true hlo
  exact ar
 ·refine kU func87 ?_
  refine qE ?_;refine kB false ?_ ?_
  ·exact decide_eq_false hlo
  refine kO3 ?_
  refine kT ?_;exact ar
theorem jA (x:Rx) (hx:nj x) (hl:I1 x) (hs:ib x<=1000000):aa Tryz.prog 44 [dR x] (.one (dN .i64 (lZ x))):=by
 have c1:=vm x hx hl hs;have c2:=lz x hx hs;obtain⟨o1,na1,xs1,nb1,ys1,nm1,n1,cs1,hA⟩:=aM x;rw[show dR x= .agg (ab o1 na1 xs1 nb1 ys1 nm1 n1 cs1) from congrArg DV.agg hA]at c1 c2 ⊢;unfold lZ;cases hb:yX x with
 |false=>
  rw[hb]at c1;rw[if_neg (by decide)];refine kU func44 ?_;exact oJ
 |true=>
  rw[hb]at c1;rw[if_pos rfl]
  by_cases hd:yJ x<=40
  ·rw[if_pos hd]
   refine kU func44 ?_;refine dm ?_;refine kC (c2) ?_;refine kE ?_;exact ar
  ·rw[if_neg hd]
   refine kU func44 ?_;refine dm ?_;refine kC (c2) ?_;refine kT ?_;exact ar
section
open Go.RowKit Go.Sort Go.Lib
def aF (l:List L8):List AV:=l.map fun x=> .val (vL x)
theorem qk {w:World} {B q:Nat} {arr:Array Value} {e:TypeId} {fz:Nat × Nat} (h:w.heap[B]? =some (.cells arr e fz)) (d:List L8) (os:Array Obj):
 (grow (putRow encStr (Sort.ahead w q) B 0 d.toArray) os).heap[B]? =some (.cells (putCells encStr 0 d.toArray arr) e fz):=by
 have hB:=(Array.getElem?_eq_some_iff.1 h).1;unfold grow putRow mapBlock;show(((Sort.ahead w q).heap.modify B _)++os)[B]? =_;rw[Array.getElem?_append_left (by simpa using hB),Array.getElem?_modify,if_pos rfl];show(w.heap[B]?).map _=_;rw[h];rfl
theorem yG {w:World} {B q k:Nat} (hk:k<w.heap.size) (hne:k≠B) (d:List L8) (os:Array Obj):
 (grow (putRow encStr (Sort.ahead w q) B 0 d.toArray) os).heap[k]? =w.heap[k]?:=by
 unfold grow putRow mapBlock;show(((Sort.ahead w q).heap.modify B _)++os)[k]? =_;rw[Array.getElem?_append_left (by simpa using hk),Array.getElem?_modify,if_neg (fun h=>hne h.symm)];rfl
theorem CS {d:List L8} {arr:Array Value} (hl:d.length<=arr.size) (i:Nat):(putCells encStr 0 d.toArray arr)[i]? =if i<d.length then(d[i]?).map vL else arr[i]?:=by
 unfold putCells;rw[Array.getElem?_mapIdx]
 by_cases h:i<d.length
 ·rw[if_pos h]
  have h2:i<arr.size:=by omega
  simp[h,h2]
  rfl
 ·rw[if_neg h]
  cases hx:arr[i]? with
  |none=>rfl
  |some x=>simp;omega
theorem Ct {S:Nat->Prop} {g:Nat->Nat} {w:World} {l d:List L8} {q:Nat} {os:Array Obj} (hS:Eo S g w [(901,aF l)]) (hd:d.length=l.length):
 lW (Own S g (sB [(901,aF d)])) g (sB [(901,aF d)]) (grow (putRow encStr (Sort.ahead w q) (g 901) 0 d.toArray) os) 901 (aF d) (g 901) /\
  bO (BX g [(901,aF l)]) w (grow (putRow encStr (Sort.ahead w q) (g 901) 0 d.toArray) os) /\
  ∀arr e,w.heap[g 901]? =some (.cells arr e (0,0))-> ∃arr',(grow (putRow encStr (Sort.ahead w q) (g 901) 0 d.toArray) os).heap[g 901]? =some (.cells arr' e (0,0))/\arr'.size=arr.size:=by
 obtain⟨arr,e,h1,h2,h3,_,h5⟩:=hS.bm 901 (aF l) (aS.2 ⟨rfl,rfl⟩);have hlen:l.length<=arr.size:=by have:=h2.1;simpa[aF]using this
 have hsz:(putCells encStr 0 d.toArray arr).size=arr.size:=by simp[putCells]
 refine⟨⟨_,e,qk h1 d os,⟨by simp[aF,hsz];omega,fun i a v ha hv=>?_⟩,fun _ v hv=>?_,(fun h=>by cases h),(fun h=>by cases h)⟩,⟨rfl,rfl,rfl,?_,fun k hk hx=>?_,fun k hk hx arr2 e2 fz2 h=>?_⟩,fun arr2 e2 h=>?_⟩
 ·have hi:i<d.length:=by have:=(List.getElem?_eq_some_iff.1 ha).1;simpa[aF]using this
  rw[Array.getElem?_toList,CS (by omega),if_pos hi]at hv
  simp[hi]at hv
  simp[aF,hi]at ha
  subst ha hv;exact .val rfl
 ·obtain⟨i,hi⟩:=List.getElem?_of_mem hv
  rw[Array.getElem?_toList,CS (by omega)]at hi
  split at hi
  ·rename_i hlt
   simp[hlt]at hi
   subst hi;rfl
  ·exact h3 rfl v (by rw[<- Array.getElem?_toList]at hi;exact List.mem_of_getElem? hi)
 ·show w.heap.size<=_
  simp[grow,putRow,mapBlock]
 ·rw[lY]at hx
  exact yG hk (fun h=>hx h.symm) d os
 ·rw[lY]at hx
  subst hx;rw[h1]at h;cases h;exact⟨_,_,qk h1 d os,hsz⟩
 ·rw[h1]at h
  cases h;exact⟨_,qk h1 d os,hsz⟩
theorem tU {S:Nat->Prop} {g:Nat->Nat} {w:World} {l:List L8} (hS:Eo S g w [(901,aF l)]):Holds encStr w (g 901) 0 l.toArray/\g 901<w.heap.size:=by
 obtain⟨arr,e,h1,h2,_⟩:=hS.bm 901 (aF l) (aS.2 ⟨rfl,rfl⟩);have hlen:l.length<=arr.size:=by have:=h2.1;simpa[aF]using this
 refine⟨fun j hj=>?_,(Array.getElem?_eq_some_iff.1 h1).1⟩;have hj:j<l.length:=by simpa using hj
 have hv:=h2.2 j (.val (vL l[j])) arr[j] (by simp[aF,hj]) (by simp);rw[Nat.zero_add];refine⟨?_,?_⟩
 ·rw[cM h1,Array.getElem?_eq_getElem (by omega),aT hv]
  simp[hj]
  rfl
 ·unfold World.frozen?
  simp[h1]
theorem Lc {l:List L8} (hl:l.length<=1000000):ap Tryz.prog 322 [.own 901 l.length 1 9] [(901,aF l)] (.v (.tup [])) [(901,aF (l.mergeSort fun x y=>decide (x<=y)))]:=
 ⟨av func322 rfl rfl,fun S g w vs hS hv=>by
  match vs,hv with
  | [v],⟨⟨_,h1⟩,_⟩=>
   obtain⟨c,rfl,_,_,_,_⟩:=h1 (aF l) (aS.2 ⟨rfl,rfl⟩);obtain⟨hH,hB⟩:=tU hS;refine(Tryz.slices_Sort_string (g 901) 0 c l w hH hB (by omega)).mono ?_;rintro e w' ⟨rfl,q,os,rfl⟩;obtain⟨r1,r2,_⟩:=Ct (d:=l.mergeSort fun x y=>decide (x<=y)) (q:=q) (os:=os) hS (List.length_mergeSort _);refine⟨_,g,rfl,fun j cs cs' h h'=>?_,fun j cs' h=>?_,fun i j ci cj hi hj _=>?_,?_,r2⟩
   ·obtain⟨_,rfl⟩:=aS.1 h
    obtain⟨_,rfl⟩:=aS.1 h';exact⟨rfl,by simp[aF]⟩
   ·obtain⟨rfl,rfl⟩:=aS.1 h
    exact⟨.inr (by rw[lY]),r1⟩
   ·rw[(aS.1 hi).1,(aS.1 hj).1]
   ·exact⟨[],rfl,rfl,fun i x u h=>by simp at h⟩⟩
theorem zd {l:List L8} (hl:l.length<=1000000):ap Tryz.prog 323 [.own 901 l.length 1 9] [(901,aF l)] (.own 901 (Lib.compact l).length 1 9) [(901,aF (Lib.compact l++List.replicate (l.length-(Lib.compact l).length) []))]:=
 ⟨av func323 rfl rfl,fun S g w vs hS hv=>by
  match vs,hv with
  | [v],⟨⟨hk,h1⟩,_⟩=>
   obtain⟨c,rfl,h2,h3,h4,arr,h5,h6⟩:=h1 (aF l) (aS.2 ⟨rfl,rfl⟩);obtain⟨hH,hB⟩:=tU hS;have hcl:=Lib.compact_length_le l;refine(Tryz.slices_Compact_string (g 901) 0 c l w hH (by omega) h2).mono ?_;rintro e w' ⟨rfl,q,rfl⟩;obtain⟨r1,r2,r3⟩:=Ct (d:=Lib.compact l++List.replicate (l.length-(Lib.compact l).length) []) (q:=q) (os:= #[]) hS (by simp;omega);rw[grow_empty]at r1 r2 r3;obtain⟨arr',r4,r5⟩:=r3 arr _ h5;refine⟨_,g,rfl,fun j cs cs' h h'=>?_,fun j cs' h=>?_,fun i j ci cj hi hj _=>?_,?_,r2⟩
   ·obtain⟨_,rfl⟩:=aS.1 h
    obtain⟨_,rfl⟩:=aS.1 h';exact⟨rfl,by simp[aF];omega⟩
   ·obtain⟨rfl,rfl⟩:=aS.1 h
    exact⟨.inr (by rw[lY]),r1⟩
   ·rw[(aS.1 hi).1,(aS.1 hj).1]
   ·refine⟨AS.kn_of (aS.2 ⟨rfl,rfl⟩),fun cs hc=>?_⟩
    obtain⟨_,rfl⟩:=aS.1 hc;exact⟨c,rfl,by omega,h3,by simp[aF],arr',r4,by rw[r5,h6]⟩⟩
end
mutual
def vV:Rx->Rx->Bool
 | .mk op na xs nb ys nm args, .mk op' na' xs' nb' ys' nm' args'=>decide (op=op') && (decide (nm=nm') && (decide (args.length=args'.length) && ((sameB na na' xs xs' && sameB nb nb' ys ys') && jI args args')))
def jI:List Rx->List Rx->Bool
 |x::r,y::s=>vV x y && jI r s
 | [],_=>true
 |_::_,[]=>true
end
theorem j7:∀(l m:List Rx),l.length=m.length->(jI l m=true↔ ∀(i:Nat) x y,l[i]? =some x->m[i]? =some y->vV x y=true)
 | [],[],_=>by simp[jI]
 |x::r,y::s,h=>by
  have ih:=j7 r s (by simpa using h);rw[jI,Bool.and_eq_true,ih]
  constructor
  ·rintro⟨h1,h2⟩ i a b ha hb
   cases i with
   |zero=>simp at ha hb;subst ha hb;exact h1
   |succ i=>exact h2 i a b (by simpa using ha) (by simpa using hb)
  ·intro hall
   exact⟨hall 0 x y rfl rfl,fun i a b ha hb=>hall (i+1) a b (by simpa using ha) (by simpa using hb)⟩
theorem F6:∀x:Rx,vV x x=true:=by
 refine eQ fun op na xs nb ys nm args ih=>?_
 have h:jI args args=true:=(j7 args args rfl).2 fun i x y hx hy=>by
  rw[hx]at hy;cases hy;exact ih x (List.mem_of_getElem? hx)
 rw[vV,h,j0 rfl,j0 rfl]
 simp
theorem yK {na nb na' nb':Bool} {xs ys xs' ys':List Nat} (hl:xs.length<=2147483648) (hl':ys.length<=2147483648):aa Tryz.prog 24 [M2 na xs nb ys,M2 na' xs' nb' ys'] (.one (dB (sameB na na' xs xs' && sameB nb nb' ys ys'))):=by
 have c1:aa Tryz.prog 59 [dI na xs,dI na' xs'] (.one (dB (sameB na na' xs xs'))):=fq hl rfl;have c2:aa Tryz.prog 59 [dI nb ys,dI nb' ys'] (.one (dB (sameB nb nb' ys ys'))):=fq hl' rfl;generalize sameB na na' xs xs'=b1 at *;generalize sameB nb nb' ys ys'=b2 at *;cases b1
 ·refine kU func24 ?_
  exact oJ
 ·cases b2
  all_goals
   refine kV func24 ?_;refine kQ (c1) ?_;refine kC (c2) ?_;exact kF
theorem r9:∀(x:Rx),Pz x-> ∀y,Pz y->aa Tryz.prog 70 [dR x,dR y] (.one (dB (vV x y))):=by
 refine eQ fun op na xs nb ys nm args ih hx=>?_
 rintro⟨op',na',xs',nb',ys',nm',args'⟩ hy;obtain⟨h1,h2,h3,h4⟩:=hx;obtain⟨_,_,g3,g4⟩:=hy;have cs:=yK (na:=na) (nb:=nb) (na':=na') (nb':=nb') (xs':=xs') (ys':=ys') h1 h2;have hall:=j7 args args';rw[vV];generalize(sameB na na' xs xs' && sameB nb nb' ys ys')=bs at *;refine Mt ?_;have cs:aa Tryz.prog 24 [.agg (yQ na xs nb ys), .agg (yQ na' xs' nb' ys')] (.one (dB bs)):=cs
 by_cases e1:op=op'
 ·rw[decide_eq_true e1,Bool.true_and]
  by_cases e2:nm=nm'
  ·rw[decide_eq_true e2,Bool.true_and]
   by_cases e3:args.length=args'.length
   ·rw[decide_eq_true e3,Bool.true_and]
    have hall:=hall e3;cases bs
    ·rw[Bool.false_and]
     refine MY ?_;exact ar
    ·rw[Bool.true_and]
     generalize jI args args'=B at *;refine MY ?_;refine kW ?_
     refine ax Nat (fun i=>i<=args.length/\ ∀(q:Nat) x y,q<i->args[q]? =some x->args'[q]? =some y->vV x y=true) (fun i=>⟨[(2, .box 0 0),(3, .box 1 0),(4, .d (dB false)),(5, .d (dN .i64 i))],[(0,some (ab op na xs nb ys nm args.length (eE args))),(1,some (ab op' na' xs' nb' ys' nm' args'.length (eE args')))]⟩) (fun i=>args.length-i) 0 ⟨Nat.zero_le _,fun q x y h=>absurd h (Nat.not_lt_zero _)⟩
      kw ?_
     rintro i ⟨hi,hq⟩;refine kI ?_
     refine kO4 ?_
     by_cases hlt:i<args.length
     ·refine kT ?_
      have hlt':i<args'.length:=by omega
      obtain⟨o1,na1,xs1,nb1,ys1,nm1,n1,cs1,hA⟩:=aM args[i];obtain⟨o2,na2,xs2,nb2,ys2,nm2,n2,cs2,hA2⟩:=aM args'[i];have hx:args[i]? =some args[i]:=by simp[hlt]
      have hy:args'[i]? =some args'[i]:=by simp[hlt']
      have hat:∀(j:Nat) (a:AV),(ab o1 na1 xs1 nb1 ys1 nm1 n1 cs1)[j]? =some a->(eE args)[i*7+j]? =some a:=fun j a h=>eu args i args[i] hx j a (by rw[hA];exact h)
      have hat':∀(j:Nat) (a:AV),(ab o2 na2 xs2 nb2 ys2 nm2 n2 cs2)[j]? =some a->(eE args')[i*7+j]? =some a:=fun j a h=>eu args' i args'[i] hy j a (by rw[hA2];exact h)
      have c:=ih args[i] (List.getElem_mem hlt) (h4 _ (List.getElem_mem hlt)) args'[i] (g4 _ (List.getElem_mem hlt'));rw[show dR args[i]= .agg (ab o1 na1 xs1 nb1 ys1 nm1 n1 cs1) from congrArg DV.agg hA,show dR args'[i]= .agg (ab o2 na2 xs2 nb2 ys2 nm2 n2 cs2) from congrArg DV.agg hA2]at c;refine uX ?_;refine kW ?_;refine M5 ?_;refine kW ?_;cases hb:vV args[i] args'[i]
      ·exact BJ
      ·rw[hb]at c
       refine kQ (c) ?_
       exact⟨i+1,⟨hlt,fun q x y h1 h2 h3=>by
        by_cases e:q=i
        ·subst e;rw[hx]at h2;rw[hy]at h3;cases h2;cases h3;exact hb
        ·exact hq q x y (by omega) h2 h3⟩,by omega,weak ⟨rfl,rfl,rfl,aA (by omega) (by omega),trivial⟩ ⟨rfl,rfl,trivial⟩ rfl⟩
     ·exact Bv
   ·rw[decide_eq_false e3,Bool.false_and]
    refine kU func70 ?_;refine gm ?_;refine Rj ?_;refine oZ ?_;exact ar
  ·rw[decide_eq_false e2,Bool.false_and]
   refine kU func70 ?_;refine gm ?_;refine kB false ?_ ?_
   ·exact(by simp[e1])
   refine kO5 ?_
   refine aD rfl rfl rfl rfl rfl rfl rfl (jJ (a:=nm) (b:=nm') e2) ?_;exact ar
 ·rw[decide_eq_false e1,Bool.false_and]
  refine kU func70 ?_;refine gm ?_;refine kB true ?_ ?_
  ·exact(by simp[e1])
  exact ar
theorem Dq {xs ys:List Nat} (hl:xs.length<=2147483648):aa Tryz.prog 165 [dW xs,dW ys] (.one (dB (decide (xs=ys)))):=by
 show aa Tryz.prog _ [.leaf (.sl xs.length (xs.map fun x=>AV.val (bU x))), .leaf (.sl ys.length (ys.map fun x=>AV.val (bU x)))] _
 by_cases hxy:xs.length=ys.length
 ·obtain⟨b,hb⟩:∃b,decide (xs=ys)=b:=⟨_,rfl⟩
  rw[hb];refine kU func165 ?_;refine gm ?_;refine AW ?_;refine ax Nat (fun j=>j<=xs.length/\ ∀i,i<j->xs[i]? =ys[i]?) (fun j=>⟨[(0, .d (dW xs)),(1, .d (dW ys)),(4, .d (dB false)),(12, .d (dN .i64 xs.length)),(13, .d (dN .i64 j))],[]⟩) (fun j=>xs.length-j) 0 ⟨Nat.zero_le _,fun i h=>absurd h (Nat.not_lt_zero _)⟩ kw ?_;rintro j ⟨hj,hall⟩;refine kI ?_
  by_cases hlt:j<xs.length
  ·refine kT ?_
   have hlt':j<ys.length:=by omega
   refine kW ?_;refine aP (i:=j) (cs':=[AV.val (bU xs[j])]) hlt (BM (by simp[hlt])) (Nat.lt_succ_self 0) rfl rfl rfl rfl rfl rfl rfl rfl ?_;refine kW ?_;refine aP (i:=j) (cs':=[AV.val (bU ys[j])]) hlt' (BM (by simp[hlt'])) (Nat.lt_succ_self 0) rfl rfl rfl rfl rfl rfl rfl rfl ?_;refine kO ?_
   by_cases he:xs[j]=ys[j]
   ·exact P5
   ·have hne:b=false:=by rw[<- hb];exact decide_eq_false fun e=>he (by subst e;rfl)
    cases b
    ·refine oZ ?_
     exact ar
    ·cases hne
  ·exact HG
 ·rw[decide_eq_false (fun e=>hxy (by rw[e]))]
  refine kU func165 ?_;refine gm ?_;refine oZ ?_;exact ar
theorem oT {na nb:Bool} {xs ys:List Nat} (hl:xs.length<=2147483648):aa Tryz.prog 118 [dI na xs,dI nb ys] (.one (dB (sameB na nb xs ys))):=by
 have c:=Dq (ys:=ys) hl;unfold sameB;generalize decide (xs=ys)=b at *
 by_cases h:na=nb
 ·subst h
  cases na<;>cases b
  all_goals
   refine kV func118 ?_;refine kC (c) ?_;exact kF
 ·cases na<;>cases nb<;>first|exact absurd rfl h|skip
  all_goals
   refine kU func118 ?_;exact kF
theorem mo {fid:FuncId} (args args':List Rx) (hp:∀x∈args,∀y∈args',aa Tryz.prog fid [dR x,dR y] (.one (dB (vV x y)))) (hl:args.length<=1000000):
 aa Tryz.prog 75 [.leaf (.sl args.length (eE args)), .leaf (.sl args'.length (eE args')),dF fid] (.one (dB (decide (args.length=args'.length) && jI args args'))):=by
 have hall:=j7 args args'
 by_cases e3:args.length=args'.length
 ·rw[decide_eq_true e3,Bool.true_and]
  have hall:=hall e3;generalize jI args args'=B at *;refine kU func75 ?_;refine gm ?_;refine kB false ?_ ?_
  ·exact(by simp[e3])
  refine kW ?_
  refine ax Nat (fun i=>i<=args.length/\ ∀(q:Nat) x y,q<i->args[q]? =some x->args'[q]? =some y->vV x y=true) (fun i=>⟨[(1, .d (.leaf (.sl args'.length (eE args')))),(2, .d (dF fid)),(6, .d (dB false)),(15, .d (.leaf (.sl args.length (eE args)))),(16, .d (dN .i64 args.length)),(17, .d (dN .i64 i))],[]⟩) (fun i=>args.length-i) 0 ⟨Nat.zero_le _,fun q x y h=>absurd h (Nat.not_lt_zero _)⟩
   kw ?_
  rintro i ⟨hi,hq⟩;refine kI ?_
  by_cases hlt:i<args.length
  ·refine kT ?_
   have hlt':i<args'.length:=by omega
   obtain⟨o1,na1,xs1,nb1,ys1,nm1,n1,cs1,hA⟩:=aM args[i];obtain⟨o2,na2,xs2,nb2,ys2,nm2,n2,cs2,hA2⟩:=aM args'[i];have hx:args[i]? =some args[i]:=by simp[hlt]
   have hy:args'[i]? =some args'[i]:=by simp[hlt']
   have hat:∀(j:Nat) (a:AV),(ab o1 na1 xs1 nb1 ys1 nm1 n1 cs1)[j]? =some a->(eE args)[i*7+j]? =some a:=fun j a h=>eu args i args[i] hx j a (by rw[hA];exact h)
   have hat':∀(j:Nat) (a:AV),(ab o2 na2 xs2 nb2 ys2 nm2 n2 cs2)[j]? =some a->(eE args')[i*7+j]? =some a:=fun j a h=>eu args' i args'[i] hy j a (by rw[hA2];exact h)
   have c:=hp args[i] (List.getElem_mem hlt) args'[i] (List.getElem_mem hlt');rw[show dR args[i]= .agg (ab o1 na1 xs1 nb1 ys1 nm1 n1 cs1) from congrArg DV.agg hA,show dR args'[i]= .agg (ab o2 na2 xs2 nb2 ys2 nm2 n2 cs2) from congrArg DV.agg hA2]at c;refine uX ?_;refine kW ?_;refine M5 ?_;refine kW ?_;cases hb:vV args[i] args'[i]
   ·exact BJ
   ·rw[hb]at c
    refine kQ (c) ?_
    exact⟨i+1,⟨hlt,fun q x y h1 h2 h3=>by
     by_cases e:q=i
     ·subst e;rw[hx]at h2;rw[hy]at h3;cases h2;cases h3;exact hb
     ·exact hq q x y (by omega) h2 h3⟩,by omega,weak ⟨rfl,rfl,rfl,rfl,rfl,aA (by omega) (by omega),trivial⟩ trivial rfl⟩
  ·exact Bv
 ·rw[decide_eq_false e3,Bool.false_and]
  refine kU func75 ?_;refine gm ?_;refine oZ ?_;exact ar
theorem yE:∀(x:Rx),Pz x-> ∀y,Pz y->aa Tryz.prog 76 [dR x,dR y] (.one (dB (vV x y))):=by
 refine eQ fun op na xs nb ys nm args ih hx=>?_
 rintro⟨op',na',xs',nb',ys',nm',args'⟩ hy;obtain⟨h1,h2,h3,h4⟩:=hx;obtain⟨_,_,g3,g4⟩:=hy;have c1:=oT (na:=na) (nb:=na') (ys:=xs') h1;have c2:=oT (na:=nb) (nb:=nb') (ys:=ys') h2;have c3:=mo (fid:=76) args args' (fun x hx y hy=>ih x hx (h4 x hx) y (g4 y hy)) h3;rw[vV];generalize sameB na na' xs xs'=b1 at *;generalize sameB nb nb' ys ys'=b2 at *;have e0:(decide (args.length=args'.length) && ((b1 && b2) && jI args args'))=(b1 && (b2 && (decide (args.length=args'.length) && jI args args'))):=by cases b1<;>cases b2<;>simp
 rw[e0];generalize(decide (args.length=args'.length) && jI args args')=b3 at *;refine Mt ?_;have c1:aa Tryz.prog 118 [.agg (aI na xs), .agg (aI na' xs')] (.one (dB b1)):=c1;have c2:aa Tryz.prog 118 [.agg (aI nb ys), .agg (aI nb' ys')] (.one (dB b2)):=c2
 by_cases e1:op=op'
 ·rw[decide_eq_true e1,Bool.true_and]
  by_cases e2:nm=nm'
  ·rw[decide_eq_true e2,Bool.true_and]
   cases b1
   ·refine LP ?_
    exact ar
   ·cases b2
    ·refine LP ?_
     iterate 8 refine kO ?_
     refine kC (c2) ?_;exact ar
    ·cases b3
     all_goals
      refine kU func76 ?_;refine kR ?_;refine kI ?_
      refine kO4 ?_
      refine kB true ?_ ?_
      ·exact(by simp[e1])
      refine kO5 ?_
      refine aD rfl rfl rfl rfl rfl rfl rfl (bf (a:=nm) (b:=nm') e2) ?_
      iterate 8 refine kO ?_
      refine kC (c1) ?_
      iterate 8 refine kO ?_
      refine kQ (c2) ?_;refine kC (c3) ?_;exact kF
  ·rw[decide_eq_false e2,Bool.false_and]
   refine kU func76 ?_;refine gm ?_;refine NT ?_;refine aD rfl rfl rfl rfl rfl rfl rfl (bT (a:=nm) (b:=nm') e2) ?_;exact ar
 ·rw[decide_eq_false e1,Bool.false_and]
  refine kU func76 ?_;refine gm ?_;refine kB false ?_ ?_
  ·exact(by simp[e1])
  exact ar
abbrev Pm:=L8 × Rx
abbrev Tb:=List Pm
def l0:Tb->L8->Nat
 | [],_=>0
 |p::r,n=>if p.1=n then 0 else l0 r n+1
theorem AE:∀{l:Tb} {n:L8},l0 l n<l.length↔ ∃p∈l,p.1=n
 | [],n=>by simp[l0]
 |p::r,n=>by
  have ih:=AE (l:=r) (n:=n);unfold l0
  split
  ·rename_i h;simp[h]
  ·rename_i h
   simp only[List.length_cons,Nat.add_lt_add_iff_right,ih,List.mem_cons,exists_eq_or_imp,h,false_or]
theorem Fw:∀{l:Tb} {n:L8},l0 l n<l.length-> ∃p,l[l0 l n]? =some p/\p.1=n
 | [],n,h=>by simp[l0]at h
 |p::r,n,h=>by
  unfold l0 at h ⊢
  split
  ·rename_i e;exact⟨p,rfl,e⟩
  ·rename_i e
   rw[if_neg e]at h;obtain⟨q,h1,h2⟩:=Fw (l:=r) (n:=n) (by simpa using h);exact⟨q,by simpa using h1,h2⟩
theorem iZ:∀{l:Tb} {n:L8} {i:Nat} {p:Pm},i<l0 l n->l[i]? =some p->p.1≠n
 | [],n,i,p,_,h=>by simp at h
 |q::r,n,i,p,hi,h=>by
  unfold l0 at hi
  split at hi
  ·omega
  ·rename_i e
   cases i with
   |zero=>simp at h;subst h;exact e
   |succ i=>exact iZ (l:=r) (n:=n) (i:=i) (by omega) (by simpa using h)
theorem Pv {l:Tb} {n:L8} {i:Nat} {p:Pm} (h:l[i]? =some p) (hp:p.1=n) (hb:∀(j:Nat) (q:Pm),j<i->l[j]? =some q->q.1≠n):l0 l n=i:=by
 have h1:¬i<l0 l n:=fun h2=>iZ h2 h hp
 have h2:l0 l n<l.length:=AE.2 ⟨p,List.mem_of_getElem? h,hp⟩
 obtain⟨q,h3,h4⟩:=Fw h2;rcases Nat.lt_or_ge (l0 l n) i with h5|h5
 ·exact absurd h4 (hb _ q h5 h3)
 ·omega
def PA (l:Tb) (n:L8):Int:=if l0 l n<l.length then(l0 l n:Int)else -1
def GW (l:Tb):Nat->Tb->Int
 |_,[]=>0
 |i,p::r=>if o0 p.1=true then(if lZ p.2=0 then(if l0 l p.1<i then 5 else GW l (i+1) r)else lZ p.2)else 1
def BF (l:Tb):Int:=if 200<l.length then 3 else GW l 0 l
structure yP (l:Tb):Prop where
 len:l.length<=200
 nm:∀p∈l,o0 p.1=true
 ex:∀p∈l,lZ p.2=0
 nd:∀(i j:Nat) (p q:Pm),l[i]? =some p->l[j]? =some q->p.1=q.1->i=j
theorem FK (l:Tb):∀(i:Nat) (r:Tb),l.drop i=r->GW l i r=0-> ∀(j:Nat) (p:Pm),i<=j->l[j]? =some p->o0 p.1=true/\lZ p.2=0/\j<=l0 l p.1
 |i,[],h,_,j,p,hj,hp=>by
  have:=congrArg List.length h;have h1:=(List.getElem?_eq_some_iff.1 hp).1
  simp at this
  omega
 |i,q::r,h,h0,j,p,hj,hp=>by
  have hq:l[i]? =some q:=by
   have:=congrArg (·[0]?) h
   simpa using this
  unfold GW at h0
  split at h0
  ·rename_i h1
   split at h0
   ·rename_i h2
    split at h0
    ·cases h0
    ·rename_i h3
     by_cases e:j=i
     ·subst e;rw[hq]at hp;cases hp;exact⟨h1,h2,by omega⟩
     ·exact FK l (i+1) r (by rw[<- List.drop_drop,h];rfl) h0 j p (by omega) hp
   ·rename_i h2;exact absurd h0 h2
  ·cases h0
theorem uA {l:Tb} (h:BF l=0):yP l:=by
 unfold BF at h
 split at h
 ·cases h
 rename_i hl
 have key:=FK l 0 l rfl h;refine⟨by omega,fun p hp=>?_,fun p hp=>?_,?_⟩
 ·obtain⟨i,hi⟩:=List.getElem?_of_mem hp;exact(key i p (Nat.zero_le _) hi).1
 ·obtain⟨i,hi⟩:=List.getElem?_of_mem hp;exact(key i p (Nat.zero_le _) hi).2.1
 ·intro i j p q hi hj e
  have h1:=(key i p (Nat.zero_le _) hi).2.2;have h2:=(key j q (Nat.zero_le _) hj).2.2;rw[<- e]at h2;have h3:¬i<l0 l p.1:=fun h4=>iZ h4 hi rfl
  have h4:¬j<l0 l p.1:=fun h4=>iZ h4 hj e.symm
  omega
theorem yP.fd {l:Tb} (h:yP l) {i:Nat} {p:Pm} (hi:l[i]? =some p):l0 l p.1=i:=
 Pv hi rfl fun j q hj hq e=>by have:=h.nd _ _ _ _ hq hi e;omega
def vf (x:Rx) (out:List L8):Bool:=(oo x).all fun n=>decide (n∈out)
theorem KY {x:Rx} {out:List L8}:vf x out=true↔ ∀n∈oo x,n∈out:=by simp[vf]
def Dx (out:List L8) (p:Pm):Bool:=!(decide (p.1∈out)) && vf p.2 out
def qM (out:List L8) (nx:L8) (p:Pm):L8:=if Dx out p=true/\(nx=[]∨Op.bytesLess p.1 nx=true)then p.1 else nx
def Eu (l:Tb) (out:List L8):L8:=l.foldl (qM out) []
theorem Aw {out:List L8}:∀(l:Tb) (nx:L8),l.foldl (qM out) nx=nx∨ ∃p∈l,Dx out p=true/\l.foldl (qM out) nx=p.1
 | [],nx=> .inl rfl
 |p::r,nx=>by
  simp only[List.foldl_cons]
  by_cases h:Dx out p=true/\(nx=[]∨Op.bytesLess p.1 nx=true)
  ·rw[show qM out nx p=p.1 from if_pos h]
   rcases Aw r p.1 with h1| ⟨q,hq,h1,h2⟩
   ·exact .inr ⟨p,by simp,h.1,h1⟩
   ·exact .inr ⟨q,by simp[hq],h1,h2⟩
  ·rw[show qM out nx p=nx from if_neg h]
   rcases Aw r nx with h1| ⟨q,hq,h1,h2⟩
   ·exact .inl h1
   ·exact .inr ⟨q,by simp[hq],h1,h2⟩
theorem JV {l:Tb} {out:List L8} (h:Eu l out≠[]):∃p∈l,Dx out p=true/\Eu l out=p.1:=by
 rcases Aw (out:=out) l []with h1|h1
 ·exact absurd h1 h
 ·exact h1
def mV (l:Tb):Nat->List L8->Option (List L8)
 |0,out=>some out
 |k+1,out=>if Eu l out=[]then none else mV l k (out++[Eu l out])
def fE (l:Tb):List L8 × Int:=
 if BF l=0 then(if l.all (fun p=>vf p.2 (l.map (·.1)))=true then(match mV l l.length []with|some o=>(o,0)|none=>([],9))else([],4))else([],BF l)
structure nV (l:Tb) (o:List L8):Prop where
 nd:o.Nodup
 mem:∀n∈o,∃p∈l,p.1=n
 up:∀(i:Nat) (n:L8) (p:Pm),o[i]? =some n->p∈l->p.1=n-> ∀m∈oo p.2,m∈o.take i
theorem nV.nil (l:Tb):nV l []:=⟨List.nodup_nil,fun n h=>(by cases h),fun i n p h=>by simp at h⟩
theorem nV.snoc {l:Tb} (hl:yP l) {o:List L8} (h:nV l o) {p:Pm} (hp:p∈l) (hc:Dx o p=true):nV l (o++[p.1]):=by
 unfold Dx at hc
 simp only[Bool.and_eq_true,Bool.not_eq_true',decide_eq_false_iff_not]at hc
 refine⟨?_,fun n hn=>?_,fun i n q hi hq e m hm=>?_⟩
 ·rw[List.nodup_append]
  refine⟨h.nd,List.nodup_cons.2 ⟨by simp,List.nodup_nil⟩,fun a ha b hb=>?_⟩;rw[List.mem_singleton.1 hb];exact fun e=>hc.1 (e ▸ ha)
 ·rcases List.mem_append.1 hn with hn|hn
  ·exact h.mem n hn
  ·exact⟨p,hp,(List.mem_singleton.1 hn).symm⟩
 ·rcases Nat.lt_or_ge i o.length with hlt|hge
  ·rw[List.getElem?_append_left hlt]at hi
   rw[List.take_append_of_le_length (by omega)];exact h.up i n q hi hq e m hm
  ·rw[List.getElem?_append_right hge]at hi
   have hi0:i=o.length:=by
    have:=(List.getElem?_eq_some_iff.1 hi).1
    simp at this
    omega
   subst hi0
   simp at hi
   subst hi;obtain⟨a,ha⟩:=List.getElem?_of_mem hp;obtain⟨b,hb⟩:=List.getElem?_of_mem hq;have:=hl.nd _ _ _ _ hb ha e;subst this;rw[ha]at hb;cases hb;rw[List.take_left']
   ·exact KY.1 hc.2 m hm
   ·rfl
theorem xZ {l:Tb} (hl:yP l):∀(k:Nat) (out o:List L8),nV l out->mV l k out=some o->nV l o/\o.length=out.length+k
 |0,out,o,h,e=>by cases e;exact⟨h,rfl⟩
 |k+1,out,o,h,e=>by
  unfold mV at e
  split at e
  ·cases e
  ·rename_i hn
   obtain⟨p,hp,hc,hx⟩:=JV hn;rw[hx]at e;obtain⟨h1,h2⟩:=xZ hl k _ o (h.snoc hl hp hc) e;exact⟨h1,by simp at h2;omega⟩
theorem Cz {l:Tb} {o:List L8} (h:fE l=(o,0)):yP l/\nV l o/\o.length=l.length:=by
 unfold fE at h
 split at h
 ·rename_i hv
  split at h
  ·split at h
   ·rename_i o' ho
    cases h;have:=xZ (uA hv) l.length [] o (.nil l) ho;exact⟨uA hv,this.1,by simpa using this.2⟩
   ·cases h
  ·cases h
 ·rename_i hv
  injection h with h1 h2
  exact absurd h2 hv
theorem nD:∀{a b:List L8},a.Nodup->(∀x∈a,x∈b)->a.length<=b.length
 | [],_,_,_=>Nat.zero_le _
 |x::a,b,h,hs=>by
  have hx:=hs x (by simp);obtain⟨h1,h2⟩:=List.nodup_cons.1 h;have:=nD (a:=a) (b:=b.erase x) h2 fun y hy=>(List.mem_erase_of_ne (fun e:y=x=>h1 (by rw[<- e];exact hy))).2 (hs y (List.mem_cons_of_mem _ hy))
  rw[List.length_erase_of_mem hx]at this;have:=List.length_pos_of_mem hx
  simp only[List.length_cons]
  omega
theorem nV.all {l:Tb} {o:List L8} (h:nV l o) (hlen:o.length=l.length):∀p∈l,p.1∈o:=fun p hp=>by
 refine Classical.byContradiction fun hn=>?_
 have:=nD (a:=p.1::o) (b:=l.map (·.1)) (List.nodup_cons.2 ⟨hn,h.nd⟩) fun x hx=>by
  rcases List.mem_cons.1 hx with rfl|hx
  ·exact List.mem_map.2 ⟨p,hp,rfl⟩
  ·obtain⟨q,hq,e⟩:=h.mem x hx;exact List.mem_map.2 ⟨q,hq,e⟩
 simp at this
 omega
theorem Kq {l:Tb} {out:List L8} {i:Nat} {p:Pm} (h:l[i]? =some p):(l.take (i+1)).foldl (qM out) []=qM out ((l.take i).foldl (qM out) []) p:=by
 have hi:=(List.getElem?_eq_some_iff.1 h).1;have e:=(List.getElem?_eq_some_iff.1 h).2;rw[List.take_succ_eq_append_getElem hi,List.foldl_append,e];rfl
end Go.Proofs.YtnchbpoopnjghaaGreatDoor
