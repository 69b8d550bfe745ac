/- Parts of a proof: contracts of the functions that the laws reach. -/
import Derived.Test.YtnchbpoopnjghaaGreatDoorQZ13
set_option maxHeartbeats 100000000
set_option linter.all false
open Go.Proofs.Tryz
namespace Go.Proofs.YtnchbpoopnjghaaGreatDoor
open Go.RowKit
section
attribute [local go_sem ↓] Go.wp_at_zero Go.wp_at_succ
def ST (l:List (List UInt8)):DV:= .leaf (.sl l.length (av l))
theorem Nb (s b:List UInt8) (hl:s.length<4294967281):aa Tryz.prog 64 [dL s,dL b] (.tup [dL (Lib.cut s b).1,dL (Lib.cut s b).2.1,dB (Lib.cut s b).2.2]):=
 ⟨aG func64 rfl rfl,fun S w vs hS hv=>by
  match vs,hv with
  | [v,u],⟨h1,h2,_⟩=>
   obtain rfl:=bc h1;obtain rfl:=bc h2;obtain⟨m,hm⟩:=hS.1.vars.1;refine(Tryz.strings_Cut (Bs s) (Bs b) m w (by rw[aJ];exact hl) hm).mono ?_;rintro e w' ⟨rfl,n,rfl⟩;refine⟨_,rfl,⟨[.string (Bs (Lib.cut s b).1), .string (Bs (Lib.cut s b).2.1), .bool (Lib.cut s b).2.2],rfl,rfl,fun i x u h1 h2=>?_⟩,Below.drewN (Below.refl _ _) n⟩
   match i with
   |0=>simp at h1 h2;subst h1 h2;exact AV.M.val rfl
   |1=>simp at h1 h2;subst h1 h2;exact AV.M.val rfl
   |2=>simp at h1 h2;subst h1 h2;exact AV.M.val rfl
   |i+3=>simp at h1⟩
theorem GI {s b:List UInt8} (hb:b≠[]):(Lib.split s b).length=Lib.count s b+1:=by
 have key:∀n s,s.length<=n->(Lib.split s b).length=Lib.count s b+1:=by
  intro n
  induction n with
  |zero=>
   intro s hs;rcases Lib.index_spec s b with⟨h,_⟩| ⟨i,h,_⟩
   ·rw[ma h,Lib.count_miss h];rfl
   ·have hr:=Lib.index_room s b O_
    have:=List.length_pos_iff.2 hb;omega
  |succ n ih=>
   intro s hs;rcases Lib.index_spec s b with⟨h,_⟩| ⟨i,h,_⟩
   ·rw[ma h,Lib.count_miss h];rfl
   ·have hr:=Lib.index_room s b O_
    have:=List.length_pos_iff.2 hb;rw[vc hb h,Lib.count_hit hb h,List.length_cons,ih _ (by rw[n_];omega)];omega
 exact key _ s (l_ _)
theorem xu (s b:List UInt8):(Lib.splitB (Bs b) 0 (Lib.countB (Bs s) (Bs b)) (Bs s)).map Value.string=(Lib.split s b).map vL:=by
 have h:=Lib.splitB_data (Bs b) 0 (Lib.countB (Bs s) (Bs b)) (Bs s);have e:Lib.splitK (Bs b).data.toList 0 (Lib.countB (Bs s) (Bs b)) (Bs s).data.toList=Lib.split s b:=rfl;rw[e]at h;rw[<- h,List.map_map];refine List.map_congr_left fun x _=>?_
 show Value.string x=Value.string (Bs x.data.toList);rw[O6]
theorem JH (s b:List UInt8) (hl:s.length<4294967281) (hb:b≠[]):aa Tryz.prog 65 [dL s,dL b] (.one (ST (Lib.split s b))):=
 ⟨aG func65 rfl rfl,fun S w vs hS hv=>by
  match vs,hv with
  | [v,u],⟨h1,h2,_⟩=>
   obtain rfl:=bc h1;obtain rfl:=bc h2;obtain⟨m,hm⟩:=hS.1.vars.1;have hb1:=List.length_pos_iff.2 hb;have hcn:Lib.countB (Bs s) (Bs b)=Lib.count s b:=rfl;have hln:=GI (s:=s) hb;have hcl:=Lib.count_le s b;refine(Tryz.strings_Split (Bs s) (Bs b) m w (by rw[aJ];exact hl) hm (by rw[aJ];exact hb1)).mono ?_;rintro e w' ⟨rfl,rfl⟩;refine⟨_,rfl,?_,(Below.refl _ _).alloc (l_ _) _⟩;rw[xu,hcn,<- hln];refine AV.M.sl (fun i=>((Lib.split s b).map vL).getD i (.bool false)) (l_ _) O_ (fun h=>Nat.lt_irrefl _ (hS.blk _ h).1) (by show w.heap.size<(w.heap.push _).size;simp) (fun i a hi=>?_) (fun i a hi=>?_)
   ·rw[J_,World.cell?_alloc_new]
    have:=(G_.1 hi).1
    simp only[av,j_]at this
    simp[this]
   ·have:=(G_.1 hi).1
    simp only[av,j_]at this
    simp[av,this]at hi
    subst hi
    simp[this]
    exact AV.M.val rfl⟩
theorem Na (l:List (List UInt8)) (b:List UInt8) (h0:l≠[]) (hN:l.length<=1000000) (hj:(Lib.join l b).length<=1000000000):aa Tryz.prog 62 [ST l,dL b] (.one (dL (Lib.join l b))):=
 ⟨aG func62 rfl rfl,fun S w vs hS hv=>by
  match vs,hv with
  | [v,u],⟨h1,h2,_⟩=>
   obtain rfl:=bc h2;have h1:AV.M S w (.sl l.length (av l)) v:=h1;generalize hr:av l=rr at h1;cases h1 with
   |emp=>cases l with
    |nil=>exact absurd rfl h0
    |cons a r=>simp[av]at hr
   |sl f e1 e2 e3 e4 hc hm=>
    subst hr
    rename_i bk off c
    have hml:(l.map Bs).map (·.data.toList)=l:=by rw[List.map_map];exact List.map_id _
    have hcell:∀(j:Nat) x,(l.map Bs)[j]? =some x->w.cell? ⟨bk,off+j,none⟩=some (.string x):=fun j x hx=>by
     have hj:=(G_.1 hx).1;rw[j_]at hj;have hrow:(av l)[j]? =some (.val (vL l[j])):=by simp[av,hj]
     rw[hc j _ hrow,bc (hm j _ hrow)]
     simp[hj]at hx
     rw[<- hx];rfl
    have:=Tryz.strings_Join bk off c (l.map Bs) (Bs b) w hcell e4 (by rw[j_];omega) (by rw[j_];exact e1) (by rw[hml];exact V_ hj D_);rw[j_,hml]at this;refine this.mono ?_;rintro e w' ⟨rfl,hb⟩;exact⟨_,rfl,AV.M.val rfl,hb⟩⟩
def GR (x:UInt8) (s:List UInt8):Int:=match Lib.atoiAll (Lib.trimPrefix s [x])with
 | .ok v=>v
 | .syntax=>0
 | .range=>Lib.atoiSat (Lib.trimPrefix s [x])
theorem QZ {x:UInt8} {s:List UInt8} (h:Lib.hasPrefix s [x]=false):PU x s=none:=by
 cases s with
 |nil=>rfl
 |cons c r=>
  unfold PU;dsimp only;rw[if_neg];intro e;subst e
  simp[Lib.hasPrefix,List.isPrefixOf]at h
theorem Ng {x:UInt8} {s:List UInt8} (h:Lib.hasPrefix s [x]=true):PU x s=match Lib.atoiAll (Lib.trimPrefix s [x])with
 | .ok v=>some v
 |_=>none:=by
 cases s with
 |nil=>cases h
 |cons c r=>
  have e:x=c:=by simpa[Lib.hasPrefix,List.isPrefixOf]using h
  subst e;unfold Lib.trimPrefix;rw[if_pos h];unfold PU;dsimp only;rw[if_pos rfl];rfl
theorem yu (w:World) (e:TypeId) (t:ByteArray):Below w.heap.size w (Lib.bytesWorld w e t):=Lib.bytesWorld_below w e t
theorem Mj (S:Nat->Prop) (x:UInt8) (s t:List UInt8) (b:Bool) (w:World) (hw:dU S w) (hl:s.length<=1000000) (hp:Lib.hasPrefix s [x]=b) (ht:Lib.trimPrefix s [x]=t) {v:Int}(ha:Lib.atoiAll t= .ok v):
 Calls Tryz.prog 66 #[.string (Bs s), .string (Bs [x])] w fun e w'=>e= .returned (.tuple #[.int .i64 v, .bool (b && true)])/\Below w.heap.size w w':=by
 have htl:(Lib.trimPrefix s [x]).length<=s.length:=by unfold Lib.trimPrefix;split <;>simp
 have h1:=Tryz.strings_CutPrefix (Bs s) (Bs [x]) w;rw[show(Bs s).data.toList=s from rfl,show(Bs [x]).data.toList=[x] from rfl,hp,ht]at h1;rw[ht]at htl;clear ht hp;obtain⟨_,⟨ev,hev,hev2⟩,ev2,hev3,hev4⟩:=hw.tab.vars;have h2:=Tryz.strconv_Atoi_ok (Bs t) (by rw[aJ];omega) v ha w;cases b
 all_goals
  go_enter func66,ntmps66
  go_wp2_with first|(go_at_call 109;refine h1.mono ?_;rintro e w' ⟨rfl,rfl⟩)|(go_at_call 110;refine h2.mono ?_;rintro e w' ⟨rfl,hw'⟩)
  go_quiet (fail)
  go_wp2_with fail
  go_ret2
  exact⟨rfl,Below.drewN ((by rcases hw' with rfl| ⟨tb,rfl⟩;exact Below.refl _ _;exact yu _ _ _)) _⟩
theorem Nk (S:Nat->Prop) (x:UInt8) (s t:List UInt8) (b:Bool) (w:World) (hw:dU S w) (hl:s.length<=1000000) (hp:Lib.hasPrefix s [x]=b) (ht:Lib.trimPrefix s [x]=t) (ha:Lib.atoiAll t= .syntax):
 Calls Tryz.prog 66 #[.string (Bs s), .string (Bs [x])] w fun e w'=>e= .returned (.tuple #[.int .i64 0, .bool (b && false)])/\Below w.heap.size w w':=by
 have htl:(Lib.trimPrefix s [x]).length<=s.length:=by unfold Lib.trimPrefix;split <;>simp
 have h1:=Tryz.strings_CutPrefix (Bs s) (Bs [x]) w;rw[show(Bs s).data.toList=s from rfl,show(Bs [x]).data.toList=[x] from rfl,hp,ht]at h1;rw[ht]at htl;clear ht hp;obtain⟨_,⟨ev,hev,hev2⟩,ev2,hev3,hev4⟩:=hw.tab.vars;have h2:=Tryz.strconv_Atoi_syntax (Bs t) (by rw[aJ];omega) ha ev w hev hev2;cases b
 all_goals
  go_enter func66,ntmps66
  go_wp2_with first|(go_at_call 109;refine h1.mono ?_;rintro e w' ⟨rfl,rfl⟩)|(go_at_call 110;refine h2.mono ?_;rintro e w' ⟨N,rfl,_,_,hw'⟩)
  go_quiet (fail)
  go_wp2_with fail
  go_ret2
  exact⟨rfl,Below.drewN (hw') _⟩
theorem Mt (S:Nat->Prop) (x:UInt8) (s t:List UInt8) (b:Bool) (w:World) (hw:dU S w) (hl:s.length<=1000000) (hp:Lib.hasPrefix s [x]=b) (ht:Lib.trimPrefix s [x]=t) (ha:Lib.atoiAll t= .range):
 Calls Tryz.prog 66 #[.string (Bs s), .string (Bs [x])] w fun e w'=>e= .returned (.tuple #[.int .i64 (Lib.atoiSat t), .bool (b && false)])/\Below w.heap.size w w':=by
 have htl:(Lib.trimPrefix s [x]).length<=s.length:=by unfold Lib.trimPrefix;split <;>simp
 have h1:=Tryz.strings_CutPrefix (Bs s) (Bs [x]) w;rw[show(Bs s).data.toList=s from rfl,show(Bs [x]).data.toList=[x] from rfl,hp,ht]at h1;rw[ht]at htl;clear ht hp;obtain⟨_,⟨ev,hev,hev2⟩,ev2,hev3,hev4⟩:=hw.tab.vars;have h2:=Tryz.strconv_Atoi_range (Bs t) (by rw[aJ];omega) ha ev2 w hev3 hev4;cases b
 all_goals
  go_enter func66,ntmps66
  go_wp2_with first|(go_at_call 109;refine h1.mono ?_;rintro e w' ⟨rfl,rfl⟩)|(go_at_call 110;refine h2.mono ?_;rintro e w' ⟨N,rfl,_,_,hw'⟩)
  go_quiet (fail)
  go_wp2_with fail
  go_ret2
  exact⟨rfl,Below.drewN (hw') _⟩
theorem gC (x:UInt8) (s:List UInt8) (hl:s.length<=1000000):aa Tryz.prog 66 [dL s,dL [x]] (.tup [dN .i64 (GR x s),dB (PU x s).isSome]):=
 ⟨aG func66 rfl rfl,fun S w vs hS hv=>by
  match vs,hv with
  | [v,u],⟨h1,h2,_⟩=>
   obtain rfl:=bc h1;obtain rfl:=bc h2
   have key:Calls Tryz.prog 66 #[.string (Bs s), .string (Bs [x])] w fun e w'=>e= .returned (.tuple #[.int .i64 (GR x s), .bool (PU x s).isSome])/\Below w.heap.size w w':=by
    obtain⟨b,hp⟩:∃b,Lib.hasPrefix s [x]=b:=⟨_,rfl⟩
    have hi:(PU x s).isSome=(b && match Lib.atoiAll (Lib.trimPrefix s [x])with
     | .ok _=>true
     |_=>false):=by
     cases b with
     |false=>rw[QZ hp];rfl
     |true=>rw[Ng hp];cases Lib.atoiAll (Lib.trimPrefix s [x])<;>rfl
    rw[hi];unfold GR;cases ha:Lib.atoiAll (Lib.trimPrefix s [x])with
    |ok v=>exact Mj S x s _ b w hS hl hp rfl ha
    | «syntax» =>exact Nk S x s _ b w hS hl hp rfl ha
    |range=>exact Mt S x s _ b w hS hl hp rfl ha
   refine key.mono ?_;rintro e w' ⟨rfl,hb⟩;refine⟨_,rfl,⟨[.int .i64 (GR x s), .bool (PU x s).isSome],rfl,rfl,fun i x u h1 h2=>?_⟩,hb⟩
   match i with
   |0=>simp at h1 h2;subst h1 h2;exact AV.M.val rfl
   |1=>simp at h1 h2;subst h1 h2;exact AV.M.val rfl
   |i+2=>simp at h1⟩
theorem rL (k:Int):aa Tryz.prog 61 [dN .i64 k] (.tup [dL (SQ k),dL (SK k)]):=by
 by_cases h:k=17
 ·subst h
  refine kU func61 ?_;exact aj
 ·unfold SQ SK
  rw[if_neg h,if_neg h];refine kU func61 ?_;refine gy ?_;exact Ko
end
theorem Ru:(ov.all fun r=>decide (r.p<=4) && (decide (r.c<=2) && (decide (r.n<=2) && decide (r.nm.length<=20))))=true:=D_
theorem Mg {k:Int} {r:Kd} (h:pR k=some r):r.p<=4/\r.c<=2/\r.n<=2/\r.nm.length<=20:=by
 obtain⟨_,_,h3⟩:=m5 h;have:=I_.1 Ru r (M_ h3)
 simpa using this
theorem yL (ts:List L8) (t:L8):KM (ts++[t])=KM ts++((if ts=[]then [32,61,32]else [44,32])++t):=by
 have hj:∀ts:List L8,ts≠[]->Lib.join (ts++[t]) [44,32]=Lib.join ts [44,32]++([44,32]++t):=by
  intro ts
  induction ts with
  |nil=>exact fun h=>absurd rfl h
  |cons a r ih=>
   intro _;cases r with
   |nil=>rw[List.cons_append,List.nil_append,nY,Lib.join_one,Lib.join_one]
   |cons b r=>rw[List.cons_append,List.cons_append,nY,nY,<- List.cons_append,ih S_];simp
 unfold KM;rw[if_neg S_]
 by_cases h:ts=[]
 ·subst h;rw[if_pos rfl,if_pos rfl,List.nil_append,Lib.join_one];rfl
 ·rw[if_neg h,if_neg h,hj ts h];simp
theorem I9 (ts:List L8):∀us,(KM ts).length<=(KM (ts++us)).length
 | []=>by rw[c_];exact l_ _
 |u::us=>by
  have:=I9 (ts++[u]) us;rw[yL,L_,e_]at this;exact V_ (Nat.le_add_right _ _) this
theorem zU (ts:List L8) (i:Nat):(KM (ts.take i)).length<=(KM ts).length:=by
 have:=I9 (ts.take i) (ts.drop i)
 rwa[List.take_append_drop]at this
theorem Qz (t:List (Nat × TV)) (b:List (Nat × Option (List AV))) (G:List L8) (x:L8):(⟨(4, .d (ST (G++[x])))::t,b⟩:AS)=⟨(4, .d (.leaf (.sl (G.length+1) ((av G).take (G.length*1)++[.val (vL x)]))))::t,b⟩:=by
 unfold ST;rw[Ec,L_];rfl
theorem Eo {z:Int} (h0:0<=z) (h1:z<200):(fmt z).length<=3:=by
 obtain⟨n,rfl⟩:=Int.eq_ofNat_of_zero_le h0;rw[Mc];unfold BK
 split
 ·decide
 ·exact qJ 3 n O_
theorem Qn (t:List (Nat × TV)) (b:List (Nat × Option (List AV))) (G:List L8) (x:L8):(⟨(4, .own 7001 (G++[x]).length 1 9)::t,(7001,some (av (G++[x])))::b⟩:AS)=⟨(4, .own 7001 (G.length+1) 1 9)::t,(7001,some ((av G).take (G.length*1)++[.val (vL x)]))::b⟩:=by
 rw[Ec,L_];rfl
theorem mL {c:Cn} {r:Kd} (h:Vp c r 200 200) (tx:Rx->L8) (cV:aa Tryz.prog 17 [dC c,dN .i64 200,dN .i64 200] (.one (dB true))) (cF:∀x∈c.vs,aa Tryz.prog 63 [dR x] (.tup [dL (tx x),dN .i64 0])) (hlen:(GN r c (c.vs.map tx)).length<=65536) (h3:c.vs.length<=1000000):
 aa Tryz.prog 25 [dC c] (.tup [dL (GN r c (c.vs.map tx)),dN .i64 0]):=by
 have hd:=Mg h.k;have hpl:=h.pl;have hcl:=h.cl;have cN:=FZ c.k;rw[h.k]at cN;have cN:aa Tryz.prog 14 [dN .i64 c.k] (.one (dL r.nm)):=cN;have cS:=rL c.k;have hs:=Ff h.s;have hp:=h.p;have hq:=h.c;clear h;obtain⟨k,ps,cs,vs,s⟩:=c;dsimp only at *;show aa Tryz.prog _ [.agg (cC k ps cs vs s)] _;have cV:aa Tryz.prog 17 [.agg (cC k ps cs vs s),dN .i64 200,dN .i64 200] (.one (dB true)):=cV;refine kV func25 ?_;refine kQ (cV) ?_;refine kC (cN) ?_;refine Am 7001 (cs:=[.val (vL r.nm)]) af rfl rfl rfl rfl rfl rfl rfl rfl rfl rfl rfl rfl rfl ?_;refine kW ?_
 refine aq (Nat × List L8) (fun x=>x.1<=ps.length/\x.2=r.nm::(ps.take x.1).map Nl) (fun x=>⟨[(4, .own 7001 x.2.length 1 9),(1, .box 0 0),(24, .d (uk ps)),(25, .d (dN .i64 ps.length)),(26, .d (dN .i64 x.1))],[(7001,some (av x.2)),(0,some (cC k ps cs vs s))]⟩) (fun x=>ps.length-x.1) (0,[r.nm]) ⟨Nat.zero_le _,rfl⟩ kw ?_;rintro⟨i,G⟩ ⟨hi,hG⟩;dsimp only at hi hG ⊢;refine kI ?_
 by_cases hlt:i<ps.length
 ·refine kT ?_
  have hz:=hp _ (List.getElem_mem hlt);have hat:=bH (Q_ hlt);have hG2:G++[Nl ps[i]]=r.nm::(ps.take (i+1)).map Nl:=by rw[hG,aT (Q_ hlt),List.map_append];rfl
  have hGl:G.length=i+1:=by rw[hG];simp;omega
  generalize ps[i]=z at *;have cI:=DW (p:=z) O_ O_;refine Pk ?_;refine ax rfl rfl rfl rfl rfl rfl rfl (dG (a:=[112]) (b:=fmt z) (by have:=Eo hz.1 hz.2;simp;omega)) ?_;refine QO ?_;refine⟨(i+1,G++[Nl z]),⟨hlt,hG2⟩,by dsimp only;omega,Eq.mpr (congrArg (aM _) (Qn _ _ G (Nl z))) ?_⟩;exact aM.trans (b:=⟨[(4, .own 7003 (G.length+1) 1 9),(1, .box 0 0),(24, .d (uk ps)),(25, .d (dN .i64 ps.length)),(26, .d (dN .i64 (i+1:Nat)))],[(7003,some ((av G).take (G.length*1)++[.val (vL (Nl z))])),(0,some (cC k ps cs vs s))]⟩) (weak ⟨rfl,rfl,rfl,rfl,ai O_ O_,trivial⟩ ⟨rfl,rfl,trivial⟩ rfl) ((aD (q:=4) (j:=7003) (j':=7001) rfl rfl rfl rfl).trans kw)
 refine kE ?_;rw[K_ O_]at hG;refine kW ?_;refine aq (Nat × List L8) (fun x=>x.1<=cs.length/\x.2=r.nm::(ps.map Nl++(cs.take x.1).map Q3)) (fun x=>⟨[(4, .own 7001 x.2.length 1 9),(1, .box 0 0),(38, .d (uk cs)),(39, .d (dN .i64 cs.length)),(40, .d (dN .i64 x.1))],[(7001,some (av x.2)),(0,some (cC k ps cs vs s))]⟩) (fun x=>cs.length-x.1) (0,G) ⟨Nat.zero_le _,by rw[hG];simp⟩ kw ?_;clear hlt hi hG i G;rintro⟨i,G⟩ ⟨hi,hG⟩;dsimp only at hi hG ⊢;refine kI ?_
 by_cases hlt:i<cs.length
 ·refine kT ?_
  have hz:=hq _ (List.getElem_mem hlt);have hat:=bH (Q_ hlt);have hG2:G++[Q3 cs[i]]=r.nm::(ps.map Nl++(cs.take (i+1)).map Q3):=by rw[hG,aT (Q_ hlt),List.map_append,<- e_];rfl
  have hGl:G.length=i+ps.length+1:=by rw[hG];simp;omega
  generalize cs[i]=z at *;have cI:=DW (p:=z) O_ O_;refine Pk ?_;refine ax rfl rfl rfl rfl rfl rfl rfl (dG (a:=[99]) (b:=fmt z) (by have:=Eo hz.1 hz.2;simp;omega)) ?_;refine QO ?_;refine⟨(i+1,G++[Q3 z]),⟨hlt,hG2⟩,by dsimp only;omega,Eq.mpr (congrArg (aM _) (Qn _ _ G (Q3 z))) ?_⟩;exact aM.trans (b:=⟨[(4, .own 7003 (G.length+1) 1 9),(1, .box 0 0),(38, .d (uk cs)),(39, .d (dN .i64 cs.length)),(40, .d (dN .i64 (i+1:Nat)))],[(7003,some ((av G).take (G.length*1)++[.val (vL (Q3 z))])),(0,some (cC k ps cs vs s))]⟩) (weak ⟨rfl,rfl,rfl,rfl,ai O_ O_,trivial⟩ ⟨rfl,rfl,trivial⟩ rfl) ((aD (q:=4) (j:=7003) (j':=7001) rfl rfl rfl rfl).trans kw)
 refine kE ?_;rw[K_ O_]at hG;have hGl:G.length=cs.length+ps.length+1:=by rw[hG];simp;omega
 have hW:Vj r ⟨k,ps,cs,vs,s⟩=G++Mm ⟨k,ps,cs,vs,s⟩:=by rw[hG];unfold Vj;simp
 have hwl:(Mm ⟨k,ps,cs,vs,s⟩).length<=1:=by unfold Mm;split;exact l_ _;split;exact l_ _;exact Nat.zero_le _
 have hjl:(Lib.join (G++Mm ⟨k,ps,cs,vs,s⟩) [32]).length<=65536:=by rw[<- hW];unfold GN at hlen;rw[L_]at hlen;omega
 have cJ:=Na (G++Mm ⟨k,ps,cs,vs,s⟩) [32] (by intro e;rw[List.append_eq_nil_iff]at e;rw[e.1]at hGl;simp at hGl) (by rw[L_];omega) O_;unfold GN at hlen ⊢;rw[hW]at hlen ⊢;refine kW ?_;refine kC (cS) ?_;refine kN ?_;refine lL ⟨[(4, .d (ST (G++Mm ⟨k,ps,cs,vs,s⟩))),(1, .box 0 0)],[(0,some (cC k ps cs vs s))]⟩ (fun s' hw=>?_) (fun R hR hret=>?_)
 ·generalize G++Mm ⟨k,ps,cs,vs,s⟩=W at *
  refine bu ?_;refine dh hw rfl ?_;refine kO ?_;refine kQ (cJ) ?_;refine aq (Nat × L8) (fun x=>x.1<=vs.length/\x.2=Lib.join W [32]++KM ((vs.take x.1).map tx)) (fun x=>⟨[(11, .d (dL x.2)),(74, .d (.leaf (.sl vs.length (fG vs)))),(75, .d (dN .i64 vs.length)),(76, .d (dN .i64 x.1))],[]⟩) (fun x=>vs.length-x.1) (0,Lib.join W [32]) ⟨Nat.zero_le _,by simp[KM]⟩ kw ?_;clear hlt hi hG hGl hW i G;rintro⟨i,u⟩ ⟨hi,hu⟩;dsimp only at hi hu ⊢;refine kI ?_
  have hul:u.length<=65536:=by
   have:=zU (vs.map tx) i;rw[L_]at hlen;rw[hu,L_,List.map_take];omega
  by_cases hlt:i<vs.length
  ·refine kT ?_
   obtain⟨x,hx⟩:∃x,vs[i]? =some x:=⟨vs[i],by simp[hlt]⟩;have c1:=cF x (M_ hx);have hat:=eX vs i x hx
   have hu2:u++((if i=0 then [32,61,32]else [44,32])++tx x)=Lib.join W [32]++KM ((vs.take (i+1)).map tx):=by
    rw[aT hx,List.map_append,List.map_cons,List.map_nil,yL,hu,e_]
    congr 3
    by_cases h0:i=0
    ·subst h0;rfl
    ·rw[if_neg h0,if_neg (by simp;exact⟨h0,fun e=>by rw[e]at hlt;simp at hlt⟩)]
   have hul2:u.length+(tx x).length<=65536:=by
    have h1:=congrArg List.length hu2;have:=zU (vs.map tx) (i+1);rw[L_]at hlen;rw[L_,L_,L_,List.map_take]at h1;omega
   obtain⟨o1,na1,xs1,nb1,ys1,nm1,n1',cs1,hX⟩:=aY x;rw[show dR x= .agg (ab o1 na1 xs1 nb1 ys1 nm1 n1' cs1) from congrArg DV.agg hX]at c1;rw[hX]at hat;generalize tx x=t at *;refine kW ?_;refine Kc ?_;refine kW ?_;refine kC (c1) ?_
   iterate 2 refine kG ?_
   refine kO ?_
   by_cases h0:i=0
   ·rw[if_pos h0]at hu2
    refine kB true ?_ ?_
    ·exact(by simp[h0])
    refine kG ?_
    refine kO2 ?_
    refine ax rfl rfl rfl rfl rfl rfl rfl (dG (a:=[32,61,32]) (b:=t) (by simp;omega)) ?_;refine ax rfl rfl rfl rfl rfl rfl rfl (dG (a:=u) (b:=[32,61,32]++t) (by simp;omega)) ?_;refine kW ?_;exact⟨(i+1,u++([32,61,32]++t)),⟨hlt,hu2⟩,by dsimp only;omega,weak ⟨rfl,rfl,rfl,ai O_ O_,trivial⟩ trivial rfl⟩
   ·rw[if_neg h0]at hu2
    refine kB false ?_ ?_
    ·exact(by simp[h0])
    refine kG ?_
    refine kO2 ?_
    refine ax rfl rfl rfl rfl rfl rfl rfl (dG (a:=[44,32]) (b:=t) (by simp;omega)) ?_;refine ax rfl rfl rfl rfl rfl rfl rfl (dG (a:=u) (b:=[44,32]++t) (by simp;omega)) ?_;refine kW ?_;exact⟨(i+1,u++([44,32]++t)),⟨hlt,hu2⟩,by dsimp only;omega,weak ⟨rfl,rfl,rfl,ai O_ O_,trivial⟩ trivial rfl⟩
  ·have hsz:=aJ u
   refine kE ?_;rw[K_ O_]at hu;refine kG ?_
   refine kO2 ?_
   refine kE ?_;refine eH ?_;rw[hu];rfl
 ·clear hret cJ cF hlen hjl hwl
  rcases hs with rfl|rfl|rfl
  ·refine Oi ?_
   refine hR _ (Eq.mpr (congrArg (aM _) (Qz _ _ G (SQ k))) ?_);exact aM.trans (bf (q:=4) rfl rfl) kw
  ·refine Oi ?_
   refine hR _ (Eq.mpr (congrArg (aM _) (Qz _ _ G (SK k))) ?_);exact aM.trans (bf (q:=4) rfl rfl) kw
  ·refine kW ?_
   rw[show G++Mm ⟨k,ps,cs,vs,0⟩=G from c_ G]at hR;exact hR _ (aM.trans (bf (q:=4) rfl rfl) kw)
section
variable {P:Program} {T:TypeId->Option Ty} {n:Nat} {ops:Array Oper} {id:Nat} {draw:Bool} {K:AS->Prop} {s:AS} {k:Nat} {o:Oper} {os:List Oper} {fps:List FP}
theorem IU {t:TypeId} {ty:Ty} {parts:Array (Nat × Operand)} {l:List (Nat × DV)} {cs:List AV} (hT:a8 P t ty) (hag:ty.flds≠[]) (h1:gd ops s o=some true) (ho:o.op= .build t parts) (hp:eN s parts.toList=some l) (hf:mR (xa ty) ty.zero l=some cs)
 (h3:aL n o.dst=true) (h4:fg draw ops (aA ops o ⟨.d (.agg cs),none⟩ []) k fps=true) (h:ar P T n ops id draw K (k+1) os (s.eff o.dst ⟨.d (.agg cs),none⟩) (aA ops o ⟨.d (.agg cs),none⟩ []::fps)):ar P T n ops id draw K k (o::os) s fps:=by
 refine .run h1 (.gen fun s2 ht2 _=>?_) h3 h4 h
 have hp2:eN s2 parts.toList=some l:=by
  rw[<- hp];have:∀x∈parts.toList,s2.ev x.2=s.ev x.2:=fun x hx=>aw ht2 (by rw[ho];simp only[Op.operands];simp;exact⟨x.1,by simpa using hx⟩)
  generalize parts.toList=ps at this;clear hp hf
  induction ps with
  |nil=>rfl
  |cons x r ih=>
   simp only[eN]
   rw[this x S_,ih fun y hy=>this y (by simp[hy])]
 exact pv hT ho hag hp2 hf
end
def Wm:Ty:=⟨true,5,88,[.val (.int .i64 0), .nl, .nl, .nl, .val (.int .i64 0)],[(0,1,false),(1,1,false),(2,1,false),(3,1,false),(4,1,false)],none,false,false,none⟩
theorem Su:a8 Tryz.prog 30 Wm:=by
 have h:=af 30 _ rfl;refine⟨h.size,h.bytes,h.und,⟨.agg #[.int .i64 0, .slice none 0 0, .slice none 0 0, .slice none 0 0, .int .i64 0],by kernel_rfl,fun S w=>?_⟩,rfl⟩;exact CM.cons (.val rfl) (CM.cons .nl (CM.cons .nl (CM.cons .nl (CM.cons (.val rfl) (CM.nil _ _)))))
section
variable {P:Program} {T:TypeId->Option Ty} {n:Nat} {ops:Array Oper} {id:Nat} {draw:Bool} {K:AS->Prop} {S0:Nat->Prop} {w0:eR} {s s':AS} {k:Nat} {o:Oper} {os:List Oper} {fps:List FP} {g:Nat->Nat} {a:Act} {w:World}
theorem y4 (q:Nat) {j m r e:Nat} {cs:List AV} (hq:s.tv q= .own j m r e) (hj:s.bx j=some cs):AD s (fun s1=>∃c,m<=c/\c<=9223372036854775807/\s1=⟨(q, .vs j 0 m c r e)::s.t,s.b⟩):=by
 rintro n S0 w0 a w ⟨g,h⟩;have hm:=h.tm q;rw[hq]at hm;obtain⟨c,e1,e2,e3,e4,arr,e5,e6⟩:=hm.2 cs hj;exact⟨_,⟨c,e2,e3,rfl⟩,g,h.reslot (x:= .vs j 0 m c r e) ⟨hm.1,fun cs' hc=>⟨by rw[e1,Nat.zero_mul],e2,e3,arr,e5,by rw[J_];exact e6⟩⟩ rfl (by show pf (s.tv q)=true;rw[hq];rfl)⟩
theorem Dk {Q:AX->AS->Prop} (q:Nat) {j m r e:Nat} {cs:List AV} (hq:s.tv q= .own j m r e) (hj:s.bx j=some cs) (h:∀c,m<=c->c<=9223372036854775807->fP P T n (.region id ops draw) Q ⟨(q, .vs j 0 m c r e)::s.t,s.b⟩):fP P T n (.region id ops draw) Q s:=
 M0 _ (y4 q hq hj) (by rintro s1 ⟨c,h1,h2,rfl⟩;exact h c h1 h2)
theorem Kz {q j m c r e:Nat} {cs:List AV} (hq:s.tv q= .vs j 0 m c r e) (hj:s.bx j=some cs) (hl:m*r<=cs.length):aM s ⟨(q, .own j m r e)::s.t,s.b⟩:=by
 rintro n S0 w0 a w ⟨g,h⟩;have hm:=h.tm q;rw[hq]at hm;obtain⟨e1,e2,e3,arr,e5,e6⟩:=hm.2 cs hj;exact⟨g,h.reslot (x:= .own j m r e) ⟨hm.1,fun cs' hc=>⟨c,by rw[e1,Nat.zero_mul],e2,e3,by rw[hj]at hc;cases hc;exact hl,arr,e5,by rw[e6,J_]⟩⟩ rfl (by show pf (s.tv q)=true;rw[hq];rfl)⟩
theorem Jg (hT:∀t d,T t=some d->a8 P t d) {t:TypeId} {ty:Ty} {x z:Operand} {j p et q m c i:Nat} {ik:IntKind} {cs:List AV} (hi:i<=c) (h1:gd ops s o=some true) (h2:o.op= .slice t x none (some z) none) (h5:T t=some ty) (h6:ty.elem=some (et,q)) (h7:s.ev x= .vs j p m c q et) (hb:s.bx j=some cs) (h8:s.ev z= .d (.leaf (.val (.int ik (i:Nat)))))
 (h3:aL n o.dst=true) (h4:fg draw ops (aA ops o ⟨.vs j p i c q et,none⟩ [j]) k fps=true) (h:ar P T n ops id draw K (k+1) os (s.eff o.dst ⟨.vs j p i c q et,none⟩) (aA ops o ⟨.vs j p i c q et,none⟩ [j]::fps)):ar P T n ops id draw K k (o::os) s fps:=by
 refine .run h1 (.gen fun s2 ht hrb=>?_) h3 h4 h;have hx:=(aw ht (x:=x) (by simp[h2,Op.operands])).trans h7;have hz:=(aw ht (x:=z) (by simp[h2,Op.operands])).trans h8;have hbj:=(bg (hrb j S_)).trans hb;obtain⟨u,hu,_,hel,_⟩:=(hT _ _ h5).und;obtain⟨rfl,hks⟩:=hel et q h6;refine ak fun n S0 w0 g a w hM=>?_
 have hm:=hM.ev x;rw[hx]at hm;obtain⟨e1,e2,e3,arr,e5,e6⟩:=hm.2 cs hbj;have hr:=kP (w:=w) hu hks (some ⟨g j,p*q,none⟩) (m:=m) (i:=i) (c:=c) ik hi
 have ha:(if c=0 then some (⟨g j,p*q,none⟩:Addr)else(some ⟨g j,p*q,none⟩:Option Addr).map (·.add (0*q)))=some ⟨g j,p*q,none⟩:=by
  split
  ·rfl
  ·rw[Nat.zero_mul,Option.map_some,b7];rfl
 rw[ha]at hr;refine⟨.slice (some ⟨g j,p*q,none⟩) i c,w,?_,Below.refl _ _,hm.1,fun cs' hc=>⟨rfl,hi,e3,arr,e5,e6⟩⟩;unfold execOp;rw[h2]
 simp only[e1,a7 hM hz,Option.map_some,Option.map_none,Y_,hr,R_]
 rfl
theorem tF (hT:∀t d,T t=some d->a8 P t d) {t:TypeId} {ty:Ty} {x y:Operand} {j p et q m c i:Nat} {ik:IntKind} {cs:List AV} (hi:i<=m) (hic:i<c) (h1:gd ops s o=some true) (h2:o.op= .slice t x (some y) none none) (h5:T t=some ty) (h6:ty.elem=some (et,q)) (h7:s.ev x= .vs j p m c q et) (hb:s.bx j=some cs) (h8:s.ev y= .d (.leaf (.val (.int ik (i:Nat)))))
 (h3:aL n o.dst=true) (h4:fg draw ops (aA ops o ⟨.vs j (p+i) (m-i) (c-i) q et,none⟩ [j]) k fps=true) (h:ar P T n ops id draw K (k+1) os (s.eff o.dst ⟨.vs j (p+i) (m-i) (c-i) q et,none⟩) (aA ops o ⟨.vs j (p+i) (m-i) (c-i) q et,none⟩ [j]::fps)):ar P T n ops id draw K k (o::os) s fps:=by
 refine .run h1 (.gen fun s2 ht hrb=>?_) h3 h4 h;have hx:=(aw ht (x:=x) (by simp[h2,Op.operands])).trans h7;have hy:=(aw ht (x:=y) (by simp[h2,Op.operands])).trans h8;have hbj:=(bg (hrb j S_)).trans hb;obtain⟨u,hu,_,hel,_⟩:=(hT _ _ h5).und;obtain⟨rfl,hks⟩:=hel et q h6;refine ak fun n S0 w0 g a w hM=>?_
 have hm:=hM.ev x;rw[hx]at hm;obtain⟨e1,e2,e3,arr,e5,e6⟩:=hm.2 cs hbj;have hr:=nD (w:=w) hu hks (some ⟨g j,p*q,none⟩) (m:=m) (i:=i) (c:=c) ik O_;rw[if_neg O_,Option.map_some,b7]at hr;refine⟨.slice (some ⟨g j,p*q+i*q,none⟩) (m-i) (c-i),w,?_,Below.refl _ _,hm.1,fun cs' hc=>⟨by rw[Nat.add_mul],by omega,by omega,arr,e5,by rw[e6];congr 1;omega⟩⟩;unfold execOp;rw[h2]
 simp only[e1,a7 hM hy,Option.map_some,Option.map_none,Y_,hr,R_]
 rfl
theorem MA (hT:∀t d,T t=some d->a8 P t d) {t:TypeId} {ty:Ty} {x:Operand} {j p m c q e et q':Nat} {cs:List AV} (h1:gd ops s o=some true) (h2:o.op= .call ⟨.builtin .cap,#[x],#[t]⟩) (h5:T t=some ty) (h6:ty.elem=some (et,q')) (h7:s.ev x= .vs j p m c q e) (hb:s.bx j=some cs)
 (h3:aL n o.dst=true) (h4:fg draw ops (aA ops o ⟨.d (.leaf (.val (.int .i64 (c:Nat)))),none⟩ [j]) k fps=true) (h:ar P T n ops id draw K (k+1) os (s.eff o.dst ⟨.d (.leaf (.val (.int .i64 (c:Nat)))),none⟩) (aA ops o ⟨.d (.leaf (.val (.int .i64 (c:Nat)))),none⟩ [j]::fps)):ar P T n ops id draw K k (o::os) s fps:=by
 refine .run h1 (.gen fun s2 ht hrb=>?_) h3 h4 h;have hx:=(aw ht (x:=x) (by simp[h2,Op.operands,Call.operands])).trans h7;have hbj:=(bg (hrb j S_)).trans hb;obtain⟨u,hu,_,hel,_⟩:=(hT _ _ h5).und;obtain⟨rfl,hks⟩:=hel et q' h6;refine ak fun n S0 w0 g a w hM=>?_
 have hm:=hM.ev x;rw[hx]at hm;obtain⟨e1,_⟩:=hm.2 cs hbj;refine⟨.int .i64 c,w,?_,Below.refl _ _,AV.M.val rfl⟩;unfold execOp;rw[h2]
 simp[resolve,invoke,builtin,Builtin.cap_,e1,Y_,run_underlying hu w,goInt]
theorem fK.drop {S:Nat->Prop} {w:World} {cs:List AV} {vs:List Value} (h:fK S w cs vs) (r:Nat):fK S w (cs.drop r) (vs.drop r):=
 ⟨by have:=h.1;simp;omega,fun i a v h1 h2=>h.2 (r+i) a v (by simpa using h1) (by simpa using h2)⟩
theorem CM.appC {S:Nat->Prop} {w:World} {cs ds:List AV} {vs us:List Value} (h:CM S w cs vs) (k:fK S w ds us):fK S w (cs++ds) (vs++us):=by
 refine⟨by have:=h.1;have:=k.1;simp;omega,fun i a v h1 h2=>?_⟩;rw[List.getElem?_append]at h1 h2;have:=h.1
 split at h1
 ·rw[if_pos O_]at h2;exact h.2 i a v h1 h2
 ·rw[if_neg O_,<- this]at h2;exact k.2 _ a v h1 h2
theorem Bv {cs xs:List AV} {p:Nat} (hp:p<=cs.length):cs.length<=(bz cs p xs).length:=by
 unfold bz
 simp
 omega
def AW (arr:Array Value) (p:Nat) (vs:List Value):Array Value:=(arr.toList.take p++vs++arr.toList.drop (p+vs.length)).toArray
theorem Fk {arr:Array Value} {p:Nat} {vs:List Value} (h:p+vs.length<=arr.size):(AW arr p vs).size=arr.size:=by
 unfold AW
 simp
 omega
theorem MG.wr (h:MG n S0 w0 g s a w) {j p:Nat} {cs xs:List AV} {vs:List Value} (hj:s.bx j=some cs) (hlb:cM j=false) {arr:Array Value} {e:TypeId} (hB:w.heap[g j]? =some (.cells arr e (0,0))) (hp:p<=cs.length) (hf:p+vs.length<=arr.size) (hx:CM (Own S0 g s) w xs vs) (hw:bL j=false->bB xs=true):
 MG n S0 w0 g { s with b:=(j,some (bz cs p xs))::s.b } a (w.setRow (g j) (AW arr p vs)):=by
 obtain⟨_,arr',e',h1,h2,h3,h4,h5⟩:=h.bm j cs hj;rw[hB]at h1
 injection h1 with h1
 injection h1 with h1 _
 subst h1;refine h.store hj (size_setRow _ _ _) ⟨rfl,rfl,rfl⟩ hB (setRow_heap w (g j) arr _ e _ hB) (Fk hf) (fun b hb=>setRow_other w (g j) b _ hb) (Bv hp) ?_ (fun hwf v hv=>?_) (fun hl=>by rw[hlb]at hl;cases hl)
 ·have h6:=h2.sub (off:=0) (k:=p) O_
  rw[List.drop_zero,List.drop_zero]at h6;have h7:=(h6.append hx).appC (h2.drop (p+xs.length));rw[hx.1]at h7;unfold bz AW;rw[hx.1]
  simpa using h7
 ·unfold AW at hv
  simp only[List.mem_append]at hv
  rcases hv with(hv|hv)|hv
  ·exact h3 hwf v (List.mem_of_mem_take hv)
  ·exact jl hx (hw hwf) v hv
  ·exact h3 hwf v (List.mem_of_mem_drop hv)
theorem Me (hM:MG n S0 w0 g s a w) {x:Operand} {j p m c q e:Nat} {cs:List AV} (hx:s.ev x= .vs j p m c q e) (hb:s.bx j=some cs) (hl:(p+m)*q<=cs.length):oH (Own S0 g s) w (a.eval x) m q ((cs.drop (p*q)).take (m*q)):=by
 have hm:=hM.ev x;rw[hx]at hm;obtain⟨e1,e2,e3,_⟩:=hm.2 cs hb;obtain⟨_,arr,e,e5,e6,_⟩:=hM.bm j cs hb;have hl2:=e6.1;have hsz:(p+m)*q=p*q+m*q:=Nat.add_mul _ _ _;refine⟨_,c,(arr.toList.drop (p*q)).take (m*q),e1,by simp at hl2 ⊢;omega,fun i u hi=>?_,e6.sub O_⟩;exact Dx
inductive lN (s:AS) (x:Operand) (m q:Nat):List Nat->List AV->Prop
 |sl {xs:List AV}:s.ev x= .d (.leaf (.sl m xs))->xs.length=m*q->0<xs.length->lN s x m q [] xs
 |own {j e:Nat} {cs xs:List AV}:s.ev x= .own j m q e->s.bx j=some cs->cs.take (m*q)=xs->lN s x m q [j] xs
 |vw {j p:Nat} {cs xs:List AV}:s.ev x= .vw j p m q->s.bx j=some cs->(cs.drop (p*q)).take (m*q)=xs->lN s x m q [j] xs
 |vs {j p c e:Nat} {cs xs:List AV}:s.ev x= .vs j p m c q e->s.bx j=some cs->(p+m)*q<=cs.length->(cs.drop (p*q)).take (m*q)=xs->lN s x m q [j] xs
theorem lN.congr {x:Operand} {m q:Nat} {L:List Nat} {xs:List AV} {s2:AS} (h:lN s x m q L xs) (hx:s2.ev x=s.ev x) (hb:∀i∈L,ap s2.b i=ap s.b i):lN s2 x m q L xs:=by
 cases h with
 |sl h1 h2 h3=>exact .sl (hx.trans h1) h2 h3
 |own h1 h2 h3=>exact .own (hx.trans h1) ((bg (hb _ S_)).trans h2) h3
 |vw h1 h2 h3=>exact .vw (hx.trans h1) ((bg (hb _ S_)).trans h2) h3
 |vs h1 h2 h3 h4=>exact .vs (hx.trans h1) ((bg (hb _ S_)).trans h2) h3 h4
theorem lN.news {x:Operand} {m q:Nat} {L:List Nat} {xs:List AV} (h:lN s x m q L xs) (hM:MG n S0 w0 g s a w):oH (Own S0 g s) w (a.eval x) m q xs:=by
 cases h with
 |sl h1 h2 h3=>
  have hyv:=hM.ev x;rw[h1]at hyv;exact Dm hyv h2 h3
 |own h1 h2 h3=>subst h3;exact yr hM h1 h2
 |vw h1 h2 h3=>subst h3;exact DO hM h1 h2
 |vs h1 h2 h3 h4=>subst h4;exact Me hM h1 h2 h3
theorem Gw {t et q:Nat} {ty te:Ty} (hT:a8 P t ty) (hE:a8 P et te) (hel:ty.elem=some (et,q)) (hk:te.size=q):P.underlying t=some (.slice et)/\ ∃i z,P.info? et=some i/\i.zero=some z/\i.size=q/\i.bytes=te.bytes/\z.cells.size=q/\ ∀(S:Nat->Prop) (w:World),CM S w te.zero z.cells.toList:=by
 obtain⟨u,hu,_,hel',_⟩:=hT.und;obtain⟨rfl,hks⟩:=hel' et q hel;obtain⟨z,hz,hzm⟩:=hE.zero;refine⟨hu,?_⟩;cases hq:P.info? et with
 |none=>rw[hq]at hz;cases hz
 |some i=>
  rw[hq]at hz hks;have h1:=hE.bytes;rw[hq]at h1;refine⟨i,z,rfl,hz,by simpa using hks,by simpa using h1,?_,hzm⟩;have:=(hzm (fun _=>False) default).1
  simp at this
  have h2:=hE.zlen;omega
theorem nZ:∀{l:List AV},bB l=true-> ∀b∈l,Fo b=true
 | [],_,b,hb=>by cases hb
 |c::l,h,b,hb=>by
  simp only[bB]at h
  cases h1:Fo c with
  |false=>rw[h1]at h;cases h
  |true=>
   rw[h1]at h;rcases f_.1 hb with rfl|hb
   ·exact h1
   ·exact nZ h b hb
theorem kL:∀{l:List AV},(∀b∈l,Fo b=true)->bB l=true
 | [],_=>rfl
 |c::l,h=>by
  simp only[bB]
  rw[h c S_];exact kL fun b hb=>h b (by simp[hb])
theorem fE {l:List AV} (h:bB l=true) (r:Nat):bB (l.take r)=true:=kL fun b hb=>nZ h b (List.mem_of_mem_take hb)
theorem zv {l:List AV} (h:bB l=true) (r:Nat):bB (eL l r)=true:=kL fun b hb=>by
 obtain⟨i,hi⟩:=W_ hb;rcases Nat.eq_zero_or_pos l.length with h0|h0
 ·have:(eL l r).length=0:=by rw[cY,h0,Nat.mul_zero]
  rw[E_ this]at hi
  simp at hi
 ·rw[gP _ h0]at hi
  split at hi
  ·exact nZ h b (M_ hi)
  ·cases hi
theorem M2 {S:Nat->Prop} {w:World} {zs:List AV} {cells:Array Value} {q:Nat} (h:CM S w zs cells.toList) (hq:zs.length=q) (r:Nat):CM S w (eL zs r) (Builtin.zeroCells cells r).toList:=by
 have hc:cells.size=zs.length:=by have:=h.1;simpa using this.symm
 refine⟨by rw[cY,<- hc,<- size_zeroCells];simp,fun i b v h1 h2=>?_⟩;rcases Nat.eq_zero_or_pos zs.length with h0|h0
 ·have:(eL zs r).length=0:=by rw[cY,h0,Nat.mul_zero]
  rw[E_ this]at h1
  simp at h1
 ·rw[gP _ h0]at h1
  split at h1
  ·rename_i hi
   have hm:i%zs.length<zs.length:=Nat.mod_lt _ h0
   have hv:v=cells[i%cells.size]'(by rw[hc];exact hm):=by
    simp[Builtin.zeroCells,hc]at h2
    obtain⟨w1,hw1,h2⟩:=h2;rw[List.getElem?_range hi]at hw1;have hw2:w1=i:=(Option.some.inj hw1).symm;subst hw2;rw[<- h2]
    simp[hc,hm]
   exact h.2 (i%zs.length) b v h1 (by rw[hv];simp[hc,hm])
  ·cases h1
theorem wj {d:Nat} {x y:Operand} {t tn et q m1 m2 j p c j':Nat} {ik kn:IntKind} {ty te:Ty} {cs:List AV} (hT:a8 P t ty) (hE:a8 P et te) (hN:P.underlying tn=some (.int kn)) (ho:o.op= .call ⟨.builtin .append,#[x,y],#[t,tn]⟩) (hd:o.dst=some d) (hel:ty.elem=some (et,q)) (hk:te.size=q) (hq0:0<q) (hx:s.ev x= .vs j p m1 c q et) (hj:s.bx j=some cs) (hy:s.ev y= .d (.leaf (.val (.int ik (m2:Nat))))) (hm2:0<m2) (hroom:c<m1+m2) (hp:(p+m1)*q<=cs.length) (hnew:fJ s j'=true) (hw:(bB te.zero && bB ((cs.drop (p*q)).take (m1*q)))=true) (hb:(m1+m2)*te.bytes<=140737488355328) (h63:m1+m2<=9223372036854775807):
 bE P o s ⟨.own j' (m1+m2) q et,some [(j',some ((cs.drop (p*q)).take (m1*q)++eL te.zero m2))]⟩:=by
 obtain⟨hu,i,z,hi,hiz,his,hib,hzl,hzm⟩:=Gw hT hE hel hk;intro n S0 w0 g a w K Q hM hdn hK;have hm:=hM.ev x;rw[hx]at hm;obtain⟨e1,e2,e3,arr,e5,e6⟩:=hm.2 cs hj;obtain⟨_,arr',e',k1,k2,k3,_,_⟩:=hM.bm j cs hj;rw[e5]at k1
 injection k1 with k1
 injection k1 with k1 _
 subst k1;rw[Nat.add_mul]at hp;have hlc:=k2.1;have hold:CM (Own S0 g s) w ((cs.drop (p*q)).take (m1*q)) ((arr.toList.drop (p*q)).take (m1*q)):=k2.sub O_;generalize hO:(arr.toList.drop (p*q)).take (m1*q)=olds at *;have hol:olds.length=m1*q:=by rw[<- hO];simp at hlc ⊢;omega
 have hbd:Below w.heap.size w w.drew:=⟨rfl,rfl,rfl,l_ _,fun _ _=>rfl⟩
 have holds:∀r u,olds[r]? =some u->w.drew.cell? ((⟨g j,p*q,none⟩:Addr).add r)=some u:=fun r u hu=>by
  rw[b7,dK (w:=w.drew) e5];rw[<- hO,List.getElem?_take]at hu
  split at hu
  ·simpa using hu
  ·cases hu
 have hf:=run_firstCells_some (P:=P) w.drew i.size m1 ⟨g j,p*q,none⟩ m1 c olds (by rw[hol,his]) holds;have hby:m2*te.bytes<=(m1+m2)*te.bytes:=P_ _ O_;have hr:=Lib.run_append_grow_zeros (P:=P) w t tn o.type et i z ik kn hu hN hi hiz (some ⟨g j,p*q,none⟩) m1 c olds hf m2 hm2 O_ hroom O_ (by rw[hib];omega) (growslice_fits hroom (by rw[hib];exact hb))
 simp only[B_]at hw
 have hcap:m1+m2<=grownCap w (m1+m2) c et:=grownCap_ge w _ _ _
 have hcap2:grownCap w (m1+m2) c et<=9223372036854775807:=by
  have:=grownCap_le_maxLen w (m1+m2) c et (by unfold maxLen;omega);unfold maxLen at this;omega
 have hzc:∀r,CM (Own S0 g s) w (eL te.zero r) (Builtin.zeroCells z.cells r).toList:=fun r=>M2 (hzm _ _) hE.zlen r
 have hcm:=(hold.append (hzc m2)).agree (S':=Own S0 g s) (w':=w.drew) (.of_below hbd) (fun _ _ h=>h);have key:=(hM.grow' hbd).alloc (hdn d hd) (bA hnew).1 (bA hnew).2 (cs:=(cs.drop (p*q)).take (m1*q)++eL te.zero m2) (arr:=olds.toArray++Builtin.zeroCells z.cells m2++Builtin.zeroCells z.cells (grownCap w (m1+m2) c et-(m1+m2))) (e:=et) (x:= .own j' (m1+m2) q et) (v:= .slice (some ⟨w.heap.size,0,none⟩) (m1+m2) (grownCap w (m1+m2) c et)) (by simpa using fK.append (us:=(Builtin.zeroCells z.cells (grownCap w (m1+m2) c et-(m1+m2))).toList) hcm) ?_ ?_ (fun h=>by rw[nK hnew]at h;cases h) ?_
 ·unfold Oper.wp execOp
  simp only[ho,resolve,invoke,builtin,Y_,a_,R_,List.map_toArray,List.map_cons,List.map_nil,e1,a7 hM hy,hr]
  show K (a.put o.dst _) _;rw[hd]at hK ⊢;exact hK _ _ _ key
 ·intro _ v hv
  have hz0:∀r,∀u∈(Builtin.zeroCells z.cells r).toList,gb u=true:=fun r=>jl (hzc r) (zv hw.1 r)
  simp only[Array.toList_append,List.mem_append]at hv
  rcases hv with(hv|hv)|hv
  ·exact jl hold hw.2 v (by simpa using hv)
  ·exact hz0 _ v hv
  ·exact hz0 _ v hv
 ·intro b hb
  rcases List.mem_append.1 hb with hb|hb
  ·exact lh hw.2 b hb
  ·exact lh (zv hw.1 m2) b hb
 ·intro g' s' hg hb
  refine⟨AS.kn_of hb,fun cs' hc=>⟨_,by rw[hg];rfl,hcap,hcap2,?_,_,by rw[hg];exact heap_alloc_new w.drew _,?_⟩⟩
  ·rw[hb]at hc
   cases hc;rw[(hold.append (hzc m2)).1,L_,hol,Array.length_toList,size_zeroCells,hzl,Nat.add_mul];omega
  ·simp[size_zeroCells,hol,hzl]
   rw[<- Nat.add_mul,<- Nat.add_mul]
   congr 1
   omega
theorem KR (j':Nat) (hT:∀t d,T t=some d->a8 P t d) {d:Nat} {x y:Operand} {t tn et q m1 m2 m3 j p c:Nat} {ik kn:IntKind} {ty te:Ty} {cs cs':List AV} (hm2:0<m2) (hroom:c<m1+m2) (hp:(p+m1)*q<=cs.length) (hw:bB ((cs.drop (p*q)).take (m1*q))=true) (hb:(m1+m2)*te.bytes<=140737488355328) (h63:m1+m2<=9223372036854775807) (hm:m1+m2=m3) (hcs:(cs.drop (p*q)).take (m1*q)++eL te.zero m2=cs') (h1:gd ops s o=some true) (ho:o.op= .call ⟨.builtin .append,#[x,y],#[t,tn]⟩) (hd:o.dst=some d) (h3:aL n o.dst=true) (ht:T t=some ty) (hel:ty.elem=some (et,q)) (hte:T et=some te) (hk:te.size=q) (hq0:Nat.blt 0 q=true) (htn:P.underlying tn=some (.int kn))
 (hx:s.ev x= .vs j p m1 c q et) (hj:s.bx j=some cs) (hy:s.ev y= .d (.leaf (.val (.int ik (m2:Nat))))) (hnew:fJ s j'=true) (hz:bB te.zero=true)
 (h4:fg draw ops (aA ops o ⟨.own j' m3 q et,some [(j',some cs')]⟩ [j',j]) k fps=true)
 (h:ar P T n ops id draw K (k+1) os (s.eff o.dst ⟨.own j' m3 q et,some [(j',some cs')]⟩) (aA ops o ⟨.own j' m3 q et,some [(j',some cs')]⟩ [j',j]::fps)):ar P T n ops id draw K k (o::os) s fps:=by
 subst hm hcs;refine .run h1 (.gen fun s2 ht2 hrb=>?_) h3 h4 h;have hx2:s2.ev x=s.ev x:=aw ht2 (by rw[ho];simp[Op.operands,Call.operands]);have hy2:s2.ev y=s.ev y:=aw ht2 (by rw[ho];simp[Op.operands,Call.operands]);exact wj (hT _ _ ht) (hT _ _ hte) htn ho hd hel hk (by simpa using hq0) (hx2.trans hx) ((bg (hrb j S_)).trans hj) (hy2.trans hy) hm2 hroom hp ((ew (hrb j' S_)).trans hnew) (by simp[hz,hw]) hb h63
inductive lU (s:AS) (x:Operand) (j p m q:Nat) (cs:List AV):Prop
 |own {e:Nat}:s.ev x= .own j m q e->p=0->s.bx j=some cs->lU s x j p m q cs
 |vw {r:Nat}:s.ev x= .vw j r m q->p=r*q->s.bx j=some cs->lU s x j p m q cs
 |vs {r c e:Nat}:s.ev x= .vs j r m c q e->p=r*q->s.bx j=some cs->lU s x j p m q cs
theorem lU.congr {x:Operand} {j p m q:Nat} {cs:List AV} {s2:AS} (h:lU s x j p m q cs) (hx:s2.ev x=s.ev x) (hb:ap s2.b j=ap s.b j):lU s2 x j p m q cs:=by
 cases h with
 |own h1 h2 h3=>exact .own (hx.trans h1) h2 ((bg hb).trans h3)
 |vw h1 h2 h3=>exact .vw (hx.trans h1) h2 ((bg hb).trans h3)
 |vs h1 h2 h3=>exact .vs (hx.trans h1) h2 ((bg hb).trans h3)
theorem lU.here {x:Operand} {j p m q:Nat} {cs:List AV} (h:lU s x j p m q cs) (hM:MG n S0 w0 g s a w):s.bx j=some cs/\ ∃c arr e,a.eval x= .slice (some ⟨g j,p,none⟩) m c/\w.heap[g j]? =some (.cells arr e (0,0))/\p+m*q<=arr.size:=by
 cases h with
 |own h1 h2 h3=>
  have hm:=hM.ev x;rw[h1]at hm;obtain⟨c,e1,e2,e3,e4,arr,e5,e6⟩:=hm.2 cs h3;subst h2;exact⟨h3,c,arr,_,e1,e5,by rw[e6,J_];exact P_ _ e2⟩
 |vw h1 h2 h3=>
  have hm:=hM.ev x;rw[h1]at hm;obtain⟨c,e1,e2,e3,e4⟩:=hm.2 cs h3;obtain⟨_,arr,e,e5,e6,_⟩:=hM.bm j cs h3;have hl:=e6.1;subst h2;refine⟨h3,c,arr,e,e1,e5,?_⟩;rw[<- Nat.add_mul]
  simp at hl
  omega
 |vs h1 h2 h3=>
  have hm:=hM.ev x;rw[h1]at hm;obtain⟨e1,e2,e3,arr,e5,e6⟩:=hm.2 cs h3;subst h2;refine⟨h3,_,arr,_,e1,e5,?_⟩;rw[e6,<- Nat.add_mul];exact P_ _ O_
theorem yW {w:World} (dT sT ty elem:TypeId) (i:TypeInfo) (b p dLen dCap:Nat) (ad:Addr) (sLen sCap:Nat) (cur:Array Value) (t:TypeId) (cs:List Value) (hu:P.underlying dT=some (.slice elem)) (hi:P.info? elem=some i) (hg:w.heap[b]? =some (.cells cur t (0,0))) (r:Nat) (hn:Nat.min sLen dLen=r) (hl:cs.length=r*i.size)
 (hsrc:∀j v,cs[j]? =some v->w.cell? (ad.add j)=some v) (hfit:p+cs.length<=cur.size) (h1:∀v∈cs,v.oneCell'=true):
 (Builtin.copy_ #[dT,sT] ty #[.slice (some ⟨b,p,none⟩) dLen dCap, .slice (some ad) sLen sCap]).run P w= .ok (goInt r) (w.setRow b (AW cur p cs)):=by
 have hf:=run_firstCells_some (P:=P) w i.size r ad sLen sCap cs hl hsrc;have hst:=run_storeCells_at P b p t cs 0 cur w hg (by simpa using hfit) h1
 simp only[Nat.add_zero]at hst
 simp[Builtin.copy_,run_underlying hu,Builtin.lenOf,sizeOf,typeInfo,hi,hn,hf,hst,AW]
inductive mP (s:AS) (x:Operand) (mm r q:Nat):List Nat->List AV->Prop
 |of {L:List Nat} {ys xs:List AV}:lN s x mm q L ys->r<=mm->ys.take (r*q)=xs->mP s x mm r q L xs
 |vs {j p c e:Nat} {cs xs:List AV}:s.ev x= .vs j p mm c q e->s.bx j=some cs->r<=mm->(p+r)*q<=cs.length->(cs.drop (p*q)).take (r*q)=xs->mP s x mm r q [j] xs
theorem mP.congr {x:Operand} {mm r q:Nat} {L:List Nat} {xs:List AV} {s2:AS} (h:mP s x mm r q L xs) (hx:s2.ev x=s.ev x) (hb:∀i∈L,ap s2.b i=ap s.b i):mP s2 x mm r q L xs:=by
 cases h with
 |of h1 h2 h3=>exact .of (h1.congr hx hb) h2 h3
 |vs h1 h2 h3 h4 h5=>exact .vs (hx.trans h1) ((bg (hb _ S_)).trans h2) h3 h4 h5
theorem mP.news {x:Operand} {mm r q:Nat} {L:List Nat} {xs:List AV} (h:mP s x mm r q L xs) (hM:MG n S0 w0 g s a w):∃(ad:Addr) (c2:Nat) (news:List Value),a.eval x= .slice (some ad) mm c2/\news.length=r*q/\(∀j u,news[j]? =some u->w.cell? (ad.add j)=some u)/\CM (Own S0 g s) w xs news:=by
 cases h with
 |of h1 h2 h3=>
  obtain⟨ad,c2,news,hya,hnl,hnews,hncm⟩:=h1.news hM;subst h3;refine⟨ad,c2,news.take (r*q),hya,?_,fun j u hj=>?_,hncm.take _⟩
  ·rw[U_,hnl]
   exact Nat.min_eq_left (P_ _ h2)
  ·rw[List.getElem?_take]at hj
   split at hj
   ·exact hnews j u hj
   ·cases hj
 |vs h1 h2 h3 h4 h5=>
  rename_i j p c e cs
  have hm:=hM.ev x;rw[h1]at hm;obtain⟨e1,e2,e3,_⟩:=hm.2 cs h2;obtain⟨_,arr,e,e5,e6,_⟩:=hM.bm j cs h2;have hl2:=e6.1;subst h5;have hsz:(p+r)*q=p*q+r*q:=Nat.add_mul _ _ _;refine⟨_,c,(arr.toList.drop (p*q)).take (r*q),e1,by simp at hl2 ⊢;omega,fun i u hi=>?_,e6.sub O_⟩;exact Dx
theorem Cp {L:List Nat} {x y:Operand} {t t' et q m1 mm j p r:Nat} {ty:Ty} {cs xs:List AV} (hT:a8 P t ty) (ho:o.op= .call ⟨.builtin .copy,#[x,y],#[t,t']⟩) (hel:ty.elem=some (et,q)) (hx:lU s x j p m1 q cs) (hy:mP s y mm r q L xs) (hr:Nat.min mm m1=r) (hlb:cM j=false) (hp:p<=cs.length) (hw:bL j=false->bB xs=true):
 bE P o s ⟨.d (.leaf (.val (.int .i64 (r:Nat)))),some [(j,some (bz cs p xs))]⟩:=by
 obtain⟨u,hu,_,hel',_⟩:=hT.und;obtain⟨rfl,hks⟩:=hel' et q hel
 obtain⟨i,hi,his⟩:∃i,P.info? et=some i/\i.size=q:=by
  cases hq:P.info? et with
  |none=>rw[hq]at hks;cases hks
  |some i=>rw[hq]at hks;exact⟨i,rfl,by simpa using hks⟩
 intro n S0 w0 g a w K Q hM hdn hK;obtain⟨hj,c,arr,e,e1,e5,e6⟩:=hx.here hM;obtain⟨ad,c2,news,hya,hnl,hnews,hncm⟩:=hy.news hM;have hr1:r<=m1:=by rw[<- hr];exact Nat.min_le_right _ _
 have hfit:p+news.length<=arr.size:=by
  rw[hnl];have:=P_ q hr1;omega
 have hrun:=yW (P:=P) (w:=w) t t' o.type et i (g j) p m1 c ad mm c2 arr e news hu hi e5 r hr (by rw[hnl,his]) hnews hfit hncm.plain;have h2:=hM.wr hj hlb e5 hp hfit hncm hw;unfold Oper.wp execOp
 simp only[ho,resolve,invoke,builtin,Y_,a_,R_,List.map_toArray,List.map_cons,List.map_nil,e1,hya,hrun]
 show K (a.put o.dst _) _;cases hd:o.dst with
 |none=>rw[hd]at hK;exact hK _ _ _ h2
 |some d=>
  rw[hd]at hK;exact hK _ _ _ (h2.put (hdn d hd) (x:= .d (.leaf (.val (.int .i64 (r:Nat))))) (Below.refl _ _) (AV.M.val rfl))
theorem jT (hT:∀t d,T t=some d->a8 P t d) {L:List Nat} {x y:Operand} {t t' et q m1 mm j p r:Nat} {ty:Ty} {cs xs cs':List AV} (hr:Nat.min mm m1=r) (hp:p<=cs.length) (hcs:bz cs p xs=cs') (hw:(bL j || bB xs)=true) (h1:gd ops s o=some true) (ho:o.op= .call ⟨.builtin .copy,#[x,y],#[t,t']⟩) (h3:aL n o.dst=true) (ht:T t=some ty) (hel:ty.elem=some (et,q)) (hx:lU s x j p m1 q cs) (hy:mP s y mm r q L xs) (hlb:cM j=false)
 (h4:fg draw ops (aA ops o ⟨.d (.leaf (.val (.int .i64 (r:Nat)))),some [(j,some cs')]⟩ (j::L)) k fps=true)
 (h:ar P T n ops id draw K (k+1) os (s.eff o.dst ⟨.d (.leaf (.val (.int .i64 (r:Nat)))),some [(j,some cs')]⟩) (aA ops o ⟨.d (.leaf (.val (.int .i64 (r:Nat)))),some [(j,some cs')]⟩ (j::L)::fps)):ar P T n ops id draw K k (o::os) s fps:=by
 subst hcs;refine .run h1 (.gen fun s2 ht2 hrb=>?_) h3 h4 h;have hx2:s2.ev x=s.ev x:=aw ht2 (by rw[ho];simp[Op.operands,Call.operands]);have hy2:s2.ev y=s.ev y:=aw ht2 (by rw[ho];simp[Op.operands,Call.operands]);exact Cp (hT _ _ ht) ho hel (hx.congr hx2 (hrb j S_)) (hy.congr hy2 fun i hi=>hrb i (by simp[hi])) hr hlb hp (fun h=>by rw[h]at hw;exact hw)
theorem ti (hT:∀t d,T t=some d->a8 P t d) {f:Operand} {fid:FuncId} {fn:Func} {x y:Operand} {ts:Array TypeId} {tS tR et q j1 m1 q1 e1 j2 p2 m2 c2 e2:Nat} {ty:Ty} {cs1 cs2:List AV} (hne:j1≠j2) (hm2:0<m2) (h1:gd ops s o=some true) (ho:o.op= .call ⟨.value f,#[x,y],ts⟩) (hev:s.ev f= .d (.leaf (.val (.func (.func fid) #[] #[])))) (hfn:P.funcs[fid]? =some fn) (hname:(fn.name == "runtime.NumGoroutine")=false) (hbd:fn.body.isNone=true) (hnx:Extern.findNext fn=none) (hfd:Extern.find fn=some (Extern.SlicesOverlaps.overlaps #[tS,tS] #[tR]))
 (h5:T tS=some ty) (h6:ty.elem=some (et,q)) (hq:Nat.blt 0 q=true) (hx:s.ev x= .own j1 m1 q1 e1) (hj1:s.bx j1=some cs1) (hy:s.ev y= .vs j2 p2 m2 c2 q e2) (hj2:s.bx j2=some cs2) (h3:aL n o.dst=true)
 (h4:fg draw ops (aA ops o ⟨.d (.leaf (.val (.bool false))),none⟩ [j1,j2]) k fps=true) (h:ar P T n ops id draw K (k+1) os (s.eff o.dst ⟨.d (.leaf (.val (.bool false))),none⟩) (aA ops o ⟨.d (.leaf (.val (.bool false))),none⟩ [j1,j2]::fps)):ar P T n ops id draw K k (o::os) s fps:=by
 refine .run h1 (.gen fun s2 ht hrb=>?_) h3 h4 h;have hf2:=(aw ht (x:=f) (by simp[ho,Op.operands,Call.operands])).trans hev;have hx2:=(aw ht (x:=x) (by simp[ho,Op.operands,Call.operands])).trans hx;have hy2:=(aw ht (x:=y) (by simp[ho,Op.operands,Call.operands])).trans hy;have hb1:=(bg (hrb j1 S_)).trans hj1;have hb2:=(bg (hrb j2 S_)).trans hj2;obtain⟨ud,hu,_,hel,_⟩:=(hT _ _ h5).und;obtain⟨rfl,hks⟩:=hel et q h6;refine ak fun n S0 w0 g a w hM=>⟨.bool false,w,?_,Below.refl _ _,AV.M.val rfl⟩
 have hmx:=hM.ev x;rw[hx2]at hmx;obtain⟨c1,a1,_,_,_,arr1,a5,_⟩:=hmx.2 cs1 hb1;have hmy:=hM.ev y;rw[hy2]at hmy;obtain⟨d1,d2,_,arr2,d5,d6⟩:=hmy.2 cs2 hb2;have hbl:g j1≠g j2:=fun e=>hne (hM.inj j1 j2 _ _ hb1 hb2 e)
 have hq0:0<q:=by simpa using hq
 have hpos:arr2.size≠0:=by
  rw[d6];exact Nat.mul_ne_zero O_ O_
 have hr:=Lib.run_overlaps_apart (P:=P) w tS tR et hu q (fun w=>bJ hks w) ⟨g j1,0,none⟩ ⟨g j2,p2*q,none⟩ m1 c1 m2 c2 hbl e1 e2 arr1.size arr2.size (by simp[World.shape?,a5]) (by simp[World.shape?,d5]) hpos (by simp[World.frozen?,a5]) (by simp[World.frozen?,a5]);have hc:=run_callFunc_extern (P:=P) hfn hname hbd hnx hfd #[a.eval x,a.eval y] w;rw[a1,d1,hr]at hc;unfold execOp;rw[ho]
 simp only[resolve,a7 hM hf2,Deferred.ofValue,Y_,a_,R_,invoke]
 simpa[a1,d1]using hc
theorem DU (hM:MG n S0 w0 g s a w):∀(l:List Operand),oq (Own S0 g s) g s w (l.map s.ev) (l.map a.eval)
 | []=>trivial
 |x::l=>⟨hM.ev x,DU hM l⟩
theorem yY {f:Operand} {fid:FuncId} {args:Array Operand} {tys:Array TypeId} {ts:List TV} {b:BL} {r:RT} {b':BL} (hc:az P fid ts b r b') (ho:o.op= .call ⟨.value f,args,tys⟩) (hfe:s.ev f= .d (.leaf (.val (.func (.func fid) #[] #[])))) (hts:args.toList.map s.ev=ts)
 (hk:(EF (ay b) (ts.flatMap d8) && ui (ay b) (ay b))=true) (hb:qQ s (ay b)) (hcn:∀j cs,s.bx j=some cs->j ∉ b.map (·.1)->bL j=false) (hnew:md s b b'=true):
 bE P o s ⟨r.tv,some (ay b'++dw b' b)⟩:=by
 intro n S0 w0 g a w K Q hM hdn hK;rw[B_]at hk;obtain⟨hk,hwfc⟩:=hk;obtain⟨S,hpre,hO,hpost⟩:=hM.callT (b:=b) (b':=b') hb hwfc hcn (fun j cs hj hn=>qY hnew (bU.1 hj) hn);have inb:∀j cs,(sB b).bx j=some cs->s.bx j=some cs:=fun j cs hj=>hb.at (bU.1 hj)
 have hvs:=DU hM args.toList;rw[hts]at hvs
 have hrun:(execOp a.eval o).run P w= .ok (.enter fid (args.toList.map a.eval).toArray) w:=by
  unfold execOp;rw[ho]
  simp only[resolve,a7 hM hfe,Deferred.ofValue,Y_,a_,R_,invoke]
  exact Pz
 have hcall:=hc.calls S g w _ hpre (by rw[hO];exact qS inb (CD hk) hvs);unfold Oper.wp;rw[hrun];show Calls P fid _ w _;refine hcall.mono ?_;rintro en w1 ⟨v,g',rfl,h2,h3,h4,h5,h6⟩;show K (a.put o.dst v) w1;obtain⟨g2,hm⟩:=hpost r v g' w1 h2 h3 h4 h5 h6 o.dst hdn;refine hK g2 _ _ ?_;cases ho2:o.dst<;>(rw[ho2]at hm;exact hm)
theorem qM {f:Operand} {fid:FuncId} {args:Array Operand} {tys:Array TypeId} {ts:List TV} {b:BL} {r:RT} {b':BL} (hc:az P fid ts b r b') (h1:gd ops s o=some true) (ho:o.op= .call ⟨.value f,args,tys⟩) (hfe:s.ev f= .d (.leaf (.val (.func (.func fid) #[] #[])))) (hts:args.toList.map s.ev=ts)
 (hk:(EF (ay b) (ts.flatMap d8) && ui (ay b) (ay b))=true) (hb:qQ s (ay b)) (hcn:dY [] s.b=true) (hnew:md s b b'=true) (h3:aL n o.dst=true) (h4:fg draw ops (aA ops o ⟨r.tv,some (ay b'++dw b' b)⟩ (b.map (·.1)++b'.map (·.1))) k fps=true)
 (h:ar P T n ops id draw K (k+1) os (s.eff o.dst ⟨r.tv,some (ay b'++dw b' b)⟩) (aA ops o ⟨r.tv,some (ay b'++dw b' b)⟩ (b.map (·.1)++b'.map (·.1))::fps)):ar P T n ops id draw K k (o::os) s fps:=by
 refine .run h1 (.genC (iZ hcn) fun s2 hc2 ht hrb=>?_) h3 h4 h;have hf:s2.ev f=s.ev f:=aw ht (by rw[ho];simp[Op.operands,Call.operands])
 have ha:args.toList.map s2.ev=ts:=by
  rw[<- hts];exact List.map_congr_left fun x hx=>aw ht (by rw[ho];simp[Op.operands,Call.operands];exact .inr (by simpa using hx))
 exact yY hc ho (hf.trans hfe) ha hk (li (fun j hj=>hrb j (List.mem_append_left _ hj)) hb) (fun j cs hj _=>hc2 j cs hj) ((jz fun j hj=>hrb j (List.mem_append_right _ hj)).trans hnew)
end
theorem dJ.no {b b':BL} (h:∀j cs cs',(sB b).bx j=some cs->(sB b').bx j=some cs'->False):dJ b b':=fun j cs cs' h1 h2=>(h j cs cs' h1 h2).elim
theorem Jq {x cs':List AV}:dJ [(902,x)] [(1003,cs')]:=dJ.no fun j c c' h1 h2=>by
 exact OO
theorem xj {x cs cs':List AV}:dJ [(901,cs),(902,x)] [(1003,cs')]:=dJ.no fun j c c' h1 h2=>by
 exact OO
def pj (q:Nat) (cs:List AV) (i:Nat) (x:List AV):List AV:=cs.take (i*q)++x++cs.drop (i*q)
theorem vQ {a b c:List AV} {p:Nat} (h:a.length=p):bz (a++b) p c=a++c++b.drop c.length:=by
 subst h;unfold bz;rw[List.take_left,<- List.drop_drop,List.drop_left]
section
variable {q m i:Nat} {cs x:List AV}
theorem DR (hi:i=m) (hcs:cs.length=m*q) (hx:x.length=1*q):cs.take (m*q)++x.take (1*q)=pj q cs i x:=by
 subst hi;unfold pj;rw[List.drop_of_length_le (Nat.le_of_eq hcs),c_,K_ (l:=x) (Nat.le_of_eq hx)]
theorem Kp (hi:i<m) (hcs:cs.length=m*q) (hx:x.length=1*q) (Z:List AV):bz ((cs.drop (0*q)).take (i*q)++Z) (i*q) (x.take (1*q))=cs.take (i*q)++x++Z.drop x.length:=by
 rw[Nat.zero_mul,List.drop_zero,K_ (l:=x) (Nat.le_of_eq hx)];refine vQ ?_;rw[U_,hcs];exact Nat.min_eq_left (P_ _ (Nat.le_of_lt hi))
theorem Ka (hi:i<m) (hcs:cs.length=m*q) (hx:x.length=1*q) {Z:List AV} (hZ:Z.length=(m+1-i)*q):bz (cs.take (i*q)++x++Z.drop x.length) ((i+1)*q) ((cs.drop ((0+i)*q)).take ((m-i)*q))=pj q cs i x:=by
 have h1:(m-i)*q=m*q-i*q:=Nat.sub_mul _ _ _;have h2:(i+1)*q=i*q+1*q:=Nat.add_mul _ _ _;have h3:i*q<=m*q:=P_ _ (Nat.le_of_lt hi);have h4:(m+1-i)*q=(m-i)*q+1*q:=by rw[<- Nat.add_mul];congr 1;omega
 rw[J_,K_ (l:=cs.drop (i*q)) (by rw[n_];omega),vQ (by rw[L_,U_];omega)];rw[List.drop_drop,List.drop_of_length_le (l:=Z) (by rw[n_];omega),c_];rfl
theorem JE (hi:i<m) (hcs:cs.length=m*q):bz cs ((0+(i+1))*q) ((cs.drop ((0+i)*q)).take ((m-i)*q))=cs.take ((i+1)*q)++cs.drop (i*q):=by
 have h1:(m-i)*q=m*q-i*q:=Nat.sub_mul _ _ _;have h2:(i+1)*q=i*q+1*q:=Nat.add_mul _ _ _;have h3:i*q<=m*q:=P_ _ (Nat.le_of_lt hi);rw[J_,J_,K_ (l:=cs.drop (i*q)) (by rw[n_];omega)];have hd:cs.drop ((i+1)*q+(cs.drop (i*q)).length)=[]:=List.drop_of_length_le (by rw[n_];omega);unfold bz;rw[hd,c_]
theorem JR (hi:i<m) (hcs:cs.length=m*q) (hx:x.length=1*q):bz (cs.take ((i+1)*q)++cs.drop (i*q)) ((0+i)*q) (x.take (1*q))=pj q cs i x:=by
 have h2:(i+1)*q=i*q+1*q:=Nat.add_mul _ _ _;have h3:(i+1)*q<=m*q:=P_ _ hi;rw[J_,K_ (l:=x) (Nat.le_of_eq hx)];unfold bz pj;rw[List.take_append_of_le_length (by rw[U_];omega),List.take_take,Nat.min_eq_left O_,List.drop_append_of_le_length (by rw[U_];omega),hx,<- h2,List.drop_eq_nil_of_le (by rw[U_];omega),List.nil_append]
theorem Di (hi:i<=m) (hcs:cs.length=m*q) (hx:x.length=1*q):(pj q cs i x).length=(m+1)*q:=by
 have h1:i*q<=m*q:=P_ _ hi;have h2:(m+1)*q=m*q+1*q:=Nat.add_mul _ _ _;unfold pj;rw[L_,L_,U_,n_];omega
theorem m8 {l:List AV} (h:bB l=true) (r:Nat):bB (l.drop r)=true:=kL fun b hb=>nZ h b (List.mem_of_mem_drop hb)
end
theorem KC (x:List AV) (hx:x.length=1*1) (hB:bB x=true):az Tryz.prog 182 [.nil, .d (dN .i64 0), .own 902 1 1 9] [(902,x)] (.own 1003 1 1 9) [(1003,x)]:=by
 have hcs:([]:List AV).take (0*1)++x.take (1*1)=x:=by rw[List.take_nil,List.nil_append,K_ (Nat.le_of_eq hx)]
 refine aP af dx func182 rfl rfl rfl rfl rfl (Jq) ?_;refine pr ?_;exact OR
theorem LP {m i:Nat} {cs x:List AV} (hi:i<=m) (hm:0<m) (hl:m<=1000000) (hcs:cs.length=m*1) (hx:x.length=1*1) (hB:bB cs=true) (hX:bB x=true):az Tryz.prog 182 [.own 901 m 1 9, .d (dN .i64 i), .own 902 1 1 9] [(901,cs),(902,x)] (.own 1003 (m+1) 1 9) [(1003,pj 1 cs i x)]:=by
 have hby:∀k,k<=1000001->k*16<=140737488355328:=fun k hk=>by omega
 by_cases e:i=m
 ·have hfin:=DR e hcs hx
  subst e;refine aP af dx func182 rfl rfl rfl rfl rfl (xj) ?_;refine pr ?_;exact Uo
 have him:i<m:=O_
 have g1:=Kp him hcs hx;have g2:=fun Z=> @Ka 1 m i cs x him hcs hx Z
 have r1:=JE him hcs;have r2:=JR him hcs hx;have hlen:=Di hi hcs hx;have hik:i*1<=m*1:=P_ _ hi;have hik2:(i+1)*1<=m*1:=P_ _ him;refine aP af dx func182 rfl rfl rfl rfl rfl (xj) ?_;refine pr ?_;refine iL af him rfl rfl rfl rfl rfl rfl rfl rfl rfl ?_;refine qz ?_
 repeat refine bu (T:=TT) ?_
 refine Dk 0 rfl rfl fun c hc1 hc2=>?_
 refine Og ?_
 by_cases hc:c=m
 ·refine UE ?_
  refine jT af (r:=1) (p:=i*1) (Nat.min_eq_left O_) ?_ (g1 _) ?_ rfl rfl rfl rfl rfl (.vw rfl rfl rfl) (.of (.own rfl rfl rfl) (l_ 1) (List.take_take ..)) rfl rfl ?_
  ·rw[L_,U_,Nat.zero_mul,List.drop_zero];omega
  ·rw[fE hX];rfl
  refine Pa ?_;refine jT af (r:=m-i) (p:=(i+1)*1) (by show min _ _=_;omega) ?_ (g2 _ ?_) ?_ rfl rfl rfl rfl rfl (.vw rfl rfl rfl) (.vs rfl rfl O_ ?_ rfl) rfl rfl ?_
  ·rw[L_,L_,U_];omega
  ·exact cY _ _
  ·rw[fE (m8 hB _)];rfl
  ·exact DN
  exact Kx
 ·refine QB ?_
  refine LJ ?_;refine ti af (j1:=902) (j2:=901) (tS:=86) (tR:=4) D_ (show 0<m+1-(i+1) by omega) rfl rfl rfl func249 (by kernel_rfl) (by kernel_rfl) (by kernel_rfl) (by kernel_rfl) rfl rfl rfl rfl rfl rfl rfl rfl rfl ?_;refine kG ?_
  refine kO3 ?_
  refine LJ ?_
  refine kO2 ?_
  refine De ?_;refine jT af (r:=m-i) (p:=(0+(i+1))*1) (by show min _ _=_;omega) (by rw[J_];omega) r1 ?_ rfl rfl rfl rfl rfl (.vs rfl rfl rfl) (.vs rfl rfl O_ ?_ rfl) rfl rfl ?_
  ·rw[fE (m8 hB _)];rfl
  ·exact DN
  refine kW ?_;refine De ?_;refine kO ?_;refine jT af (r:=1) (p:=(0+i)*1) (Nat.min_eq_left O_) ?_ r2 ?_ rfl rfl rfl rfl rfl (.vs rfl rfl rfl) (.of (.own rfl rfl rfl) (l_ 1) (List.take_take ..)) rfl rfl ?_
  ·rw[L_,U_,J_];omega
  ·rw[fE hX];rfl
  exact N3
theorem Jl (x:List AV) (hx:x.length=1*5) (hB:bB x=true):az Tryz.prog 183 [.nil, .d (dN .i64 0), .own 902 1 5 92] [(902,x)] (.own 1003 1 5 92) [(1003,x)]:=by
 have hcs:([]:List AV).take (0*5)++x.take (1*5)=x:=by rw[List.take_nil,List.nil_append,K_ (Nat.le_of_eq hx)]
 refine aP af dx func183 rfl rfl rfl rfl rfl (Jq) ?_;refine pr ?_;exact OR
theorem Ns {m i:Nat} {cs x:List AV} (hi:i<=m) (hm:0<m) (hl:m<=1000000) (hcs:cs.length=m*5) (hx:x.length=1*5) (hB:bB cs=true) (hX:bB x=true):az Tryz.prog 183 [.own 901 m 5 92, .d (dN .i64 i), .own 902 1 5 92] [(901,cs),(902,x)] (.own 1003 (m+1) 5 92) [(1003,pj 5 cs i x)]:=by
 have hby:∀k,k<=1000001->k*72<=140737488355328:=fun k hk=>by omega
 by_cases e:i=m
 ·have hfin:=DR e hcs hx
  subst e;refine aP af dx func183 rfl rfl rfl rfl rfl (xj) ?_;refine pr ?_;exact Uo
 have him:i<m:=O_
 have g1:=Kp him hcs hx;have g2:=fun Z=> @Ka 5 m i cs x him hcs hx Z
 have r1:=JE him hcs;have r2:=JR him hcs hx;have hlen:=Di hi hcs hx;have hik:i*5<=m*5:=P_ _ hi;have hik2:(i+1)*5<=m*5:=P_ _ him;refine aP af dx func183 rfl rfl rfl rfl rfl (xj) ?_;refine pr ?_;refine iL af him rfl rfl rfl rfl rfl rfl rfl rfl rfl ?_;refine qz ?_
 repeat refine bu (T:=TT) ?_
 refine Dk 0 rfl rfl fun c hc1 hc2=>?_
 refine Og ?_
 by_cases hc:c=m
 ·refine UE ?_
  refine jT af (r:=1) (p:=i*5) (Nat.min_eq_left O_) ?_ (g1 _) ?_ rfl rfl rfl rfl rfl (.vw rfl rfl rfl) (.of (.own rfl rfl rfl) (l_ 1) (List.take_take ..)) rfl rfl ?_
  ·rw[L_,U_,Nat.zero_mul,List.drop_zero];omega
  ·rw[fE hX];rfl
  refine Pa ?_;refine jT af (r:=m-i) (p:=(i+1)*5) (by show min _ _=_;omega) ?_ (g2 _ ?_) ?_ rfl rfl rfl rfl rfl (.vw rfl rfl rfl) (.vs rfl rfl O_ ?_ rfl) rfl rfl ?_
  ·rw[L_,L_,U_];omega
  ·exact cY _ _
  ·rw[fE (m8 hB _)];rfl
  ·exact DN
  exact Kx
 ·refine QB ?_
  refine LJ ?_;refine ti af (j1:=902) (j2:=901) (tS:=130) (tR:=4) D_ (show 0<m+1-(i+1) by omega) rfl rfl rfl func251 (by kernel_rfl) (by kernel_rfl) (by kernel_rfl) (by kernel_rfl) rfl rfl rfl rfl rfl rfl rfl rfl rfl ?_;refine kG ?_
  refine kO3 ?_
  refine LJ ?_
  refine kO2 ?_
  refine De ?_;refine jT af (r:=m-i) (p:=(0+(i+1))*5) (by show min _ _=_;omega) (by rw[J_];omega) r1 ?_ rfl rfl rfl rfl rfl (.vs rfl rfl rfl) (.vs rfl rfl O_ ?_ rfl) rfl rfl ?_
  ·rw[fE (m8 hB _)];rfl
  ·exact DN
  refine kW ?_;refine De ?_;refine kO ?_;refine jT af (r:=1) (p:=(0+i)*5) (Nat.min_eq_left O_) ?_ r2 ?_ rfl rfl rfl rfl rfl (.vs rfl rfl rfl) (.of (.own rfl rfl rfl) (l_ 1) (List.take_take ..)) rfl rfl ?_
  ·rw[L_,U_,J_];omega
  ·rw[fE hX];rfl
  exact N3
end Go.Proofs.YtnchbpoopnjghaaGreatDoor
