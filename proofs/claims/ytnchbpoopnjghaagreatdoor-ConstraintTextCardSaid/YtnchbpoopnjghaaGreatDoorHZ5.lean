/- Parts of a proof: contracts of the functions that the laws reach. -/
import Derived.Test.YtnchbpoopnjghaaGreatDoorHZ4
set_option maxHeartbeats 100000000
set_option linter.all false
open Go.Proofs.Tryz
namespace Go.Proofs.YtnchbpoopnjghaaGreatDoor
open Go.RowKit
theorem I1 (s:List UInt8):aa Tryz.prog 109 [dL s,dL [45]] (.tup [dL (oA s),dB (ep s)]):=
 ⟨aA func109 rfl rfl,fun S w vs hS hv=>by
  match vs,hv with
  | [v,u],⟨h1,h2,_⟩=>
   obtain rfl:=a6 h1;obtain rfl:=a6 h2;refine(Tryz.strings_CutPrefix (Bs s) (Bs [45]) w).mono ?_;rintro e w' ⟨rfl,rfl⟩
   have e1:(⟨(Lib.trimPrefix (Bs s).data.toList (Bs [45]).data.toList).toArray⟩:ByteArray)=Bs (oA s):=by
    unfold Bs
    congr 2
    cases s with
    |nil=>rfl
    |cons c r=>
     by_cases h:c=45
     ·simp[Lib.trimPrefix,Lib.hasPrefix,oA,h,List.isPrefixOf]
     ·have h':¬45=c:=fun e=>h e.symm
      simp[Lib.trimPrefix,Lib.hasPrefix,oA,h,h',List.isPrefixOf]
   have e2:Lib.hasPrefix (Bs s).data.toList (Bs [45]).data.toList=ep s:=by
    cases s with
    |nil=>rfl
    |cons c r=>
     by_cases h:c=45
     ·simp[Bs,Lib.hasPrefix,ep,h,List.isPrefixOf]
     ·have h1':(45 == c)=false:=beq_eq_false_iff_ne.2 fun e=>h e.symm
      have h2':(c == 45)=false:=beq_eq_false_iff_ne.2 h
      simp[Bs,Lib.hasPrefix,ep,h1',h2',List.isPrefixOf]
   rw[e1,e2];refine⟨_,rfl,⟨[.string (Bs (oA s)), .bool (ep s)],rfl,rfl,fun i x u h1 h2=>?_⟩,Below.refl _ _⟩
   match i with
   |0=>simp at h1 h2;subst h1 h2;exact AV.M.val rfl
   |1=>simp at h1 h2;subst h1 h2;exact AV.M.val rfl
   |i+2=>simp at h1⟩
def pV:List Nat->TV
 | []=> .nil
 |a::r=> .own 1000001 (a::r).length 1 135
def pX:List Nat->Option (List AV)
 | []=>none
 |a::r=>some ((a::r).map fun x:Nat=>AV.val (bR x))
theorem ri (a b:List UInt8):num (a++b)=num a*10^b.length+num b:=by
 have:∀n (b:List UInt8),b.length=n->num (a++b)=num a*10^b.length+num b:=by
  intro n
  induction n with
  |zero=>intro b hb;rw[List.eq_nil_of_length_eq_zero hb];simp[num]
  |succ n ih=>
   intro b hb
   obtain⟨b',c,rfl⟩:∃l' c,b=l'++[c]:=by
    rcases List.eq_nil_or_concat b with h| ⟨l',c,h⟩
    ·subst h;simp at hb
    ·exact⟨l',c,by simpa using h⟩
   rw[<- List.append_assoc,jO,ih b' (by simpa using hb),jO,List.length_append,List.length_singleton,Nat.pow_succ];generalize num a=x,10^b'.length=y;rw[<- Nat.mul_assoc,Nat.mul_comm (x*y) 10];omega
 exact this _ b rfl
theorem Kz {m:List Nat} (h:0<m.length):pV m= .own 1000001 m.length 1 135:=by
 cases m with
 |nil=>exact absurd h (by decide)
 |cons a r=>rfl
theorem JM {m:List Nat} (h:0<m.length):pX m=some (m.map fun x:Nat=>AV.val (bR x)):=by
 cases m with
 |nil=>exact absurd h (by decide)
 |cons a r=>rfl
theorem y3 {F C c w i v t:Nat} (hF:F<=1000000000) (hc:c<4294967296) (hw:w<4294967296) (h:v+4294967296^i*c=F*t+C):(c+w*F)/4294967296<4294967296/\v+4294967296^i*((c+w*F)%4294967296)+4294967296^(i+1)*((c+w*F)/4294967296)=F*(t+4294967296^i*w)+C:=by
 have hb:w*F<=4294967295*1000000000:=Nat.mul_le_mul (by omega) hF;refine⟨by omega,?_⟩;rw[Nat.pow_succ,Nat.mul_assoc,Nat.add_assoc,<- Nat.mul_add,Nat.mod_add_div,Nat.mul_add,<- Nat.add_assoc,h,Nat.mul_add];rw[<- Nat.mul_assoc (4294967296^i),Nat.mul_comm (4294967296^i*w) F];omega
theorem jK (s:List UInt8):aa Tryz.prog 346 [dL s] (.tup [dZ (pz s).1,dN .i64 (pz s).2]):=by
 have z0:dZ 0= .agg [.val (.bool false), .sl 0 []]:=by unfold dZ;rw[e0]
 have hsz:=aF s
 by_cases hl:s.length<=65536
 ·have hdl:=qk s
  refine kU func346 ?_;refine Bj ?_;refine dV ?_;refine kW ?_;refine kC (I1 s) ?_;refine kN ?_
  by_cases hgood:oA s≠[]/\((∀c r,oA s=c::r->c≠48)∨((oA s).length=1/\ep s=false))
  ·refine u6 ⟨[(2, .box 0 0),(3, .d (dN .i64 0)),(4, .d (dL (oA s))),(5, .d (dB (ep s)))],[(0,some [.val (.bool false), .sl 0 []])]⟩ (fun s' hw=>?_) (fun R hR hret=>?_)
   ·refine bu ?_
    refine eT hw rfl ?_;refine kN ?_;refine bu ?_;refine bW (T:=TT) ?_;refine ay (List UInt8 × List Nat) (fun p=>∃dn,oA s=dn++p.1/\(∀c∈dn,eg c)/\val p.2=num dn/\Wd p.2/\p.2.length<=dn.length) (fun p=>⟨[(2, .box 0 0),(3, .d (dN .i64 0)),(5, .d (dB (ep s))),(4, .d (dL p.1)),(6,pV p.2)],[(0,some [.val (.bool false), .sl 0 []]),(1000001,pX p.2)]⟩) (fun p=>p.1.length) (oA s,[]) ⟨[],rfl,by simp,rfl,Wd.nil,Nat.le_refl _⟩ kw ?_;rintro⟨rest,m⟩ ⟨dn,hdn,hdd,hval,hWd,hml⟩;dsimp only at hdn hval hWd hml ⊢;have hdnl:=congrArg List.length hdn;rw[List.length_append]at hdnl;have hsr:=aF rest;refine kR ?_;refine fU rfl (fun h=>?_) (fun h=>?_)
    ·have h:=of_decide_eq_true h
     have hr0:0<rest.length:=by omega
     refine dV ?_;obtain⟨nn,hnn⟩:∃nn,(rest.length-1)%9+1=nn:=⟨_,rfl⟩;have hn9:nn<=9:=by omega
     have hnr:nn<=rest.length:=by have:=Nat.mod_le (rest.length-1) 9;omega
     have hmod:((rest.length-1:Nat):Int).tmod 9=((rest.length-1)%9:Nat):=by rw[show(9:Int)=((9:Nat):Int) from rfl,Int.ofNat_tmod]
     refine bW (T:=TT) ?_;refine Ox ?_;refine cg (v':= .int .i64 ((rest.length-1:Nat))) rfl rfl rfl rfl ?_ ?_
     ·exact congrArg (Value.int .i64) (by rw[hsr,IntWalk.i64_in _ (by omega)];omega)
     refine aq rfl rfl rfl rfl ?_ rfl rfl (sW (by decide)) ?_
     ·rfl
     refine kJ (nn) ?_;refine kN ?_;refine kR ?_;refine P5 ⟨[(2, .box 0 0),(3, .d (dN .i64 0)),(5, .d (dB (ep s))),(4, .d (dL rest)),(7, .d (dN .i64 nn)),(8, .d (dN .u64 (num (rest.take nn)))),(9, .d (dN .u64 (10^nn:Nat))),(6,pV m)],[(0,some [.val (.bool false), .sl 0 []]),(1000001,pX m)]⟩ (∀c∈rest.take nn,eg c) (fun hdt s' hw=>?_) (fun R hR hret=>?_)
     ·have hCl:=wQ
      have hdd':∀c∈dn++rest.take nn,eg c:=fun c hc=>(List.mem_append.1 hc).elim (hdd c) (hdt c)
      have hdn':oA s=(dn++rest.take nn)++rest.drop nn:=by rw[List.append_assoc,List.take_append_drop];exact hdn
      have hlen':(dn++rest.take nn).length=dn.length+nn:=by rw[List.length_append,List.length_take,Nat.min_eq_left hnr]
      have hdr:(rest.drop nn).length<rest.length:=by rw[List.length_drop];omega
      obtain⟨C,hC⟩:∃C,num (rest.take nn)=C:=⟨_,rfl⟩;obtain⟨F,hF⟩:∃F,10^nn=F:=⟨_,rfl⟩;have hF9:F<=1000000000:=by rw[<- hF];exact Nat.pow_le_pow_right (by decide) hn9
      have hC9:C<F:=by
       rw[<- hC,<- hF];have:=wQ _ (rest.take nn) rfl (fun c hc=>hdd' c (List.mem_append.2 (.inr hc)))
       rwa[List.length_take,Nat.min_eq_left hnr]at this
      have hnum':num (dn++rest.take nn)=F*num dn+C:=by
       rw[ri,List.length_take,Nat.min_eq_left hnr,hF,hC,Nat.mul_comm]
      rw[hC,hF]at hw;cases m with
      |nil=>
       have hdn0:num dn=0:=hval.symm;refine bu ?_;refine bu ?_;refine eT hw rfl ?_;refine kN ?_;refine bW (T:=TT) ?_;refine ay Unit (fun _=>True) (fun _=>⟨[(2, .box 0 0),(3, .d (dN .i64 0)),(5, .d (dB (ep s))),(4, .d (dL rest)),(7, .d (dN .i64 nn)),(8, .d (dN .u64 C)),(6, .nil),(70, .d (dN .i64 0)),(71, .d (dN .i64 0))],[(0,some [.val (.bool false), .sl 0 []])]⟩) (fun _=>0) () trivial kw ?_;rintro _ _;refine kR ?_;refine dM (T:=TT) rfl ?_;refine ip ?_;have hcv:(F*0:Nat)+C=C:=by omega
       refine ND ?_
       by_cases hC0:C=0
       ·refine kE ?_
        refine kN ?_;refine dM (T:=TT) rfl ?_;refine dV ?_;refine Vc ?_;refine DM ?_;refine⟨(rest.drop nn,[]),⟨dn++rest.take nn,hdn',hdd',?_,Wd.nil,Nat.zero_le _⟩,hdr,weak ⟨rfl,rfl,rfl,rfl,rfl,trivial⟩ ⟨rfl,trivial⟩ rfl⟩;rw[hnum',hdn0,hC0];rfl
       ·have hCp:0<C:=by omega
        refine kT ?_;refine kN ?_;refine ee (T:=TT) rfl ?_;refine Vc ?_;refine cg (v':= .int .u32 (C)) rfl rfl rfl rfl ?_ ?_
        ·exact congrArg (Value.int .u32) (by rw[IntWalk.u32_in _ (by omega)])
        refine kO ?_;refine O9 (by decide) (by decide) rfl rfl rfl rfl rfl rfl rfl rfl rfl rfl rfl (.nil rfl rfl) rfl rfl ?_;refine kN ?_;refine Vc ?_;refine DM ?_;refine⟨(rest.drop nn,[C]),⟨dn++rest.take nn,hdn',hdd',?_, .cons (by omega) .nil,by rw[hlen'];show 1<=_;omega⟩,hdr,?_⟩
        ·rw[hnum',hdn0]
         simp[val]
        ·refine aJ.trans (b:=⟨[(2, .box 0 0),(3, .d (dN .i64 0)),(5, .d (dB (ep s))),(4, .d (dL (rest.drop nn))),(6, .own 1027004 1 1 135)],[(0,some [.val (.bool false), .sl 0 []]),(1027004,some [.val (bR C)])]⟩) kw ((aV (q:=6) (j:=1027004) (j':=1000001) (m:=1) (k:=1) (e:=135) (cs:=[.val (bR C)]) rfl rfl rfl rfl).trans kw)
      |cons x r=>
       obtain⟨m,hm⟩:∃m,x::r=m:=⟨_,rfl⟩;have hm0:0<m.length:=by rw[<- hm];simp
       rw[hm,Kz hm0,JM hm0]at hw;rw[hm]at hval hWd hml;clear hm;refine bu ?_;refine bu ?_;refine eT hw rfl ?_;refine kN ?_;refine bW (T:=TT) ?_;refine ay (List Nat × Nat) (fun p=>p.1.length<=m.length/\Wd p.1/\p.2<4294967296/\val p.1+4294967296^p.1.length*p.2=F*val (m.take p.1.length)+C) (fun p=>⟨[(2, .box 0 0),(3, .d (dN .i64 0)),(5, .d (dB (ep s))),(4, .d (dL rest)),(7, .d (dN .i64 nn)),(8, .d (dN .u64 p.2)),(9, .d (dN .u64 F)),(6, .own 1000001 m.length 1 135),(70, .d (dN .i64 m.length)),(71, .d (dN .i64 p.1.length))],[(0,some [.val (.bool false), .sl 0 []]),(1000001,some ((p.1++m.drop p.1.length).map fun x:Nat=>AV.val (bR x)))]⟩) (fun p=>m.length-p.1.length) ([],C) ⟨by simp, .nil,by show C<_;omega,by simp[val]⟩ kw ?_;rintro⟨xs,c⟩ ⟨hxl,hxw,hc,heq⟩;dsimp only at hxl hxw hc heq ⊢
       refine kR ?_;refine bu ?_;refine fU rfl (fun h=>?_) (fun h=>?_)
       ·have h:=of_decide_eq_true h
        have hi:xs.length<m.length:=by omega
        refine dV ?_;refine bu ?_;refine bW (T:=TT) ?_;refine kR ?_;refine AH ?_
        refine kO3 ?_
        refine sh (i:=xs.length) hi rfl rfl rfl rfl rfl rfl rfl rfl rfl ?_
        have hget:((xs++m.drop xs.length).map fun x:Nat=>AV.val (bR x))[xs.length*1]? =some (.val (bR m[xs.length])):=by
         rw[Nat.mul_one,List.getElem?_map,List.getElem?_append_right (Nat.le_refl _),Nat.sub_self,List.getElem?_drop,Nat.add_zero,List.getElem?_eq_getElem hi];rfl
        have hwi:m[xs.length]<4294967296:=hWd _ (List.getElem_mem hi)
        obtain⟨hc',heq'⟩:=y3 hF9 hc hwi heq;have hwF:m[xs.length]*F<=4294967295*1000000000:=Nat.mul_le_mul (by omega) hF9;refine Lx hget rfl rfl rfl rfl rfl rfl rfl rfl rfl ?_;obtain⟨W,hW⟩:∃W,m[xs.length]=W:=⟨_,rfl⟩;obtain⟨p,hp⟩:∃p,W*F=p:=⟨_,rfl⟩;have hpr:(W:Int)*(F:Nat)=(p:Nat):=by rw[<- hp,Int.natCast_mul]
        have htk:val (m.take (xs.length+1))=val (m.take xs.length)+4294967296^xs.length*W:=by rw[aj,List.getD_eq_getElem?_getD,List.getElem?_eq_getElem hi,hW];rfl
        rw[hW,hp]at hwF hc' heq';rw[hW];rw[hW]at hwi;obtain⟨t,ht⟩:∃t,c+p=t:=⟨_,rfl⟩;rw[ht]at hc' heq';refine cg (v':= .int .u64 (W)) rfl rfl rfl rfl ?_ ?_
        ·exact congrArg (Value.int .u64) (by rw[IntWalk.u64_in _ (by omega)])
        refine kO ?_;refine cg (v':= .int .u64 (p)) rfl rfl rfl rfl ?_ ?_
        ·exact congrArg (Value.int .u64) (by rw[hpr,IntWalk.u64_in _ (by omega)])
        refine cg (v':= .int .u64 (t)) rfl rfl rfl rfl ?_ ?_
        ·exact congrArg (Value.int .u64) (by rw[IntWalk.u64_in _ (by omega)];omega)
        refine kN ?_;refine AH ?_
        refine kO3 ?_
        refine cg (v':= .int .u32 ((t%4294967296:Nat))) rfl rfl rfl rfl ?_ ?_
        ·exact congrArg (Value.int .u32) (by rw[IntKind.wrap_u32];omega)
        refine sh (i:=xs.length) hi rfl rfl rfl rfl rfl rfl rfl rfl rfl ?_
        have hsp:bz ((xs++m.drop xs.length).map fun x:Nat=>AV.val (bR x)) (xs.length*1) [.val (bR (t%4294967296))]=((xs++[t%4294967296])++m.drop (xs++[t%4294967296]).length).map fun x:Nat=>AV.val (bR x):=by
         unfold bz;rw[Nat.mul_one,<- List.map_take,<- List.map_drop,List.take_left,List.length_singleton,<- List.drop_drop,List.drop_left,List.drop_drop,List.length_append,List.length_singleton,List.map_append,List.map_append];rfl
        refine Ii (by rw[List.length_map,List.length_append,List.length_drop];omega) hsp rfl rfl rfl rfl rfl rfl rfl rfl rfl rfl ?_;refine kN ?_;refine bw rfl ?_;refine kO ?_;refine cg (v':= .int .u64 ((t/4294967296:Nat))) rfl rfl rfl rfl ?_ ?_
        ·exact congrArg (Value.int .u64) (by rw[show(2:Int)^min (Int.toNat 32) IntKind.u64.bits=4294967296 by decide,Int.fdiv_eq_ediv_of_nonneg _ (by decide)];omega)
        refine kN ?_;refine bw rfl ?_;refine cg (v':= .int .i64 ((xs++[t%4294967296]).length)) rfl rfl rfl rfl ?_ ?_
        ·exact congrArg (Value.int .i64) (by rw[IntWalk.i64_in _ (by omega)];simp)
        refine kN ?_;refine⟨(xs++[t%4294967296],t/4294967296),⟨by rw[List.length_append];exact hi,hxw.append (.cons (by omega) .nil),hc',?_⟩,?_,weak ⟨rfl,rfl,rfl,rfl,rfl,rfl,rfl,rfl,rfl,rfl,trivial⟩ ⟨rfl,rfl,trivial⟩ rfl⟩
        ·show val (xs++[t%4294967296])+_=_
         rw[List.length_append,List.length_singleton,htk,bZ,<- heq']
         simp[val]
        ·dsimp only;rw[List.length_append,List.length_singleton];omega
       ·have h:=of_decide_eq_false h
        have hi:xs.length=m.length:=by omega
        rw[hi,List.drop_length,List.append_nil];rw[hi,List.take_length,hval]at heq;have hx0:0<xs.length:=by omega
        refine ip ?_;refine ND ?_
        by_cases hc0:c=0
        ·refine kE ?_
         refine kN ?_;refine dM (T:=TT) rfl ?_;refine dV ?_;refine Vc ?_;refine DM ?_;refine⟨(rest.drop nn,xs),⟨dn++rest.take nn,hdn',hdd',?_,hxw,by rw[hlen',hi];omega⟩,hdr,?_⟩
         ·rw[hnum',<- heq,hc0];rfl
         ·dsimp only
          rw[Kz hx0,JM hx0,hi];exact kw
        ·have hcp:0<c:=by omega
         refine kT ?_;refine kN ?_;refine ee (T:=TT) rfl ?_;refine Vc ?_;refine cg (v':= .int .u32 (c)) rfl rfl rfl rfl ?_ ?_
         ·exact congrArg (Value.int .u32) (by rw[IntWalk.u32_in _ (by omega)])
         refine kO ?_;refine O9 (by decide) (by show(m.length+1)*4<=_;omega) rfl rfl rfl rfl rfl rfl rfl rfl rfl rfl rfl (.own rfl rfl) rfl rfl ?_;refine kN ?_;refine Vc ?_;refine DM ?_;have hl1:(xs++[c]).length=m.length+1:=by rw[List.length_append,hi];rfl
         have hb:((xs.map fun x:Nat=>AV.val (bR x)).take (m.length*1)++[.val (bR c)])=(xs++[c]).map fun x:Nat=>AV.val (bR x):=by
          rw[Nat.mul_one,<- hi,List.take_of_length_le (by simp),List.map_append];rfl
         refine⟨(rest.drop nn,xs++[c]),⟨dn++rest.take nn,hdn',hdd',?_,hxw.append (.cons hc .nil),by rw[hlen'];dsimp only;omega⟩,hdr,?_⟩
         ·rw[hnum',<- heq]
          show val (xs++[c])=_;rw[bZ,hi]
          simp[val]
         ·dsimp only
          rw[Kz (by omega),JM (by omega),hl1,<- hb];refine aJ.trans (b:=⟨[(2, .box 0 0),(3, .d (dN .i64 0)),(5, .d (dB (ep s))),(4, .d (dL (rest.drop nn))),(6, .own 1027004 (m.length+1) 1 135)],[(0,some [.val (.bool false), .sl 0 []]),(1027004,some ((xs.map fun x:Nat=>AV.val (bR x)).take (m.length*1)++[.val (bR c)]))]⟩) kw ((aV (q:=6) (j:=1027004) (j':=1000001) (m:=m.length+1) (k:=1) (e:=135) (cs:=(xs.map fun x:Nat=>AV.val (bR x)).take (m.length*1)++[.val (bR c)]) rfl rfl rfl rfl).trans kw)
     ·refine kR ?_
      refine bW (T:=TT) ?_;refine ay Nat (fun i=>i<=nn/\ ∀c∈rest.take i,eg c) (fun i=>⟨[(2, .box 0 0),(3, .d (dN .i64 0)),(5, .d (dB (ep s))),(4, .d (dL rest)),(7, .d (dN .i64 nn)),(8, .d (dN .u64 (num (rest.take i)))),(9, .d (dN .u64 (10^i:Nat))),(46, .d (dN .i64 nn)),(47, .d (dN .i64 i)),(6,pV m)],[(0,some [.val (.bool false), .sl 0 []]),(1000001,pX m)]⟩) (fun i=>nn-i) 0 ⟨by omega,by simp⟩ (weak ⟨rfl,rfl,rfl,rfl,rfl,rfl,rfl,rfl,rfl,rfl,trivial⟩ (by cases m<;>first|exact⟨rfl,rfl,trivial⟩|exact⟨rfl,trivial⟩) (by cases m<;>rfl)) ?_;rintro i ⟨hi,hd⟩;refine kR ?_;refine bu ?_;refine fU rfl (fun h=>?_) (fun h=>?_)
      ·have h:=of_decide_eq_true h
       have hi:i<nn:=by omega
       have hir:i<rest.length:=by omega
       refine dV ?_;refine bu ?_;refine bW (T:=TT) ?_;refine kR ?_;refine Ox ?_;refine gr ah (i:=i) (c:=rest[i]) (List.getElem?_eq_getElem hir) rfl rfl rfl rfl rfl rfl rfl rfl ?_;refine kN ?_;have hmem:rest[i]∈oA s:=by rw[hdn,List.mem_append];exact .inr (List.getElem_mem hir)
       refine ND ?_
       by_cases h48:rest[i].toNat<48
       ·have hbad:¬RM s:=fun hp=>by have:=(hp.2.2.1 _ hmem).1;omega
        rw[sQ hbad,z0]at hret;refine kT ?_;exact Pg
       ·refine kE ?_
        refine kO2 ?_
        by_cases h57:rest[i].toNat > 57
        ·have hbad:¬RM s:=fun hp=>by have:=(hp.2.2.1 _ hmem).2;omega
         rw[sQ hbad,z0]at hret;refine kT ?_;exact Pg
        ·refine kE ?_
         have hD:eg rest[i]:=⟨by omega,by omega⟩;have hdv:=Oe hD;have hs1:num (rest.take (i+1))=10*num (rest.take i)+dv rest[i]:=by rw[List.take_succ_eq_append_getElem hir,jO]
         have hb1:=wQ _ _ rfl hd;have hb2:10^(rest.take i).length<=10^8:=Nat.pow_le_pow_right (by decide) (by rw[List.length_take];omega);have hb3:10^i<=10^8:=Nat.pow_le_pow_right (by decide) (by omega);refine kN ?_;refine dM (T:=TT) rfl ?_;refine dV ?_;refine AH ?_;refine kO ?_;refine cg (v':= .int .u64 ((10*num (rest.take i):Nat))) rfl rfl rfl rfl ?_ ?_
         ·exact congrArg (Value.int .u64) (by rw[IntWalk.u64_in _ (by omega)];omega)
         refine kO ?_;refine cg (v':= .int .u8 ((dv rest[i]:Nat))) rfl rfl rfl rfl ?_ ?_
         ·exact congrArg (Value.int .u8) (by rw[IntWalk.u8_in _ (by omega)];unfold dv;omega)
         refine cg (v':= .int .u64 ((dv rest[i]:Nat))) rfl rfl rfl rfl ?_ ?_
         ·exact congrArg (Value.int .u64) (by rw[IntWalk.u64_in _ (by omega)])
         refine cg (v':= .int .u64 ((num (rest.take (i+1)):Nat))) rfl rfl rfl rfl ?_ ?_
         ·exact congrArg (Value.int .u64) (by rw[hs1,IntWalk.u64_in _ (by omega)];omega)
         refine kN ?_;refine bw rfl ?_;refine kO ?_;refine cg (v':= .int .u64 ((10^(i+1):Nat))) rfl rfl rfl rfl ?_ ?_
         ·exact congrArg (Value.int .u64) (by rw[Nat.pow_succ];generalize 10^i=pw at hb3 ⊢;rw[IntWalk.u64_in _ (by omega)];omega)
         refine kN ?_;refine bw rfl ?_;refine kJ ((i+1:Nat)) ?_;refine kN ?_;refine⟨i+1,⟨hi,fun c hc=>?_⟩,by omega,weak ⟨rfl,rfl,rfl,rfl,rfl,rfl,rfl,rfl,rfl,rfl,trivial⟩ (by cases m<;>first|exact⟨rfl,rfl,trivial⟩|exact⟨rfl,trivial⟩) (by cases m<;>rfl)⟩;rw[List.take_succ_eq_append_getElem hir,List.mem_append]at hc;rcases hc with hc|hc
         ·exact hd c hc
         ·rw[List.mem_singleton]at hc;rw[hc];exact hD
      ·have h:=of_decide_eq_false h
       have hin:i=nn:=by omega
       subst hin;refine ip ?_;exact hR hd _ (weak ⟨rfl,rfl,rfl,rfl,rfl,rfl,rfl,rfl,trivial⟩ (by cases m<;>first|exact⟨rfl,rfl,trivial⟩|exact⟨rfl,trivial⟩) (by cases m<;>rfl))
    ·have h:=of_decide_eq_false h
     have hr0:rest.length=0:=by omega
     obtain rfl:=List.eq_nil_of_length_eq_zero hr0;rw[List.append_nil]at hdn;have hok:RM s:=⟨hl,hgood.1,by rw[hdn];exact hdd,hgood.2⟩;have hz:bC (ep s) m=LI (ep s) (num (oA s)):=by unfold bC LI;rw[hval,hdn]
     rw[Oj hok];refine ip ?_;cases m with
     |nil=>
      refine kW ?_;refine kC (bl (neg:=ep s) (xs:=[]) Wd.nil hz) ?_;exact ap
     |cons x r=>
      refine bu ?_;refine eT (cu (q:=6) rfl rfl) rfl ?_;refine kW ?_;refine kC (bl (neg:=ep s) (xs:=x::r) hWd hz) ?_;exact ap
   ·clear hret
    cases hp:oA s with
    |nil=>exact absurd hp hgood.1
    |cons c r=>
     refine AH ?_;refine kO ?_;have hsz':=aF (c::r);have hfin:TV.d (dL (c::r))=TV.d (dL (oA s)):=by rw[hp]
     refine aq rfl rfl rfl rfl rfl rfl rfl ((iL (a:=c::r) (b:=[])).trans (congrArg (fun b=>some (Value.bool b)) (decide_eq_false (by simp)))) ?_
     refine kO2 ?_
     refine UW ?_
     by_cases h48:c=48
     ·subst h48
      have hg2:((48:UInt8)::r).length=1/\ep s=false:=by
       rcases hgood.2 with h|h
       ·exact absurd rfl (h _ _ hp)
       ·rw[hp]at h;exact h
      refine kO4 ?_
      refine kE ?_;have hneg:TV.d (dB false)=TV.d (dB (ep s)):=by rw[hg2.2]
      generalize ep s=ng at *;obtain rfl:=hg2.2;exact PB
     ·have hn:c.toNat≠48:=fun e=>h48 (UInt8.toNat_inj.1 e)
      refine kB false ?_ ?_
      ·exact beq_eq_false_iff_ne.2 (by omega)
      exact PB
  ·rw[sQ (fun h=>hgood ⟨h.2.1,h.2.2.2⟩),z0]
   cases hp:oA s with
   |nil=>
    refine ND ?_;refine aq rfl rfl rfl rfl rfl rfl rfl (iL (a:=[]) (b:=[])) ?_;exact ap
   |cons c r=>
    have hc:c=48/\(1<(c::r).length∨ep s=true):=by
     refine Classical.byContradiction fun hno=>hgood ⟨by rw[hp];simp,?_⟩
     rw[hp]
     by_cases h48:c=48
     ·refine .inr ⟨?_,?_⟩
      ·apply Classical.byContradiction
       intro h1;exact hno ⟨h48, .inl (by simp at h1 ⊢;exact List.length_pos_iff.2 h1)⟩
      ·cases hq:ep s
       ·rfl
       ·exact absurd ⟨h48, .inr hq⟩ hno
     ·exact .inl fun x q e=>by cases e;exact h48
    obtain⟨rfl,hc⟩:=hc;have hsz':=aF ((48:UInt8)::r);refine ND ?_;refine aq rfl rfl rfl rfl rfl rfl rfl ((iL (a:=48::r) (b:=[])).trans (congrArg (fun b=>some (Value.bool b)) (decide_eq_false (by simp)))) ?_
    refine kO2 ?_
    refine gr ah (i:=0) (c:=48) rfl rfl rfl rfl rfl rfl rfl rfl rfl ?_
    refine kO4 ?_
    by_cases h1:1<((48:UInt8)::r).length
    ·refine kT ?_
     exact ap
    ·refine kE ?_
     have hq:ep s=true:=hc.resolve_left h1;rw[hq];exact ap
 ·rw[sQ (fun h=>hl h.1),z0]
  refine kU func346 ?_;refine El ?_;exact ap
def RZ (l:List UInt8):List AV:=l.map fun c=>AV.val (.int .u8 c.toNat)
def UA (l:List UInt8):DV:= .leaf (.sl l.length (RZ l))
theorem QM {l:List UInt8} {i:Nat} {c:UInt8} (h:l[i]? =some c):∀(j:Nat) (a:AV),[AV.val (.int .u8 c.toNat)][j]? =some a->(RZ l)[i*1+j]? =some a:=by
 intro j a hj
 match j,hj with
 |0,hj=>unfold RZ;rw[Nat.mul_one,Nat.add_zero,List.getElem?_map,h];exact hj
section
variable {P:Program} {T:TypeId->Option Ty} {n:Nat} {ops:Array Oper} {id:Nat} {draw:Bool} {K:AS->Prop} {s:AS} {k:Nat} {o:Oper} {os:List Oper} {fps:List FP}
theorem TN (hT:∀t d,T t=some d->a8 P t d) {t t' et:TypeId} {ty ty' te:Ty} {x:Operand} {l:List UInt8} (hl:l.length<=9223372036854775807) (h1:gd ops s o=some true) (h2:o.op= .convert t t' x) (h5:T t=some ty) (h6:ty.isStr=true) (h9:T t'=some ty') (h10:ty'.elem=some (et,1)) (h7:T et=some te) (h8:te.ik=some .u8) (h11:s.ev x= .d (.leaf (.val (vL l))))
 (h3:aL n o.dst=true) (h4:fh draw ops (aB ops o ⟨.d (UA l),none⟩ []) k fps=true) (h:au P T n ops id draw K (k+1) os (s.eff o.dst ⟨.d (UA l),none⟩) (aB ops o ⟨.d (UA l),none⟩ []::fps)):au P T n ops id draw K k (o::os) s fps:=by
 refine .run h1 (.gen fun s2 ht _=>?_) h3 h4 h;have hx:=(ax ht (x:=x) (by simp[h2,Op.operands])).trans h11;have hu:=lQ (hT _ _ h5) h6;obtain⟨d,hd,_,hel,_⟩:=(hT _ _ h9).und;obtain⟨rfl,_⟩:=hel et 1 h10;obtain⟨d2,hd2,_,_,_,_,_,hik,_⟩:=(hT _ _ h7).und;obtain rfl:=hik _ h8;refine am fun n S0 w0 g a w hM=>?_
 have hsz:=aF l;have hge:=grownCap_ge w l.length 0 et;have hle:=grownCap_le_maxLen w l.length 0 et (by unfold maxLen;omega);obtain⟨C,hC⟩:∃C,grownCap w l.length 0 et=C:=⟨_,rfl⟩;rw[hC]at hge hle;have hrun:=run_bytes_of_string w t t' et (Bs l) hu hd hd2;rw[hsz,hC]at hrun;have hb:Below w.heap.size w (w.drew.alloc (.cells (bytesRow (Bs l) C) et ((bytesRow (Bs l) C).size,(bytesRow (Bs l) C).size+1))):=((Below.refl _ w).drew).alloc (Nat.le_refl _) _;refine⟨.slice (some ⟨w.heap.size,0,none⟩) l.length C,_,?_,hb,?_⟩
 ·unfold execOp
  rw[h2]
  simp only[bg hM hx,vL,Sem.run_bind,hrun,Result.andThen_ok,Sem.run_pure]
 ·refine AV.M.sl (fun i=> .int .u8 ((l.getD i 0).toNat:Int)) hge (by unfold maxLen at hle;omega) ?_ (by show w.heap.size<(w.heap.push _).size;simp) (fun i c hi=>?_) (fun i c hi=>?_)
  ·intro hO
   exact absurd (hM.own_lt hO) (Nat.lt_irrefl _)
  ·have hil:i<l.length:=by have:=(List.getElem?_eq_some_iff.1 hi).1;simpa[RZ]using this
   have h3:(w.drew.alloc (.cells (bytesRow (Bs l) C) et ((bytesRow (Bs l) C).size,(bytesRow (Bs l) C).size+1))).heap[w.heap.size]? =some (.cells (bytesRow (Bs l) C) et ((bytesRow (Bs l) C).size,(bytesRow (Bs l) C).size+1)):=heap_alloc_new w.drew _;rw[Nat.zero_add]
   simp only[World.cell?,h3]
   have:=bytesRow_at (Bs l) C i (by show i<(Bs l).data.size;simpa[Bs]using hil);show(match(bytesRow (Bs l) C)[i]? with|v=>v)=_;refine Eq.trans this ?_
   simp[Bs,hil]
  ·have hil:i<l.length:=by have:=(List.getElem?_eq_some_iff.1 hi).1;simpa[RZ]using this
   have:c= .val (.int .u8 ((l.getD i 0).toNat:Int)):=by
    unfold RZ at hi;rw[List.getElem?_map,List.getElem?_eq_getElem hil]at hi
    simp at hi
    rw[<- hi]
    simp[hil]
   rw[this];exact .val rfl
end
theorem mt (l:List UInt8) (c:UInt8):aa Tryz.prog 148 [dL l,dL [c]] (.one (dN .i64 (Lib.indexByte l c))):=by
 refine⟨aA func148 rfl rfl,fun S w vs hS hv=>?_⟩
 match vs,hv with
 | [v,u],⟨h1,h2,_⟩=>
  obtain rfl:=a6 h1;obtain rfl:=a6 h2;refine(Tryz.stringslite_Index_one (Bs l) c w).mono ?_;rintro e w' ⟨rfl,rfl⟩;exact⟨_,rfl,AV.M.val rfl,Below.refl _ _⟩
theorem wL {l:List UInt8} {c:UInt8} (h:c ∉ l):Lib.indexByte l c= -1:=by
 induction l with
 |nil=>rfl
 |cons b l ih=>
  have h1:(b == c)=false:=beq_eq_false_iff_ne.2 (fun e=>h (by simp[e]));unfold Lib.indexByte;rw[h1,ih (fun e=>h (by simp[e]))];rfl
theorem xc {a b:List UInt8} {c:UInt8} (h:c ∉ a):Lib.indexByte (a++c::b) c=a.length:=by
 induction a with
 |nil=>simp[Lib.indexByte]
 |cons x a ih=>
  have h1:(x == c)=false:=beq_eq_false_iff_ne.2 (fun e=>h (by simp[e]));rw[List.cons_append];unfold Lib.indexByte;rw[h1,ih (fun e=>h (by simp[e]))];have:(((a.length:Nat):Int) == -1)=false:=beq_eq_false_iff_ne.2 (by omega)
  simp only[Bool.false_eq_true,if_false,this]
  simp
theorem Ng {a b:List UInt8} {c:UInt8} (h:c ∉ a) (hl:a.length+b.length<=1000000000):aa Tryz.prog 107 [dL (a++c::b),dL [c]] (.tup [dL a,dL b,dB true]):=by
 have c1:=mt (a++c::b) c;rw[xc h]at c1;have e1:(a++c::b).take a.length=a:=by simp
 have e2:(a++c::b).drop (a.length+1)=b:=by rw[<- List.drop_drop];simp
 refine kU func107 ?_;refine io ?_;refine O5 ah (l:=a++c::b) (i:=a.length) (by simp) rfl rfl rfl rfl rfl rfl rfl rfl ?_
 refine kO4 ?_
 refine cg (v':= .int .i64 (((a.length+1:Nat):Int))) rfl rfl rfl rfl ?_ ?_
 ·exact congrArg (Value.int .i64) (by show IntKind.i64.wrap ((a.length:Int)+1)=_;rw[IntWalk.i64_in _ (by omega)];omega)
 refine x7 ah (l:=a++c::b) (i:=a.length+1) (by simp) rfl rfl rfl rfl rfl rfl rfl rfl ?_;refine kW ?_;rw[e1,e2];exact bV (T:=TT) rfl rfl
theorem AM {a:List UInt8} {c:UInt8} (h:c ∉ a):aa Tryz.prog 107 [dL a,dL [c]] (.tup [dL a,dL [],dB false]):=by
 have c1:=mt a c;rw[wL h]at c1;refine kU func107 ?_;exact NU
theorem QJ {a b:List UInt8} {c:UInt8} (h:c ∉ a) (hl:a.length+b.length<=1000000000):aa Tryz.prog 64 [dL (a++c::b),dL [c]] (.tup [dL a,dL b,dB true]):=by
 refine kV func64 ?_;refine kC (Ng h hl) ?_;exact ap
theorem ot {a:List UInt8} {c:UInt8} (h:c ∉ a):aa Tryz.prog 64 [dL a,dL [c]] (.tup [dL a,dL [],dB false]):=by
 refine kV func64 ?_;refine kC (AM h) ?_;exact ap
theorem nG (l:List UInt8):aa Tryz.prog 345 [dL l,dL [48]] (.one (dL (l.dropWhile (· == 48)))):=by
 refine⟨aA func345 rfl rfl,fun S w vs hS hv=>?_⟩
 match vs,hv with
 | [v,u],⟨h1,h2,_⟩=>
  obtain rfl:=a6 h1;obtain rfl:=a6 h2;refine(Tryz.strings_TrimLeft_one (Bs l) 48 (by decide) w).mono ?_;rintro e w' ⟨rfl,rfl⟩;exact⟨_,rfl,AV.M.val rfl,Below.refl _ _⟩
def fw (na:Bool) (xs:List Nat) (nb:Bool) (ys:List Nat):Bool:=eA na xs && eA nb ys && decide (0<bC nb ys) && decide (Nat.gcd (val xs) (val ys)=1)
theorem oT {na:Bool} {xs:List Nat} (hw:Wd xs) (h:eA na xs=true):xs=digs (bC na xs).natAbs/\na=decide (bC na xs<0):=by
 unfold eA at h;rw[Bool.and_eq_true]at h;have h1:=of_decide_eq_true h.1;have hp:=(kb hw).1;rw[h1,List.take_length]at hp;rw[eB];refine⟨hp,?_⟩;cases na
 ·exact(decide_eq_false (by unfold bC;simp)).symm
 ·have h2:=h.2
  simp at h2
  have:val xs≠0:=fun e=>by
   rw[hp]at h2;unfold trim at h2;rw[e,aK]at h2
   simp at h2
  exact(decide_eq_true (by unfold bC;simp;omega)).symm
theorem nU {na nb:Bool} {xs ys:List Nat} (hw:Wd xs) (hw':Wd ys) (h:fw na xs nb ys=true):∃q:Rat,Ab na xs nb ys=aQ q/\xs=digs q.num.natAbs/\ys=digs (q.den:Int).natAbs:=by
 unfold fw at h
 simp only[Bool.and_eq_true,decide_eq_true_eq]at h
 obtain⟨⟨⟨h1,h2⟩,h3⟩,h4⟩:=h;obtain⟨e1,e2⟩:=oT hw h1;obtain⟨e3,e4⟩:=oT hw' h2;have hd:((bC nb ys).toNat:Int)=bC nb ys:=by omega
 refine⟨⟨bC na xs,(bC nb ys).toNat,by omega,?_⟩,?_,e1,?_⟩
 ·rw[eB,show(bC nb ys).toNat=(bC nb ys).natAbs by omega,eB];exact h4
 ·show aI na xs++aI nb ys=aZ (bC na xs)++aZ ((bC nb ys).toNat:Int)
  rw[hd];unfold aZ;rw[<- e1,<- e2,<- e3,<- e4]
 ·show ys=digs ((bC nb ys).toNat:Int).natAbs
  rw[hd];exact e3
theorem me (q:Rat):fw (decide (q.num<0)) (digs q.num.natAbs) (decide ((q.den:Int)<0)) (digs (q.den:Int).natAbs)=true:=by
 unfold fw;rw[tk,tk,aU,af,af,decide_eq_true (da q),decide_eq_true (by rw[Int.natAbs_natCast];exact q.reduced)];rfl
theorem oP {na nb:Bool} {xs ys:List Nat} (hw:Wd xs) (hw':Wd ys) (h1:lh xs) (h2:lh ys) {b:Bool} (hb:fw na xs nb ys=b):aa Tryz.prog 173 [Gb na xs nb ys] (.one (dB b)):=by
 subst hb;unfold fw;cases c1:eA na xs
 ·refine x6 ?_
  exact ap
 cases c2:eA nb ys
 ·refine x6 ?_
  refine kW ?_;refine kC (md (na:=nb) hw' c2) ?_;exact ap
 by_cases c3:0<bC nb ys
 ·have hc:decide (Nat.gcd (val xs) (val ys)=1)=decide (((Nat.gcd (val xs) (val ys):Nat):Int)=1):=by by_cases h:Nat.gcd (val xs) (val ys)=1<;>simp[h]<;>omega
  rw[decide_eq_true c3,hc];refine zA ?_;refine kQ (iy (na:=nb) hw' (Int.sign_eq_one_of_pos c3)) ?_;refine kQ (yL (na:=na) (nb:=nb) hw hw' h1 h2) ?_;refine kC (bA rfl) ?_;exact ap
 ·rw[decide_eq_false c3]
  obtain⟨z,hz,hz0⟩:∃z,(bC nb ys).sign=z/\ ¬z > 0:=⟨_,rfl,fun h=>c3 (Int.sign_pos_iff.1 h)⟩;refine zA ?_;refine kC (iy (na:=nb) hw' hz) ?_;refine kB false ?_ ?_
  ·exact decide_eq_false hz0
  exact ap
theorem xG {k:Nat} (q:Rat) (h:dO k q) (hk:k<=2147483648):aa Tryz.prog 173 [dQ q] (.one (dB true)):=oP (ac _) (ac _) (Nat.le_trans h.1.digs hk) (Nat.le_trans h.2.digs hk) (me q)
theorem mF {na nb:Bool} {xs ys:List Nat} (hw:Wd xs) (hw':Wd ys) (h1:lh xs) (h2:lh ys) {b:Bool} (hb:fw na xs nb ys=b):aa Tryz.prog 155 [Gb na xs nb ys] (.one (dB b)):=by
 subst hb;unfold fw;cases c1:eA na xs
 ·refine JK ?_
  exact ap
 cases c2:eA nb ys
 ·refine JK ?_
  refine kW ?_;refine kC (km (na:=nb) hw' c2) ?_;exact ap
 by_cases c3:0<bC nb ys
 ·have hc:decide (Nat.gcd (val xs) (val ys)=1)=decide (((Nat.gcd (val xs) (val ys):Nat):Int)=1):=by by_cases h:Nat.gcd (val xs) (val ys)=1<;>simp[h]<;>omega
  rw[decide_eq_true c3,hc];refine OP ?_;refine kQ (lP (na:=nb) hw' (Int.sign_eq_one_of_pos c3)) ?_;refine kQ (uZ (na:=na) (nb:=nb) hw hw' h1 h2) ?_;refine kC (fv rfl) ?_;exact ap
 ·rw[decide_eq_false c3]
  obtain⟨z,hz,hz0⟩:∃z,(bC nb ys).sign=z/\ ¬z > 0:=⟨_,rfl,fun h=>c3 (Int.sign_pos_iff.1 h)⟩;refine OP ?_;refine kC (lP (na:=nb) hw' hz) ?_;refine kB false ?_ ?_
  ·exact decide_eq_false hz0
  exact ap
theorem vM {k:Nat} (q:Rat) (h:dO k q) (hk:k<=2147483648):aa Tryz.prog 155 [dQ q] (.one (dB true)):=mF (ac _) (ac _) (Nat.le_trans h.1.digs hk) (Nat.le_trans h.2.digs hk) (me q)
theorem Po {xs:List Nat} {i x:Nat} (h:xs[i]? =some x):∀(j:Nat) (a:AV),[AV.val (bR x)][j]? =some a->(xs.map fun x:Nat=>AV.val (bR x))[i*1+j]? =some a:=by
 exact O2
theorem yw {na nb:Bool} {xs ys:List Nat} (h:xs≠ys):sameB na nb xs ys=false:=by unfold sameB;rw[decide_eq_false h,Bool.and_false]
theorem j0 {na:Bool} {xs ys:List Nat} (h:xs=ys):sameB na na xs ys=true:=by unfold sameB;rw[decide_eq_true h];cases na<;>rfl
theorem fH {na nb:Bool} {xs ys:List Nat} (hl:xs.length<=2147483648) {b:Bool} (hb:sameB na nb xs ys=b):aa Tryz.prog 59 [dI na xs,dI nb ys] (.one (dB b)):=by
 subst hb
 by_cases hn:na=nb
 ·subst hn
  by_cases hxy:xs.length=ys.length
  ·cases na
   ·refine IY ?_
    refine kB false ?_ ?_
    ·exact(by simp[hxy])
    refine kW ?_;refine ay Nat (fun j=>j<=xs.length/\ ∀i,i<j->xs[i]? =ys[i]?) (fun j=>⟨[(2, .box 0 0),(3, .box 1 0),(5, .d (dN .i64 j))],[(0,some (aI false xs)),(1,some (aI false ys))]⟩) (fun j=>xs.length-j) 0 ⟨Nat.zero_le _,fun i h=>absurd h (Nat.not_lt_zero _)⟩ kw ?_;exact SN
   ·refine IY ?_
    refine kB false ?_ ?_
    ·exact(by simp[hxy])
    refine kW ?_;refine ay Nat (fun j=>j<=xs.length/\ ∀i,i<j->xs[i]? =ys[i]?) (fun j=>⟨[(2, .box 0 0),(3, .box 1 0),(5, .d (dN .i64 j))],[(0,some (aI true xs)),(1,some (aI true ys))]⟩) (fun j=>xs.length-j) 0 ⟨Nat.zero_le _,fun i h=>absurd h (Nat.not_lt_zero _)⟩ kw ?_;exact SN
  ·rw[yw (fun e=>hxy (by rw[e]))]
   cases na
   ·refine IY ?_
    refine pU ?_;exact ap
   ·refine IY ?_
    refine pU ?_;exact ap
 ·have e:sameB na nb xs ys=false:=by unfold sameB;cases na<;>cases nb<;>first|rfl|exact absurd rfl hn
  rw[e];cases na<;>cases nb
  ·exact absurd rfl hn
  ·refine kU func59 ?_
   exact ap
  ·refine kU func59 ?_
   exact ap
  ·exact absurd rfl hn
theorem CA {z:Int} {k:Nat} (h:Sz k z):(fmt z).length<=10*k+2:=by
 have h1:(i8 z.natAbs).length<=10*k:=pW _ _ (Nat.lt_of_lt_of_le h (by rw[Nat.pow_mul];exact Nat.pow_le_pow_left (by decide) _));unfold fmt
 split
 ·simp
 ·rw[List.length_append]
  have:(if z<0 then [45]else []:List UInt8).length<=1:=by split <;>simp
  omega
theorem PY:dZ 0= .agg [.val (.bool false), .sl 0 []]:=by unfold dZ;rw[e0]
def xZ (l:List UInt8):Bool:=l.all yB && !decide (l=[])
theorem gv {l:List UInt8}:xZ l=true↔(∀c∈l,eg c)/\l≠[]:=by
 unfold xZ
 simp[List.all_eq_true,iw]
theorem eG {l:List UInt8} (hl:l.length<=1000000000) {b:Bool} (hb:xZ l=b):aa Tryz.prog 344 [dL l] (.one (dB b)):=by
 subst hb;have hsz:=aF l;refine kV func344 ?_;refine TN ah (l:=l) (by omega) rfl rfl rfl rfl rfl rfl rfl rfl rfl rfl rfl ?_;refine kW ?_;refine ay Nat (fun j=>j<=l.length/\ ∀i c,i<j->l[i]? =some c->eg c) (fun j=>⟨[(0, .d (dL l)),(6, .d (UA l)),(7, .d (dN .i64 l.length)),(8, .d (dN .i64 j))],[]⟩) (fun j=>l.length-j) 0 ⟨Nat.zero_le _,fun i c h=>absurd h (Nat.not_lt_zero _)⟩ kw ?_;rintro j ⟨hj,hall⟩;refine kW ?_;refine fU rfl (fun h=>?_) (fun h=>?_)
 ·have hlt:j<l.length:=by have:=of_decide_eq_true h;omega
  obtain⟨c,hc⟩:∃c,l[j]=c:=⟨_,rfl⟩;have hcj:l[j]? =some c:=by rw[List.getElem?_eq_getElem hlt,hc]
  refine kW ?_;refine aG (cs':=[AV.val (.int .u8 c.toNat)]) hlt (QM hcj) (Nat.lt_succ_self 0) rfl rfl rfl rfl rfl rfl rfl rfl ?_;refine AC ?_
  by_cases h1:c.toNat<48
  ·exact IK
  ·refine kE ?_
   refine kO2 ?_
   by_cases h2:57<c.toNat
   ·exact IK
   ·refine kE ?_
    refine kW ?_;refine⟨j+1,⟨hlt,fun i c' hi hp=>?_⟩,by omega,weak ⟨rfl,rfl,rfl,?_,trivial⟩ trivial rfl⟩
    ·rcases Nat.lt_succ_iff_lt_or_eq.1 hi with h3|rfl
     ·exact hall i c' h3 hp
     ·have:c'=c:=by rw[hcj]at hp;exact(Option.some.inj hp).symm
      rw[this];unfold eg;omega
    ·exact an (by omega) (by omega)
 ·have hge:j=l.length:=by have:=of_decide_eq_false h;omega
  refine ip ?_;refine kI ?_;refine kO ?_;refine aq rfl rfl rfl rfl rfl rfl rfl (q6 (a:=l) (b:=[])) ?_;refine kW ?_
  have ha:l.all yB=true:=List.all_eq_true.2 fun c hc=>iw.2 (by
   obtain⟨i,hi⟩:=List.getElem?_of_mem hc;exact hall i c (by rw[hge];exact(List.getElem?_eq_some_iff.1 hi).1) hi)
  rw[show xZ l=!decide (l=[]) by unfold xZ;rw[ha];rfl];exact bV (T:=TT) rfl rfl
theorem Mv {l:List UInt8} (h:∀c∈l,eg c):ep l=false/\oA l=l:=by
 have:=AF (b:=false) (l:=l) (fun c r e=>h c (by rw[e];simp))
 simp at this
 exact⟨this.2,this.1⟩
open Classical in
theorem BQ {l:List UInt8} (h:∀c∈l,eg c) (hl:l.length<=65536):pz l=if i6 false l then((num l:Int),0)else(0,2):=by
 obtain⟨h1,h2⟩:=Mv h
 by_cases ho:i6 false l
 ·rw[if_pos ho,Oj ⟨hl,by rw[h1,h2];exact ho⟩,h1,h2];rfl
 ·rw[if_neg ho,sQ (fun e=>ho (by have:=e.2;rwa[h1,h2]at this))]
theorem iZ {l:List UInt8} (hl:l.length<=65536) (h:i6 false l):aa Tryz.prog 335 [dL l] (.tup [dZ (num l),dB true]):=by
 have c1:=jK l;rw[BQ (dU h) hl,if_pos h]at c1;refine kV func335 ?_;refine ae (eG (b:=true) (Nat.le_trans hl (by decide)) (gv.2 ⟨dU h,h.1⟩)) rfl rfl rfl rfl rfl rfl rfl ?_;exact NU
theorem eH {l:List UInt8} (hl:l.length<=65536) (h:¬i6 false l):aa Tryz.prog 335 [dL l] (.tup [dZ 0,dB false]):=by
 by_cases hd:xZ l=true
 ·have c1:=jK l
  rw[BQ (gv.1 hd).1 hl,if_neg h]at c1;refine kV func335 ?_;refine ae (eG (b:=true) (Nat.le_trans hl (by decide)) hd) rfl rfl rfl rfl rfl rfl rfl ?_;exact NU
 ·rw[PY]
  refine kV func335 ?_;refine ae (eG (b:=false) (Nat.le_trans hl (by decide)) (by simpa using hd)) rfl rfl rfl rfl rfl rfl rfl ?_;exact ap
theorem xS (k:Nat):(max 1 (10:Int).natAbs)^k<4294967296^(k+1):=by
 show 10^k<_
 have h1:(10:Nat)^k<=4294967296^k:=Nat.pow_le_pow_left (by decide) _;have h2:0<(4294967296:Nat)^k:=Nat.pow_pos (by decide)
 rw[Nat.pow_succ];omega
theorem sr (k:Nat):Sz (k+1) ((10:Int)^k):=by
 unfold Sz;rw[Int.natAbs_pow];exact xS k
theorem Sn:cM 10:= .small (by decide)
theorem Sz.of_pow {k j e:Nat} {y:Int} (h:Sz k y) (hj:k+e<=j):Sz j (y*10^e):=by
 refine Sz.mono (j:=k+e) ?_ hj;unfold Sz at *;rw[Int.natAbs_mul,Int.natAbs_pow,Nat.pow_add];have h1:(10:Int).natAbs^e<=4294967296^e:=Nat.pow_le_pow_left (by decide) _;exact Nat.lt_of_le_of_lt (Nat.mul_le_mul_left _ h1) (Nat.mul_lt_mul_of_pos_right h (Nat.pow_pos (by decide)))
theorem NE (e:Nat) (he:e<=4096):∃t:Int,(∀y:Int,∀m,e<=m->y*t*10^(m-e)=y*10^m)/\(∀(k j:Nat) (y:Int),Sz k y->k+e<=j->Sz j (y*t))/\cM t/\(10:Int)^e=t/\aa Tryz.prog 357 [dZ 10,dN .i64 e] (.tup [dZ t,dN .i64 0]):=by
 refine⟨10^e,fun y m hm=>?_,fun k j y h hj=>h.of_pow hj,(sr e).fit (by omega),rfl,F5 he (by omega) (xS e) Sn rfl⟩;rw[Int.mul_assoc,<- Int.pow_add,show e+(m-e)=m by omega]
theorem AN {n:Nat} (hn:n<=65536) {z:Int} (hz:(10:Int)^n=z):aa Tryz.prog 347 [dN .i64 n] (.one (dZ z)):=by
 refine kV func347 ?_;refine kQ (zC) ?_;refine ay (Nat × Int) (fun p=>p.1<=n/\p.2*10^p.1=z/\Sz (n-p.1+1) p.2) (fun p=>⟨[(0, .d (dN .i64 p.1)),(2, .box 0 0),(3, .box 1001 0)],[(0,some [.val (.bool false), .sl 0 []]),(1001,some (aZ p.2))]⟩) (fun p=>p.1) (n,1) ⟨Nat.le_refl _,by rw[Int.one_mul];exact hz,(Sz.small (z:=1) (by decide)).mono (by omega)⟩ kw ?_;rintro⟨m,y⟩ ⟨hm,hy,hs⟩;dsimp only at hm hy hs ⊢;refine kW ?_;refine fU rfl (fun h=>?_) (fun h=>?_)
 ·have h4:4096<m:=by have:=of_decide_eq_true h;omega
  obtain⟨t,t1,t2,t3,_,t4⟩:=NE 4096 (Nat.le_refl _);refine uJ ?_;refine⟨(m-4096,y*t),⟨by omega,?_,?_⟩,by dsimp only;omega,weak ⟨?_,rfl,rfl,trivial⟩ ⟨rfl,rfl,trivial⟩ rfl⟩
  ·exact(t1 y m (by omega)).trans hy
  ·exact t2 _ _ y hs (by dsimp only;omega)
  ·exact an (by omega) (by omega)
 ·have h4:m<=4096:=by have:=of_decide_eq_false h;omega
  obtain⟨t,_,_,t3,ht,t4⟩:=NE m h4;refine ip ?_;refine uJ ?_;rw[<- hy,ht];exact bV (T:=TT) rfl rfl
theorem eR {l:List UInt8} (h:∀c∈l,eg c):Sz l.length (num l:Int):=by
 unfold Sz;rw[Int.natAbs_natCast];exact Nat.lt_of_lt_of_le (wQ _ l rfl h) (Nat.pow_le_pow_left (by decide) _)
theorem wn {a b:List UInt8} (hl:a.length+b.length<=65536) (ha:i6 false a) (hb:b≠[]) (hd:∀x∈b,eg x) {q:Rat} (hq:Rat.divInt ((num a*10^b.length+num b:Nat):Int) ((10^b.length:Nat):Int)=q):aa Tryz.prog 334 [dL a,dL b] (.tup [dQ q,dB true]):=by
 obtain⟨p,hp⟩:∃p,(10:Int)^b.length=p:=⟨_,rfl⟩;have hpc:((10^b.length:Nat):Int)=p:=by rw[<- hp,Int.natCast_pow];rfl
 have hp0:p≠0:=by rw[<- hpc];have:=Nat.pow_pos (a:=10) (n:=b.length) (by decide);omega
 have sp:Sz (b.length+1) p:=by rw[<- hp];exact sr _
 have sa:=eR (dU ha);have sb:=eR hd;have hn:((num a*10^b.length+num b:Nat):Int)=(num a:Int)*p+num b:=by rw[Int.natCast_add,Int.natCast_mul,hpc]
 rw[hn,hpc]at hq;have sn:Sz (a.length+b.length+2) ((num a:Int)*p+num b):=(sa.mul sp).add (sb.mono (by omega));have c2:=jK (Jy b);have htl:(Jy b).length<=b.length:=(List.dropWhile_sublist _).length_le;have htd:∀c∈Jy b,eg c:=fun c hc=>hd c ((List.dropWhile_sublist _).subset hc)
 rw[BQ htd (by omega),DB]at c2
 by_cases ht:Jy b=[]
 ·have hb0:num b=0:=by rw[<- DB,ht];rfl
  rw[hb0]at hq sn;refine PS ?_;refine ae (eG (b:=true) (by omega) (gv.2 ⟨hd,hb⟩)) rfl rfl rfl rfl rfl rfl rfl ?_;refine kW ?_;refine kC (nG b) ?_;refine kN ?_;refine gL ?_;refine aq rfl rfl rfl rfl rfl rfl rfl (gx (a:=Jy b) (b:=[]) ht) ?_;refine I2 ?_;refine ae (y7 (na:=decide ((num a:Int)*p<0)) (xs:=digs ((num a:Int)*p).natAbs) (nb:=false) (ys:=[]) (ac _) Wd.nil ((sa.mul sp).fit (by omega)) (by unfold lh;simp) (z:=(num a:Int)*p+(0:Nat)) (by rw[aU];rfl)) rfl rfl rfl rfl rfl rfl rfl ?_;exact GQ
 ·rw[if_pos (Rf hd ht)]at c2
  refine PS ?_;refine ae (eG (b:=true) (by omega) (gv.2 ⟨hd,hb⟩)) rfl rfl rfl rfl rfl rfl rfl ?_;refine kW ?_;refine kC (nG b) ?_;refine kN ?_;refine gL ?_;refine aq rfl rfl rfl rfl rfl rfl rfl (iA (a:=Jy b) (b:=[]) ht) ?_;refine kW ?_;refine kC (c2) ?_;refine I2 ?_;refine ae (oe ((sa.mul sp).fit (by omega)) (sb.fit (by omega))) rfl rfl rfl rfl rfl rfl rfl ?_;exact GQ
theorem ul {a b:List UInt8} (hl:a.length+b.length<=65536) (h:¬(i6 false a/\b≠[]/\ ∀x∈b,eg x)):aa Tryz.prog 334 [dL a,dL b] (.tup [Jw,dB false]):=by
 by_cases ha:i6 false a
 ·refine PS ?_
  refine ae (eG (l:=b) (b:=false) (by omega) (Bool.eq_false_iff.2 fun hb=>h ⟨ha,(gv.1 hb).2,(gv.1 hb).1⟩)) rfl rfl rfl rfl rfl rfl rfl ?_;exact ap
 ·refine kV func334 ?_;refine ae (eH (by omega) ha) rfl rfl rfl rfl rfl rfl rfl ?_;exact ap
theorem tu {a b:List UInt8} (hl:a.length+b.length<=65536) (h:i6 false a/\i6 false b/\num b≠0/\num b≠1/\Nat.gcd (num a) (num b)=1) {q:Rat} (hq:Rat.divInt (num a:Int) (num b:Int)=q):aa Tryz.prog 333 [dL a,dL b] (.tup [dQ q,dB true]):=by
 obtain⟨h1,h2,h3,h4,h5⟩:=h;have sa:=eR (dU h1);have sb:=eR (dU h2)
 have e:q.num=num a/\q.den=num b:=by
  refine J7 (Nat.pos_of_ne_zero h3) (by rw[Int.natAbs_natCast];exact h5) ?_;have h0:(q.den:Int)≠0:=by have:=da q;omega
  have:=(Rat.divInt_eq_divInt_iff h0 (show(num b:Int)≠0 by omega)).1 ((qH q).trans hq.symm);exact this.symm
 rw[zg e.1 (d:=num b) (by rw[e.2])];refine Dl ?_;refine ae (lg (sa.fit (by omega)) (sb.fit (by omega)) (g:=1) (by rw[Int.natAbs_natCast,Int.natAbs_natCast];exact h5)) rfl rfl rfl rfl rfl rfl rfl ?_;refine kW ?_;refine kC (bA (b:=true) rfl) ?_;exact ap
theorem qI {a b:List UInt8} (hl:a.length+b.length<=65536) (h:¬(i6 false a/\i6 false b/\num b≠0/\num b≠1/\Nat.gcd (num a) (num b)=1)):aa Tryz.prog 333 [dL a,dL b] (.tup [Jw,dB false]):=by
 by_cases h1:i6 false a
 ·by_cases h2:i6 false b
  ·have sa:=eR (dU h1)
   have sb:=eR (dU h2)
   by_cases h3:num b=0
   ·refine PL ?_
    refine IC ?_;refine kW ?_;refine ae (cU (decide_eq_true (show(num b:Int)=0 by omega))) rfl rfl rfl rfl rfl rfl rfl ?_;exact ap
   ·by_cases h4:num b=1
    ·refine Sf ?_
     refine ae (bA (decide_eq_true (show(num b:Int)=1 by omega))) rfl rfl rfl rfl rfl rfl rfl ?_;exact ap
    ·obtain⟨g,hg⟩:∃g,Nat.gcd (num a) (num b)=g:=⟨_,rfl⟩
     have hg1:g≠1:=fun e=>h ⟨h1,h2,h3,h4,hg.trans e⟩
     refine Dl ?_;refine ae (lg (sa.fit (by omega)) (sb.fit (by omega)) (g:=g) (by rw[Int.natAbs_natCast,Int.natAbs_natCast];exact hg)) rfl rfl rfl rfl rfl rfl rfl ?_;refine kW ?_;refine ae (bA (decide_eq_false (show ¬(g:Int)=1 by omega))) rfl rfl rfl rfl rfl rfl rfl ?_;exact ap
  ·refine PL ?_
   refine ae (eH (by omega) h2) rfl rfl rfl rfl rfl rfl rfl ?_;exact ap
 ·by_cases h2:i6 false b
  ·refine kV func333 ?_;refine ae (eH (by omega) h1) rfl rfl rfl rfl rfl rfl rfl ?_;refine kW ?_;refine IC ?_;exact ap
  ·refine kV func333 ?_;refine ae (eH (by omega) h1) rfl rfl rfl rfl rfl rfl rfl ?_;refine kW ?_;refine ae (eH (by omega) h2) rfl rfl rfl rfl rfl rfl rfl ?_;exact ap
theorem yK {c:UInt8} {t:List UInt8} (h:c∈t):∃a b,t=a++c::b/\c ∉ a:=by
 induction t with
 |nil=>cases h
 |cons x t ih=>
  by_cases hx:x=c
  ·subst hx;exact⟨[],t,rfl,by simp⟩
  ·have h':c∈t:=by
    rcases List.mem_cons.1 h with e|e
    ·exact absurd e.symm hx
    ·exact e
   obtain⟨a,b,rfl,hn⟩:=ih h'
   exact⟨x::a,b,rfl,fun e=>by
    rcases List.mem_cons.1 e with e|e
    ·exact hx e.symm
    ·exact hn e⟩
theorem lE {t:List UInt8} (hl:t.length<=65536):(∃q,jt t=some q/\dO 200000 q/\aa Tryz.prog 329 [dL t] (.tup [dQ q,dB true]))∨(jt t=none/\ ∃x,(x=Jw∨x= .agg (aZ 0++aZ 1))/\aa Tryz.prog 329 [dL t] (.tup [x,dB false])):=by
 by_cases h47:47∈t
 ·obtain⟨a,b,rfl,ha⟩:=yK h47
  have hab:a.length+b.length<=65536:=by simp at hl;omega
  rw[Fd ha]
  by_cases h:i6 false a/\i6 false b/\num b≠0/\num b≠1/\Nat.gcd (num a) (num b)=1
  ·rw[if_pos h]
   refine .inl ⟨_,rfl, .divInt ((eR (dU h.1)).mono (by omega)) ((eR (dU h.2.1)).mono (by omega)) (by have:=h.2.2.1;omega),?_⟩;refine kU func329 ?_;refine NL ?_;refine kC (tu hab h rfl) ?_;exact ap
  ·rw[if_neg h]
   refine .inr ⟨rfl,Jw, .inl rfl,?_⟩;refine kU func329 ?_;refine NL ?_;refine kC (qI hab h) ?_;exact ap
 by_cases h46:46∈t
 ·obtain⟨a,b,rfl,ha⟩:=yK h46
  have hab:a.length+b.length<=65536:=by simp at hl;omega
  rw[D1 h47 ha]
  by_cases h:i6 false a/\b≠[]/\ ∀x∈b,eg x
  ·rw[if_pos h]
   have hp0:((10^b.length:Nat):Int)≠0:=by have:=Nat.pow_pos (a:=10) (n:=b.length) (by decide);omega
   have s1:Sz 200000 ((10^b.length:Nat):Int):=by rw[Int.natCast_pow];exact(sr b.length).mono (by omega)
   have s2:Sz 200000 ((num a*10^b.length+num b:Nat):Int):=by
    rw[Int.natCast_add,Int.natCast_mul,Int.natCast_pow];exact(((eR (dU h.1)).of_pow (j:=131072) (by omega)).add ((eR h.2.2).mono (by omega))).mono (by omega)
   refine .inl ⟨_,rfl, .divInt s2 s1 hp0,?_⟩;refine Gx ?_;refine NL ?_;refine kC (wn hab h.1 h.2.1 h.2.2 rfl) ?_;exact ap
  ·rw[if_neg h]
   refine .inr ⟨rfl,Jw, .inl rfl,?_⟩;refine Gx ?_;refine NL ?_;refine kC (ul hab h) ?_;exact ap
 rw[zV h47 h46]
 by_cases h:i6 false t
 ·rw[if_pos h]
  refine .inl ⟨_,rfl,⟨(eR (dU h)).mono (by omega),(Sz.small (z:=1) (by decide)).mono (by omega)⟩,?_⟩;refine Gx ?_;refine kW ?_;refine kQ (ot h46) ?_;refine kC (iZ hl h) ?_;exact si
 ·rw[if_neg h]
  refine .inr ⟨rfl,_, .inr rfl,?_⟩;refine Gx ?_;refine kW ?_;refine kQ (ot h46) ?_;refine kC (eH hl h) ?_;exact si
theorem AT {s:List UInt8} {q:Rat} (h:gJ s=some q):aa Tryz.prog 313 [dL s] (.tup [dQ q,dN .i64 0]):=by
 have hsz:=aF s;unfold gJ at h
 split at h
 ·rename_i hl
  have hdl:=qk s;rcases lE (t:=oA s) (by omega)with⟨p,hp,sp,c1⟩| ⟨hp,_⟩
  ·rw[hp]at h
   dsimp only at h;cases hn:ep s
   ·rw[hn]at h
    simp only[Bool.false_eq_true,if_false,Option.some.injEq]at h
    subst h;refine S5 ?_;refine QP ?_;refine kB false ?_ ?_
    ·exact hn
    refine kW ?_;refine gU (T:=TT) rfl ?_ ?_
    ·exact hn
    exact ap
   ·rw[hn]at h
    simp only[if_true]at h
    split at h
    ·cases h
    ·rename_i hp0
     cases h;have h0:¬p.num=0:=fun e=>hp0 (Rat.num_eq_zero.1 e)
     refine S5 ?_;refine QP ?_;refine kB true ?_ ?_
     ·exact hn
     refine kW ?_;refine kQ (cU (decide_eq_false h0)) ?_;refine fD (T:=TT) rfl ?_ ?_
     ·exact hn
     refine kW ?_;refine ae (zj sp (by decide) rfl) rfl rfl rfl rfl rfl rfl rfl ?_;exact ap
  ·rw[hp]at h;cases h
 ·cases h
theorem yv {s:List UInt8} (h:gJ s=none):aa Tryz.prog 313 [dL s] (.tup [Jw,dN .i64 2]):=by
 have hsz:=aF s
 by_cases hl:s.length<=65536
 ·have hdl:=qk s
  unfold gJ at h;rw[if_pos hl]at h;rcases lE (t:=oA s) (by omega)with⟨p,hp,sp,c1⟩| ⟨hp,x,hx,c1⟩
  ·rw[hp]at h
   dsimp only at h;cases hn:ep s
   ·rw[hn]at h
    simp at h
   ·rw[hn]at h
    simp only[if_true]at h
    split at h
    ·rename_i hp0
     have h0:p.num=0:=Rat.num_eq_zero.2 hp0;refine S5 ?_;refine QP ?_;refine kB true ?_ ?_
     ·exact hn
     refine kW ?_;refine kC (cU (decide_eq_true h0)) ?_;exact ap
    ·cases h
  ·rcases hx with rfl|rfl
   ·refine S5 ?_
    exact ap
   ·refine S5 ?_
    exact ap
 ·refine kV func313 ?_;refine kC (I1 s) ?_;refine El ?_;exact ap
def lY (q:Rat) (p:Int):List AV:=aQ q++[.val (.int .i64 p)]
def wO (q:Rat) (p:Int):DV:= .agg (lY q p)
def ic:List AV:=iP++[.val (.int .i64 0)]
def AU:DV:= .agg ic
def pR (p:Int):Bool:=decide (-4<=p) && decide (p<=4)
theorem sF {cs cs':List AV} {o k:Nat} (h:(cs.drop o).take k=cs'):∀(j:Nat) (a:AV),cs'[j]? =some a->cs[o+j]? =some a:=by
 intro j a hj;rw[<- h,List.getElem?_take]at hj
 split at hj
 ·simpa using hj
 ·cases hj
def MY:List (List UInt8 × Rat):=[([99,109],(10:Int)),([102,116],Rat.divInt 1524 5),([105,110],Rat.divInt 127 5),([109],(1000:Int)),([109,109],(1:Int))]
def HE (s:List UInt8):List (List UInt8 × Rat)->Option Rat
 | []=>none
 |(n,q)::r=>if s=n then some q else HE s r
def RU (s:List UInt8):Option Rat:=HE s MY
def gm:List AV:=[.val (.string ⟨#[99,109]⟩), .val (.int .i64 10), .val (.int .i64 1), .val (.string ⟨#[102,116]⟩), .val (.int .i64 1524), .val (.int .i64 5), .val (.string ⟨#[105,110]⟩), .val (.int .i64 127), .val (.int .i64 5), .val (.string ⟨#[109]⟩), .val (.int .i64 1000), .val (.int .i64 1), .val (.string ⟨#[109,109]⟩), .val (.int .i64 1), .val (.int .i64 1)]
def vz (s:List UInt8):RV:=match RU s with
 |some q=> .tup [wO q 1,dB true]
 |none=> .tup [AU,dB false]
theorem xQ (s:List UInt8):aa Tryz.prog 184 [dL s] (vz s):=by
 refine kV func184 ?_;refine ry 6 ?_;refine bY ⟨[(0, .d (dL s)),(2, .box 0 0),(3, .d (dB false)),(6, .d (.leaf (.sl 5 gm))),(7, .d (dN .i64 5)),(8, .d (dN .i64 0))],[(0,some ic)]⟩ kw ?_;refine kW ?_;refine aG (i:=0) (cs':=[.val (vL [99,109]), .val (.int .i64 10), .val (.int .i64 1)]) (by decide) (sF (k:=3) rfl) (by decide) rfl rfl rfl rfl rfl rfl rfl rfl ?_;refine QP ?_
 by_cases h0:s=[99,109]
 ·refine aq rfl rfl rfl rfl rfl rfl rfl (bv (a:=[99,109]) (b:=s) h0.symm) ?_
  refine kW ?_;refine ae (iH 10 1 (by decide) (by decide) (by decide) (by decide) (q:=((10:Int):Rat)) (by first|rfl|exact divInt_one _)) rfl rfl rfl rfl rfl rfl rfl ?_;refine kW ?_;have:vz s= .tup [wO (((10:Int):Rat)) 1,dB true]:=by subst h0;rfl
  exact Dc
 refine aq rfl rfl rfl rfl rfl rfl rfl (bL (a:=[99,109]) (b:=s) (fun e=>h0 e.symm)) ?_;refine kW ?_;refine bY ⟨[(0, .d (dL s)),(2, .box 0 0),(3, .d (dB false)),(6, .d (.leaf (.sl 5 gm))),(7, .d (dN .i64 5)),(8, .d (dN .i64 1))],[(0,some ic)]⟩ kw ?_;refine kW ?_;refine aG (i:=1) (cs':=[.val (vL [102,116]), .val (.int .i64 1524), .val (.int .i64 5)]) (by decide) (sF (k:=3) rfl) (by decide) rfl rfl rfl rfl rfl rfl rfl rfl ?_;refine QP ?_
 by_cases h1:s=[102,116]
 ·refine aq rfl rfl rfl rfl rfl rfl rfl (bv (a:=[102,116]) (b:=s) h1.symm) ?_
  refine kW ?_;refine ae (iH 1524 5 (by decide) (by decide) (by decide) (by decide) (q:=Rat.divInt 1524 5) (by first|rfl|exact divInt_one _)) rfl rfl rfl rfl rfl rfl rfl ?_;refine kW ?_;have:vz s= .tup [wO (Rat.divInt 1524 5) 1,dB true]:=by subst h1;rfl
  exact Dc
 refine aq rfl rfl rfl rfl rfl rfl rfl (bL (a:=[102,116]) (b:=s) (fun e=>h1 e.symm)) ?_;refine kW ?_;refine bY ⟨[(0, .d (dL s)),(2, .box 0 0),(3, .d (dB false)),(6, .d (.leaf (.sl 5 gm))),(7, .d (dN .i64 5)),(8, .d (dN .i64 2))],[(0,some ic)]⟩ kw ?_;refine kW ?_;refine aG (i:=2) (cs':=[.val (vL [105,110]), .val (.int .i64 127), .val (.int .i64 5)]) (by decide) (sF (k:=3) rfl) (by decide) rfl rfl rfl rfl rfl rfl rfl rfl ?_;refine QP ?_
 by_cases h2:s=[105,110]
 ·refine aq rfl rfl rfl rfl rfl rfl rfl (bv (a:=[105,110]) (b:=s) h2.symm) ?_
  refine kW ?_;refine ae (iH 127 5 (by decide) (by decide) (by decide) (by decide) (q:=Rat.divInt 127 5) (by first|rfl|exact divInt_one _)) rfl rfl rfl rfl rfl rfl rfl ?_;refine kW ?_;have:vz s= .tup [wO (Rat.divInt 127 5) 1,dB true]:=by subst h2;rfl
  exact Dc
 refine aq rfl rfl rfl rfl rfl rfl rfl (bL (a:=[105,110]) (b:=s) (fun e=>h2 e.symm)) ?_;refine kW ?_;refine bY ⟨[(0, .d (dL s)),(2, .box 0 0),(3, .d (dB false)),(6, .d (.leaf (.sl 5 gm))),(7, .d (dN .i64 5)),(8, .d (dN .i64 3))],[(0,some ic)]⟩ kw ?_;refine kW ?_;refine aG (i:=3) (cs':=[.val (vL [109]), .val (.int .i64 1000), .val (.int .i64 1)]) (by decide) (sF (k:=3) rfl) (by decide) rfl rfl rfl rfl rfl rfl rfl rfl ?_;refine QP ?_
 by_cases h3:s=[109]
 ·refine aq rfl rfl rfl rfl rfl rfl rfl (bv (a:=[109]) (b:=s) h3.symm) ?_
  refine kW ?_;refine ae (iH 1000 1 (by decide) (by decide) (by decide) (by decide) (q:=((1000:Int):Rat)) (by first|rfl|exact divInt_one _)) rfl rfl rfl rfl rfl rfl rfl ?_;refine kW ?_;have:vz s= .tup [wO (((1000:Int):Rat)) 1,dB true]:=by subst h3;rfl
  exact Dc
 refine aq rfl rfl rfl rfl rfl rfl rfl (bL (a:=[109]) (b:=s) (fun e=>h3 e.symm)) ?_;refine kW ?_;refine bY ⟨[(0, .d (dL s)),(2, .box 0 0),(3, .d (dB false)),(6, .d (.leaf (.sl 5 gm))),(7, .d (dN .i64 5)),(8, .d (dN .i64 4))],[(0,some ic)]⟩ kw ?_;refine kW ?_;refine aG (i:=4) (cs':=[.val (vL [109,109]), .val (.int .i64 1), .val (.int .i64 1)]) (by decide) (sF (k:=3) rfl) (by decide) rfl rfl rfl rfl rfl rfl rfl rfl ?_;refine QP ?_
 by_cases h4:s=[109,109]
 ·refine aq rfl rfl rfl rfl rfl rfl rfl (bv (a:=[109,109]) (b:=s) h4.symm) ?_
  refine kW ?_;refine ae (iH 1 1 (by decide) (by decide) (by decide) (by decide) (q:=((1:Int):Rat)) (by first|rfl|exact divInt_one _)) rfl rfl rfl rfl rfl rfl rfl ?_;refine kW ?_;have:vz s= .tup [wO (((1:Int):Rat)) 1,dB true]:=by subst h4;rfl
  exact Dc
 refine aq rfl rfl rfl rfl rfl rfl rfl (bL (a:=[109,109]) (b:=s) (fun e=>h4 e.symm)) ?_;refine kW ?_;refine bY ⟨[(0, .d (dL s)),(2, .box 0 0),(3, .d (dB false)),(6, .d (.leaf (.sl 5 gm))),(7, .d (dN .i64 5)),(8, .d (dN .i64 5))],[(0,some ic)]⟩ kw ?_;refine kW ?_
 have:vz s= .tup [AU,dB false]:=by
  unfold vz RU MY
  simp only[HE,h0,h1,h2,h3,h4,if_false]
 exact Dc
theorem lS {q:Rat} {p:Int} (h:pR p=true):aa Tryz.prog 255 [dQ q,dN .i64 p] (.tup [wO q p,dN .i64 0]):=by
 simp only[pR,Bool.and_eq_true,decide_eq_true_eq]at h
 refine kU func255 ?_;refine gL ?_;refine kE ?_
 refine kO2 ?_
 refine kE ?_;exact ap
theorem qG {q:Rat} {p:Int} (h:pR p=false):aa Tryz.prog 255 [dQ q,dN .i64 p] (.tup [AU,dN .i64 8]):=by
 simp only[pR,Bool.and_eq_false_iff,decide_eq_false_iff_not]at h
 by_cases h1:p< -4
 ·refine kU func255 ?_
  refine gL ?_;refine kB true ?_ ?_
  ·exact decide_eq_true h1
  exact ap
 ·refine kU func255 ?_
  refine gL ?_;refine kB false ?_ ?_
  ·exact decide_eq_false h1
  refine kO2 ?_
  refine kT ?_;exact ap
abbrev QR:=Except Int (Rat × Int)
def ew:QR->RV
 | .ok x=> .tup [wO x.1 x.2,dN .i64 0]
 | .error e=> .tup [AU,dN .i64 e]
def tT (a:Rat) (p:Int) (b:Rat) (p':Int):QR:=if p=p' then .ok (a+b,p)else .error 8
def Am (a:Rat) (p:Int) (b:Rat) (p':Int):QR:=if pR (p+p')then .ok (a*b,p+p')else .error 8
def Az (a:Rat) (p:Int) (b:Rat) (p':Int):QR:=if b=0 then .error 6 else if pR (p-p')then .ok (a/b,p-p')else .error 8
theorem yG {j k:Nat} {a b:Rat} {p p':Int} (h:dO j a) (h':dO k b) (hk:j+k+1<=2147483648) (hp:pR p=true):aa Tryz.prog 186 [wO a p,wO b p'] (ew (tT a p b p')):=by
 unfold tT
 by_cases e:p=p'
 ·rw[if_pos e]
  refine kU func186 ?_;refine mH ?_;refine kB false ?_ ?_
  ·exact(by rw[e];simp)
  refine kW ?_;refine kQ (m4 h h' hk rfl) ?_;refine kC (lS hp) ?_;exact ap
 ·rw[if_neg e]
  refine kU func186 ?_;refine mH ?_;refine kB true ?_ ?_
  ·exact(by simpa using e)
  exact ap
theorem CF {p p':Int} (h:pR p=true) (h':pR p'=true): -8<=p+p'/\p+p'<=8/\ -8<=p-p'/\p-p'<=8:=by
 simp only[pR,Bool.and_eq_true,decide_eq_true_eq]at h h'
 omega
theorem Jc {j k:Nat} {a b:Rat} {p p':Int} (h:dO j a) (h':dO k b) (hk:j+k<=2147483648) (hp:pR p=true) (hp':pR p'=true):aa Tryz.prog 187 [wO a p,wO b p'] (ew (Am a p b p')):=by
 have hr:=CF hp hp';unfold Am;cases e:pR (p+p')
 ·rw[if_neg (by simp)]
  refine GC ?_;refine kC (qG e) ?_;exact ap
 ·rw[if_pos rfl]
  refine GC ?_;refine kC (lS e) ?_;exact ap
theorem HG {j k:Nat} {a b:Rat} {p p':Int} (h:dO j a) (h':dO k b) (hk:j+k<=2147483648) (hp:pR p=true) (hp':pR p'=true):aa Tryz.prog 188 [wO a p,wO b p'] (ew (Az a p b p')):=by
 have hr:=CF hp hp';have hw:IntKind.i64.wrap (p-p')=p-p':=IntWalk.i64_in _ (by omega);unfold Az
 by_cases hb:b=0
 ·rw[if_pos hb]
  refine kV func188 ?_;refine kC (Es hb) ?_;exact ap
 ·rw[if_neg hb]
  cases e:pR (p-p')
  ·rw[if_neg (by simp)]
   rw[<- hw]at e;refine kV func188 ?_;refine kQ (zc h h' hk hb rfl) ?_;refine kC (qG e) ?_;exact ap
  ·rw[if_pos rfl]
   rw[<- hw]at e;refine kV func188 ?_;refine kQ (zc h h' hk hb rfl) ?_;refine kC (lS e) ?_;refine fR ?_;rw[hw];rfl
theorem lK {k:Nat} {a:Rat} {p:Int} (h:dO k a) (hk:k<=2147483648):aa Tryz.prog 185 [wO a p] (.one (wO (-a) p)):=by
 refine kV func185 ?_;refine kC (zj h hk rfl) ?_;exact ap
theorem zI {n d:Int} (hd:d≠0):Rat.divInt n d=0↔n=0:=by
 have h0:(0:Rat)=Rat.divInt 0 1:=by rfl
 rw[h0,Rat.divInt_eq_divInt_iff hd (by decide)]
 simp
theorem lI {k:Nat} {a:Rat} {p:Int} (h:dO k a) (hk:k<=2147483640) (hp:p=0∨p=1):aa Tryz.prog 96 [wO a p] (.tup [dQ a,dN .i64 0]):=by
 have e0:a+((0:Int):Rat)=a:=Rat.add_zero a;have s0:dO 1 ((0:Int):Rat):=⟨.small (by decide), .small (by decide)⟩;rcases hp with rfl|rfl
 ·exact KG
 ·exact KG
theorem nw {a:Rat} {p:Int} (hp:¬(p=0∨p=1)):aa Tryz.prog 96 [wO a p] (.tup [Jw,dN .i64 8]):=by
 have h0:p≠0:=fun e=>hp (.inl e)
 have h1:p≠1:=fun e=>hp (.inr e)
 refine kU func96 ?_;refine Bx ?_;refine kB true ?_ ?_
 ·exact(by simpa using h0)
 refine kO3 ?_
 refine kB true ?_ ?_
 ·exact(by simpa using h1)
 exact ap
theorem Jl {s:List UInt8} {q:Rat} (h:RU s=some q):dO 1 q/\q≠0:=by
 have key:∀(l:List (List UInt8 × Rat)),(∀x∈l,dO 1 x.2/\x.2≠0)-> ∀q,HE s l=some q->dO 1 q/\q≠0:=by
  intro l
  induction l with
  |nil=>intro _ q h;cases h
  |cons x l ih=>
   intro hl q h;obtain⟨n,r⟩:=x
   simp only[HE]at h
   split at h
   ·cases h;exact hl (n,q) (by simp)
   ·exact ih (fun x hx=>hl x (by simp[hx])) q h
 refine key MY (fun x hx=>?_) q h;have i1:∀n:Int,n.natAbs<4294967296->n≠0->dO 1 (n:Rat)/\(n:Rat)≠0:=fun n h0 h1=>⟨⟨.small h0, .small (z:=1) (by decide)⟩,fun e=>h1 (by exact_mod_cast e)⟩
 have i2:∀n d:Int,n.natAbs<4294967296->d.natAbs<4294967296->n≠0->d≠0->dO 1 (Rat.divInt n d)/\Rat.divInt n d≠0:=fun n d h0 h1 h2 h3=>⟨.divInt (.small h0) (.small h1) h3,fun e=>h2 ((zI h3).1 e)⟩
 simp only[MY,List.mem_cons,List.not_mem_nil,or_false]at hx
 rcases hx with rfl|rfl|rfl|rfl|rfl
 ·exact i1 10 (by decide) (by decide)
 ·exact i2 1524 5 (by decide) (by decide) (by decide) (by decide)
 ·exact i2 127 5 (by decide) (by decide) (by decide) (by decide)
 ·exact i1 1000 (by decide) (by decide)
 ·exact i1 1 (by decide) (by decide)
end Go.Proofs.YtnchbpoopnjghaaGreatDoor
