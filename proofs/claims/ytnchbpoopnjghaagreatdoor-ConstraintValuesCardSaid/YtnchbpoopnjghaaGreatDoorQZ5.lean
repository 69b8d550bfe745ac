/- Parts of a proof: contracts of the functions that the laws reach. -/
import Derived.Test.YtnchbpoopnjghaaGreatDoorQIFmt
set_option maxHeartbeats 100000000
set_option linter.all false
open Go.Proofs.Tryz
namespace Go.Proofs.YtnchbpoopnjghaaGreatDoor
open Go.RowKit
theorem KL (s:List UInt8):aa Tryz.prog 109 [dL s,dL [45]] (.tup [dL (mK s),dB (eF s)]):=
 ⟨aG func109 rfl rfl,fun S w vs hS hv=>by
  match vs,hv with
  | [v,u],⟨h1,h2,_⟩=>
   obtain rfl:=bc h1;obtain rfl:=bc h2;refine(Tryz.strings_CutPrefix (Bs s) (Bs [45]) w).mono ?_;rintro e w' ⟨rfl,rfl⟩
   have e1:(⟨(Lib.trimPrefix (Bs s).data.toList (Bs [45]).data.toList).toArray⟩:ByteArray)=Bs (mK s):=by
    unfold Bs
    congr 2
    cases s with
    |nil=>rfl
    |cons c r=>
     by_cases h:c=45
     ·simp[Lib.trimPrefix,Lib.hasPrefix,mK,h,List.isPrefixOf]
     ·have h':¬45=c:=fun e=>h e.symm
      simp[Lib.trimPrefix,Lib.hasPrefix,mK,h,h',List.isPrefixOf]
   have e2:Lib.hasPrefix (Bs s).data.toList (Bs [45]).data.toList=eF s:=by
    cases s with
    |nil=>rfl
    |cons c r=>
     by_cases h:c=45
     ·simp[Bs,Lib.hasPrefix,eF,h,List.isPrefixOf]
     ·have h1':(45 == c)=false:=beq_eq_false_iff_ne.2 fun e=>h e.symm
      have h2':(c == 45)=false:=beq_eq_false_iff_ne.2 h
      simp[Bs,Lib.hasPrefix,eF,h1',h2',List.isPrefixOf]
   rw[e1,e2];refine⟨_,rfl,⟨[.string (Bs (mK s)), .bool (eF s)],rfl,rfl,fun i x u h1 h2=>?_⟩,Below.refl _ _⟩
   match i with
   |0=>simp at h1 h2;subst h1 h2;exact AV.M.val rfl
   |1=>simp at h1 h2;subst h1 h2;exact AV.M.val rfl
   |i+2=>simp at h1⟩
def pV:List Nat->TV
 | []=> .nil
 |a::r=> .own 1000001 (a::r).length 1 135
def pX:List Nat->Option (List AV)
 | []=>none
 |a::r=>some ((a::r).map fun x:Nat=>AV.val (bZ x))
theorem Cw (a b:List UInt8):num (a++b)=num a*10^b.length+num b:=by
 have:∀n (b:List UInt8),b.length=n->num (a++b)=num a*10^b.length+num b:=by
  intro n
  induction n with
  |zero=>intro b hb;rw[E_ hb];simp[num]
  |succ n ih=>
   intro b hb
   obtain⟨b',c,rfl⟩:∃l' c,b=l'++[c]:=by
    rcases List.eq_nil_or_concat b with h| ⟨l',c,h⟩
    ·subst h;simp at hb
    ·exact⟨l',c,by simpa using h⟩
   rw[<- e_,om,ih b' (by simpa using hb),om,L_,List.length_singleton,Nat.pow_succ];generalize num a=x,10^b'.length=y;rw[<- Nat.mul_assoc,Nat.mul_comm (x*y) 10];omega
 exact this _ b rfl
theorem Lk {m:List Nat} (h:0<m.length):pV m= .own 1000001 m.length 1 135:=by
 cases m with
 |nil=>exact absurd h D_
 |cons a r=>rfl
theorem H3 {m:List Nat} (h:0<m.length):pX m=some (m.map fun x:Nat=>AV.val (bZ x)):=by
 cases m with
 |nil=>exact absurd h D_
 |cons a r=>rfl
theorem zD {F C c w i v t:Nat} (hF:F<=1000000000) (hc:c<4294967296) (hw:w<4294967296) (h:v+4294967296^i*c=F*t+C):(c+w*F)/4294967296<4294967296/\v+4294967296^i*((c+w*F)%4294967296)+4294967296^(i+1)*((c+w*F)/4294967296)=F*(t+4294967296^i*w)+C:=by
 have hb:w*F<=4294967295*1000000000:=Nat.mul_le_mul O_ hF;refine⟨by omega,?_⟩;rw[Nat.pow_succ,Nat.mul_assoc,Nat.add_assoc,<- Nat.mul_add,Nat.mod_add_div,Nat.mul_add,<- Nat.add_assoc,h,Nat.mul_add];rw[<- Nat.mul_assoc (4294967296^i),Nat.mul_comm (4294967296^i*w) F];omega
theorem j9 (s:List UInt8):aa Tryz.prog 346 [dL s] (.tup [dZ (pz s).1,dN .i64 (pz s).2]):=by
 have z0:dZ 0= .agg [.val (.bool false), .sl 0 []]:=by unfold dZ;rw[e0]
 have hsz:=aJ s
 by_cases hl:s.length<=65536
 ·have hdl:=q9 s
  refine kU func346 ?_;refine qz ?_;refine dp ?_;refine kW ?_;refine kC (KL s) ?_;refine kN ?_
  by_cases hgood:mK s≠[]/\((∀c r,mK s=c::r->c≠48)∨((mK s).length=1/\eF s=false))
  ·refine lL ⟨[(2, .box 0 0),(3, .d (dN .i64 0)),(4, .d (dL (mK s))),(5, .d (dB (eF s)))],[(0,some [.val (.bool false), .sl 0 []])]⟩ (fun s' hw=>?_) (fun R hR hret=>?_)
   ·refine bu ?_
    refine dh hw rfl ?_;refine kN ?_;refine bu ?_;refine cX (T:=TT) ?_;refine aq (List UInt8 × List Nat) (fun p=>∃dn,mK s=dn++p.1/\(∀c∈dn,gv c)/\val p.2=num dn/\Wd p.2/\p.2.length<=dn.length) (fun p=>⟨[(2, .box 0 0),(3, .d (dN .i64 0)),(5, .d (dB (eF s))),(4, .d (dL p.1)),(6,pV p.2)],[(0,some [.val (.bool false), .sl 0 []]),(1000001,pX p.2)]⟩) (fun p=>p.1.length) (mK s,[]) ⟨[],rfl,by simp,rfl,Wd.nil,l_ _⟩ kw ?_;rintro⟨rest,m⟩ ⟨dn,hdn,hdd,hval,hWd,hml⟩;dsimp only at hdn hval hWd hml ⊢;have hdnl:=congrArg List.length hdn;rw[L_]at hdnl;have hsr:=aJ rest;refine kR ?_;refine ir rfl (fun h=>?_) (fun h=>?_)
    ·have h:=h_ h
     have hr0:0<rest.length:=O_
     refine dp ?_;obtain⟨nn,hnn⟩:∃nn,(rest.length-1)%9+1=nn:=⟨_,rfl⟩;have hn9:nn<=9:=O_
     have hnr:nn<=rest.length:=by have:=Nat.mod_le (rest.length-1) 9;omega
     have hmod:((rest.length-1:Nat):Int).tmod 9=((rest.length-1)%9:Nat):=by rw[show(9:Int)=((9:Nat):Int) from rfl,Int.ofNat_tmod]
     refine cX (T:=TT) ?_;refine rH ?_;refine cU (v':= .int .i64 ((rest.length-1:Nat))) rfl rfl rfl rfl ?_ ?_
     ·exact congrArg (Value.int .i64) (by rw[hsr,IntWalk.i64_in _ O_];omega)
     refine ax rfl rfl rfl rfl ?_ rfl rfl (sP D_) ?_
     ·rfl
     refine kJ (nn) ?_;refine kN ?_;refine kR ?_;refine Rp ⟨[(2, .box 0 0),(3, .d (dN .i64 0)),(5, .d (dB (eF s))),(4, .d (dL rest)),(7, .d (dN .i64 nn)),(8, .d (dN .u64 (num (rest.take nn)))),(9, .d (dN .u64 (10^nn:Nat))),(6,pV m)],[(0,some [.val (.bool false), .sl 0 []]),(1000001,pX m)]⟩ (∀c∈rest.take nn,gv c) (fun hdt s' hw=>?_) (fun R hR hret=>?_)
     ·have hCl:=wM
      have hdd':∀c∈dn++rest.take nn,gv c:=fun c hc=>(List.mem_append.1 hc).elim (hdd c) (hdt c)
      have hdn':mK s=(dn++rest.take nn)++rest.drop nn:=by rw[e_,List.take_append_drop];exact hdn
      have hlen':(dn++rest.take nn).length=dn.length+nn:=by rw[L_,U_,Nat.min_eq_left hnr]
      have hdr:(rest.drop nn).length<rest.length:=by rw[n_];omega
      obtain⟨C,hC⟩:∃C,num (rest.take nn)=C:=⟨_,rfl⟩;obtain⟨F,hF⟩:∃F,10^nn=F:=⟨_,rfl⟩;have hF9:F<=1000000000:=by rw[<- hF];exact Nat.pow_le_pow_right D_ hn9
      have hC9:C<F:=by
       rw[<- hC,<- hF];have:=wM _ (rest.take nn) rfl (fun c hc=>hdd' c (List.mem_append.2 (.inr hc)))
       rwa[U_,Nat.min_eq_left hnr]at this
      have hnum':num (dn++rest.take nn)=F*num dn+C:=by
       rw[Cw,U_,Nat.min_eq_left hnr,hF,hC,Nat.mul_comm]
      rw[hC,hF]at hw;cases m with
      |nil=>
       have hdn0:num dn=0:=hval.symm;refine bu ?_;refine bu ?_;refine dh hw rfl ?_;refine kN ?_;refine cX (T:=TT) ?_;refine aq Unit (fun _=>True) (fun _=>⟨[(2, .box 0 0),(3, .d (dN .i64 0)),(5, .d (dB (eF s))),(4, .d (dL rest)),(7, .d (dN .i64 nn)),(8, .d (dN .u64 C)),(6, .nil),(70, .d (dN .i64 0)),(71, .d (dN .i64 0))],[(0,some [.val (.bool false), .sl 0 []])]⟩) (fun _=>0) () trivial kw ?_;rintro _ _;refine kR ?_;refine dX (T:=TT) rfl ?_;refine iA ?_;have hcv:(F*0:Nat)+C=C:=O_
       refine tM ?_
       by_cases hC0:C=0
       ·refine kE ?_
        refine pU ?_;refine dp ?_;refine Ga ?_;refine Do ?_;refine⟨(rest.drop nn,[]),⟨dn++rest.take nn,hdn',hdd',?_,Wd.nil,Nat.zero_le _⟩,hdr,weak ⟨rfl,rfl,rfl,rfl,rfl,trivial⟩ ⟨rfl,trivial⟩ rfl⟩;rw[hnum',hdn0,hC0];rfl
       ·have hCp:0<C:=O_
        refine kT ?_;refine wq ?_;refine Ga ?_;refine cU (v':= .int .u32 (C)) rfl rfl rfl rfl ?_ ?_
        ·exact congrArg (Value.int .u32) (by rw[IntWalk.u32_in _ O_])
        refine kO ?_;refine P0 D_ D_ rfl rfl rfl rfl rfl rfl rfl rfl rfl rfl rfl (.nil rfl rfl) rfl rfl ?_;refine kN ?_;refine Ga ?_;refine Do ?_;refine⟨(rest.drop nn,[C]),⟨dn++rest.take nn,hdn',hdd',?_, .cons O_ .nil,by rw[hlen'];show 1<=_;omega⟩,hdr,?_⟩
        ·rw[hnum',hdn0]
         simp[val]
        ·refine aM.trans (b:=⟨[(2, .box 0 0),(3, .d (dN .i64 0)),(5, .d (dB (eF s))),(4, .d (dL (rest.drop nn))),(6, .own 1027004 1 1 135)],[(0,some [.val (.bool false), .sl 0 []]),(1027004,some [.val (bZ C)])]⟩) kw ((aD (q:=6) (j:=1027004) (j':=1000001) (m:=1) (k:=1) (e:=135) (cs:=[.val (bZ C)]) rfl rfl rfl rfl).trans kw)
      |cons x r=>
       obtain⟨m,hm⟩:∃m,x::r=m:=⟨_,rfl⟩;have hm0:0<m.length:=by rw[<- hm];simp
       rw[hm,Lk hm0,H3 hm0]at hw;rw[hm]at hval hWd hml;clear hm;refine bu ?_;refine bu ?_;refine dh hw rfl ?_;refine kN ?_;refine cX (T:=TT) ?_;refine aq (List Nat × Nat) (fun p=>p.1.length<=m.length/\Wd p.1/\p.2<4294967296/\val p.1+4294967296^p.1.length*p.2=F*val (m.take p.1.length)+C) (fun p=>⟨[(2, .box 0 0),(3, .d (dN .i64 0)),(5, .d (dB (eF s))),(4, .d (dL rest)),(7, .d (dN .i64 nn)),(8, .d (dN .u64 p.2)),(9, .d (dN .u64 F)),(6, .own 1000001 m.length 1 135),(70, .d (dN .i64 m.length)),(71, .d (dN .i64 p.1.length))],[(0,some [.val (.bool false), .sl 0 []]),(1000001,some ((p.1++m.drop p.1.length).map fun x:Nat=>AV.val (bZ x)))]⟩) (fun p=>m.length-p.1.length) ([],C) ⟨by simp, .nil,by show C<_;omega,by simp[val]⟩ kw ?_;rintro⟨xs,c⟩ ⟨hxl,hxw,hc,heq⟩;dsimp only at hxl hxw hc heq ⊢
       refine kR ?_;refine bu ?_;refine ir rfl (fun h=>?_) (fun h=>?_)
       ·have h:=h_ h
        have hi:xs.length<m.length:=O_
        refine dp ?_;refine bu ?_;refine cX (T:=TT) ?_;refine kR ?_;refine CC ?_
        refine kO3 ?_
        refine mC (i:=xs.length) hi rfl rfl rfl rfl rfl rfl rfl rfl rfl ?_
        have hget:((xs++m.drop xs.length).map fun x:Nat=>AV.val (bZ x))[xs.length*1]? =some (.val (bZ m[xs.length])):=by
         rw[o_,List.getElem?_map,g_ (l_ _),Nat.sub_self,List.getElem?_drop,Nat.add_zero,Q_ hi];rfl
        have hwi:m[xs.length]<4294967296:=hWd _ (List.getElem_mem hi)
        obtain⟨hc',heq'⟩:=zD hF9 hc hwi heq;have hwF:m[xs.length]*F<=4294967295*1000000000:=Nat.mul_le_mul O_ hF9;refine Df hget rfl rfl rfl rfl rfl rfl rfl rfl rfl ?_;obtain⟨W,hW⟩:∃W,m[xs.length]=W:=⟨_,rfl⟩;obtain⟨p,hp⟩:∃p,W*F=p:=⟨_,rfl⟩;have hpr:(W:Int)*(F:Nat)=(p:Nat):=by rw[<- hp,Int.natCast_mul]
        have htk:val (m.take (xs.length+1))=val (m.take xs.length)+4294967296^xs.length*W:=by rw[an,H_,Q_ hi,hW];rfl
        rw[hW,hp]at hwF hc' heq';rw[hW];rw[hW]at hwi;obtain⟨t,ht⟩:∃t,c+p=t:=⟨_,rfl⟩;rw[ht]at hc' heq';refine cU (v':= .int .u64 (W)) rfl rfl rfl rfl ?_ ?_
        ·exact congrArg (Value.int .u64) (by rw[IntWalk.u64_in _ O_])
        refine kO ?_;refine cU (v':= .int .u64 (p)) rfl rfl rfl rfl ?_ ?_
        ·exact congrArg (Value.int .u64) (by rw[hpr,IntWalk.u64_in _ O_])
        refine cU (v':= .int .u64 (t)) rfl rfl rfl rfl ?_ ?_
        ·exact congrArg (Value.int .u64) (by rw[IntWalk.u64_in _ O_];omega)
        refine kN ?_;refine CC ?_
        refine kO3 ?_
        refine cU (v':= .int .u32 ((t%4294967296:Nat))) rfl rfl rfl rfl ?_ ?_
        ·exact congrArg (Value.int .u32) (by rw[IntKind.wrap_u32];omega)
        refine mC (i:=xs.length) hi rfl rfl rfl rfl rfl rfl rfl rfl rfl ?_
        have hsp:bz ((xs++m.drop xs.length).map fun x:Nat=>AV.val (bZ x)) (xs.length*1) [.val (bZ (t%4294967296))]=((xs++[t%4294967296])++m.drop (xs++[t%4294967296]).length).map fun x:Nat=>AV.val (bZ x):=by
         unfold bz;rw[o_,<- List.map_take,<- List.map_drop,List.take_left,List.length_singleton,<- List.drop_drop,List.drop_left,List.drop_drop,L_,List.length_singleton,List.map_append,List.map_append];rfl
        refine Aq (by rw[j_,L_,n_];omega) hsp rfl rfl rfl rfl rfl rfl rfl rfl rfl rfl ?_;refine kN ?_;refine bG rfl ?_;refine kO ?_;refine cU (v':= .int .u64 ((t/4294967296:Nat))) rfl rfl rfl rfl ?_ ?_
        ·exact congrArg (Value.int .u64) (by rw[show(2:Int)^min (Int.toNat 32) IntKind.u64.bits=4294967296 by decide,Int.fdiv_eq_ediv_of_nonneg _ D_];omega)
        refine kN ?_;refine bG rfl ?_;refine cU (v':= .int .i64 ((xs++[t%4294967296]).length)) rfl rfl rfl rfl ?_ ?_
        ·exact congrArg (Value.int .i64) (by rw[IntWalk.i64_in _ O_];simp)
        refine kN ?_;refine⟨(xs++[t%4294967296],t/4294967296),⟨by rw[L_];exact hi,hxw.append (.cons O_ .nil),hc',?_⟩,?_,weak ⟨rfl,rfl,rfl,rfl,rfl,rfl,rfl,rfl,rfl,rfl,trivial⟩ ⟨rfl,rfl,trivial⟩ rfl⟩
        ·show val (xs++[t%4294967296])+_=_
         rw[L_,List.length_singleton,htk,cu,<- heq']
         simp[val]
        ·dsimp only;rw[L_,List.length_singleton];omega
       ·have h:=of_decide_eq_false h
        have hi:xs.length=m.length:=O_
        rw[hi,List.drop_length,c_];rw[hi,List.take_length,hval]at heq;have hx0:0<xs.length:=O_
        refine iA ?_;refine tM ?_
        by_cases hc0:c=0
        ·refine kE ?_
         refine pU ?_;refine dp ?_;refine Ga ?_;refine Do ?_;refine⟨(rest.drop nn,xs),⟨dn++rest.take nn,hdn',hdd',?_,hxw,by rw[hlen',hi];omega⟩,hdr,?_⟩
         ·rw[hnum',<- heq,hc0];rfl
         ·dsimp only
          rw[Lk hx0,H3 hx0,hi];exact kw
        ·have hcp:0<c:=O_
         refine kT ?_;refine wq ?_;refine Ga ?_;refine cU (v':= .int .u32 (c)) rfl rfl rfl rfl ?_ ?_
         ·exact congrArg (Value.int .u32) (by rw[IntWalk.u32_in _ O_])
         refine kO ?_;refine P0 D_ (by show(m.length+1)*4<=_;omega) rfl rfl rfl rfl rfl rfl rfl rfl rfl rfl rfl (.own rfl rfl) rfl rfl ?_;refine kN ?_;refine Ga ?_;refine Do ?_;have hl1:(xs++[c]).length=m.length+1:=by rw[L_,hi];rfl
         have hb:((xs.map fun x:Nat=>AV.val (bZ x)).take (m.length*1)++[.val (bZ c)])=(xs++[c]).map fun x:Nat=>AV.val (bZ x):=by
          rw[o_,<- hi,K_ S_,List.map_append];rfl
         refine⟨(rest.drop nn,xs++[c]),⟨dn++rest.take nn,hdn',hdd',?_,hxw.append (.cons hc .nil),by rw[hlen'];dsimp only;omega⟩,hdr,?_⟩
         ·rw[hnum',<- heq]
          show val (xs++[c])=_;rw[cu,hi]
          simp[val]
         ·dsimp only
          rw[Lk O_,H3 O_,hl1,<- hb];refine aM.trans (b:=⟨[(2, .box 0 0),(3, .d (dN .i64 0)),(5, .d (dB (eF s))),(4, .d (dL (rest.drop nn))),(6, .own 1027004 (m.length+1) 1 135)],[(0,some [.val (.bool false), .sl 0 []]),(1027004,some ((xs.map fun x:Nat=>AV.val (bZ x)).take (m.length*1)++[.val (bZ c)]))]⟩) kw ((aD (q:=6) (j:=1027004) (j':=1000001) (m:=m.length+1) (k:=1) (e:=135) (cs:=(xs.map fun x:Nat=>AV.val (bZ x)).take (m.length*1)++[.val (bZ c)]) rfl rfl rfl rfl).trans kw)
     ·refine kR ?_
      refine cX (T:=TT) ?_;refine aq Nat (fun i=>i<=nn/\ ∀c∈rest.take i,gv c) (fun i=>⟨[(2, .box 0 0),(3, .d (dN .i64 0)),(5, .d (dB (eF s))),(4, .d (dL rest)),(7, .d (dN .i64 nn)),(8, .d (dN .u64 (num (rest.take i)))),(9, .d (dN .u64 (10^i:Nat))),(46, .d (dN .i64 nn)),(47, .d (dN .i64 i)),(6,pV m)],[(0,some [.val (.bool false), .sl 0 []]),(1000001,pX m)]⟩) (fun i=>nn-i) 0 ⟨by omega,by simp⟩ (weak ⟨rfl,rfl,rfl,rfl,rfl,rfl,rfl,rfl,rfl,rfl,trivial⟩ (by cases m<;>first|exact⟨rfl,rfl,trivial⟩|exact⟨rfl,trivial⟩) (by cases m<;>rfl)) ?_;rintro i ⟨hi,hd⟩;refine kR ?_;refine bu ?_;refine ir rfl (fun h=>?_) (fun h=>?_)
      ·have h:=h_ h
       have hi:i<nn:=O_
       have hir:i<rest.length:=O_
       refine dp ?_;refine bu ?_;refine cX (T:=TT) ?_;refine kR ?_;refine rH ?_;refine gL af (i:=i) (c:=rest[i]) (Q_ hir) rfl rfl rfl rfl rfl rfl rfl rfl ?_;refine kN ?_;have hmem:rest[i]∈mK s:=by rw[hdn,List.mem_append];exact .inr (List.getElem_mem hir)
       refine tM ?_
       by_cases h48:rest[i].toNat<48
       ·have hbad:¬SH s:=fun hp=>by have:=(hp.2.2.1 _ hmem).1;omega
        exact Oh
       ·refine kE ?_
        refine kO2 ?_
        by_cases h57:rest[i].toNat > 57
        ·have hbad:¬SH s:=fun hp=>by have:=(hp.2.2.1 _ hmem).2;omega
         exact Oh
        ·refine kE ?_
         have hD:gv rest[i]:=⟨by omega,by omega⟩;have hdv:=Oc hD;have hs1:num (rest.take (i+1))=10*num (rest.take i)+dv rest[i]:=by rw[List.take_succ_eq_append_getElem hir,om]
         have hb1:=wM _ _ rfl hd;have hb2:10^(rest.take i).length<=10^8:=Nat.pow_le_pow_right D_ (by rw[U_];omega);have hb3:10^i<=10^8:=Nat.pow_le_pow_right D_ O_;refine pU ?_;refine dp ?_;refine CC ?_;refine kO ?_;refine cU (v':= .int .u64 ((10*num (rest.take i):Nat))) rfl rfl rfl rfl ?_ ?_
         ·exact congrArg (Value.int .u64) (by rw[IntWalk.u64_in _ O_];omega)
         refine kO ?_;refine cU (v':= .int .u8 ((dv rest[i]:Nat))) rfl rfl rfl rfl ?_ ?_
         ·exact congrArg (Value.int .u8) (by rw[IntWalk.u8_in _ O_];unfold dv;omega)
         refine cU (v':= .int .u64 ((dv rest[i]:Nat))) rfl rfl rfl rfl ?_ ?_
         ·exact congrArg (Value.int .u64) (by rw[IntWalk.u64_in _ O_])
         refine cU (v':= .int .u64 ((num (rest.take (i+1)):Nat))) rfl rfl rfl rfl ?_ ?_
         ·exact congrArg (Value.int .u64) (by rw[hs1,IntWalk.u64_in _ O_];omega)
         refine kN ?_;refine bG rfl ?_;refine kO ?_;refine cU (v':= .int .u64 ((10^(i+1):Nat))) rfl rfl rfl rfl ?_ ?_
         ·exact congrArg (Value.int .u64) (by rw[Nat.pow_succ];generalize 10^i=pw at hb3 ⊢;rw[IntWalk.u64_in _ O_];omega)
         refine kN ?_;refine bG rfl ?_;refine kJ ((i+1:Nat)) ?_;refine kN ?_;refine⟨i+1,⟨hi,fun c hc=>?_⟩,by omega,weak ⟨rfl,rfl,rfl,rfl,rfl,rfl,rfl,rfl,rfl,rfl,trivial⟩ (by cases m<;>first|exact⟨rfl,rfl,trivial⟩|exact⟨rfl,trivial⟩) (by cases m<;>rfl)⟩;rw[List.take_succ_eq_append_getElem hir,List.mem_append]at hc;rcases hc with hc|hc
         ·exact hd c hc
         ·rw[d_]at hc;rw[hc];exact hD
      ·have h:=of_decide_eq_false h
       have hin:i=nn:=O_
       subst hin;refine iA ?_;exact hR hd _ (weak ⟨rfl,rfl,rfl,rfl,rfl,rfl,rfl,rfl,trivial⟩ (by cases m<;>first|exact⟨rfl,rfl,trivial⟩|exact⟨rfl,trivial⟩) (by cases m<;>rfl))
    ·have h:=of_decide_eq_false h
     have hr0:rest.length=0:=O_
     obtain rfl:=E_ hr0;rw[c_]at hdn;have hok:SH s:=⟨hl,hgood.1,by rw[hdn];exact hdd,hgood.2⟩;have hz:bI (eF s) m=No (eF s) (num (mK s)):=by unfold bI No;rw[hval,hdn]
     rw[Pf hok];refine iA ?_;cases m with
     |nil=>
      refine kW ?_;refine kC (bw (neg:=eF s) (xs:=[]) Wd.nil hz) ?_;exact aj
     |cons x r=>
      refine bu ?_;refine dh (bf (q:=6) rfl rfl) rfl ?_;refine kW ?_;refine kC (bw (neg:=eF s) (xs:=x::r) hWd hz) ?_;exact aj
   ·clear hret
    cases hp:mK s with
    |nil=>exact absurd hp hgood.1
    |cons c r=>
     refine CC ?_;refine kO ?_;have hsz':=aJ (c::r);have hfin:TV.d (dL (c::r))=TV.d (dL (mK s)):=by rw[hp]
     refine ax rfl rfl rfl rfl rfl rfl rfl ((iN (a:=c::r) (b:=[])).trans (congrArg (fun b=>some (Value.bool b)) (F_ S_))) ?_
     refine kO2 ?_
     refine R2 ?_
     by_cases h48:c=48
     ·subst h48
      have hg2:((48:UInt8)::r).length=1/\eF s=false:=by
       rcases hgood.2 with h|h
       ·exact absurd rfl (h _ _ hp)
       ·rw[hp]at h;exact h
      refine kO4 ?_
      refine kE ?_;have hneg:TV.d (dB false)=TV.d (dB (eF s)):=by rw[hg2.2]
      generalize eF s=ng at *;obtain rfl:=hg2.2;exact Pp
     ·have hn:c.toNat≠48:=fun e=>h48 (UInt8.toNat_inj.1 e)
      refine kB false ?_ ?_
      ·exact beq_eq_false_iff_ne.2 O_
      exact Pp
  ·rw[ws (fun h=>hgood ⟨h.2.1,h.2.2.2⟩),z0]
   cases hp:mK s with
   |nil=>
    refine tM ?_;refine ax rfl rfl rfl rfl rfl rfl rfl (iN (a:=[]) (b:=[])) ?_;exact aj
   |cons c r=>
    have hc:c=48/\(1<(c::r).length∨eF s=true):=by
     refine Classical.byContradiction fun hno=>hgood ⟨by rw[hp];simp,?_⟩
     rw[hp]
     by_cases h48:c=48
     ·refine .inr ⟨?_,?_⟩
      ·apply Classical.byContradiction
       intro h1;exact hno ⟨h48, .inl (by simp at h1 ⊢;exact List.length_pos_iff.2 h1)⟩
      ·cases hq:eF s
       ·rfl
       ·exact absurd ⟨h48, .inr hq⟩ hno
     ·exact .inl fun x q e=>by cases e;exact h48
    obtain⟨rfl,hc⟩:=hc;have hsz':=aJ ((48:UInt8)::r);refine tM ?_;refine ax rfl rfl rfl rfl rfl rfl rfl ((iN (a:=48::r) (b:=[])).trans (congrArg (fun b=>some (Value.bool b)) (F_ S_))) ?_
    refine kO2 ?_
    refine gL af (i:=0) (c:=48) rfl rfl rfl rfl rfl rfl rfl rfl rfl ?_
    refine kO4 ?_
    by_cases h1:1<((48:UInt8)::r).length
    ·refine kT ?_
     exact aj
    ·refine kE ?_
     have hq:eF s=true:=hc.resolve_left h1;rw[hq];exact aj
 ·rw[ws (fun h=>hl h.1),z0]
  refine kU func346 ?_;refine Af ?_;exact aj
def SS (l:List UInt8):List AV:=l.map fun c=>AV.val (.int .u8 c.toNat)
def Vo (l:List UInt8):DV:= .leaf (.sl l.length (SS l))
theorem Sv {l:List UInt8} {i:Nat} {c:UInt8} (h:l[i]? =some c):∀(j:Nat) (a:AV),[AV.val (.int .u8 c.toNat)][j]? =some a->(SS l)[i*1+j]? =some a:=by
 intro j a hj
 match j,hj with
 |0,hj=>unfold SS;rw[o_,Nat.add_zero,List.getElem?_map,h];exact hj
section
variable {P:Program} {T:TypeId->Option Ty} {n:Nat} {ops:Array Oper} {id:Nat} {draw:Bool} {K:AS->Prop} {s:AS} {k:Nat} {o:Oper} {os:List Oper} {fps:List FP}
theorem Tw (hT:∀t d,T t=some d->a8 P t d) {t t' et:TypeId} {ty ty' te:Ty} {x:Operand} {l:List UInt8} (hl:l.length<=9223372036854775807) (h1:gd ops s o=some true) (h2:o.op= .convert t t' x) (h5:T t=some ty) (h6:ty.isStr=true) (h9:T t'=some ty') (h10:ty'.elem=some (et,1)) (h7:T et=some te) (h8:te.ik=some .u8) (h11:s.ev x= .d (.leaf (.val (vL l))))
 (h3:aL n o.dst=true) (h4:fg draw ops (aA ops o ⟨.d (Vo l),none⟩ []) k fps=true) (h:ar P T n ops id draw K (k+1) os (s.eff o.dst ⟨.d (Vo l),none⟩) (aA ops o ⟨.d (Vo l),none⟩ []::fps)):ar P T n ops id draw K k (o::os) s fps:=by
 refine .run h1 (.gen fun s2 ht _=>?_) h3 h4 h;have hx:=(aw ht (x:=x) (by simp[h2,Op.operands])).trans h11;have hu:=pm (hT _ _ h5) h6;obtain⟨d,hd,_,hel,_⟩:=(hT _ _ h9).und;obtain⟨rfl,_⟩:=hel et 1 h10;obtain⟨d2,hd2,_,_,_,_,_,hik,_⟩:=(hT _ _ h7).und;obtain rfl:=hik _ h8;refine ak fun n S0 w0 g a w hM=>?_
 have hsz:=aJ l;have hge:=grownCap_ge w l.length 0 et;have hle:=grownCap_le_maxLen w l.length 0 et (by unfold maxLen;omega);obtain⟨C,hC⟩:∃C,grownCap w l.length 0 et=C:=⟨_,rfl⟩;rw[hC]at hge hle;have hrun:=run_bytes_of_string w t t' et (Bs l) hu hd hd2;rw[hsz,hC]at hrun;have hb:Below w.heap.size w (w.drew.alloc (.cells (bytesRow (Bs l) C) et ((bytesRow (Bs l) C).size,(bytesRow (Bs l) C).size+1))):=((Below.refl _ w).drew).alloc (l_ _) _;refine⟨.slice (some ⟨w.heap.size,0,none⟩) l.length C,_,?_,hb,?_⟩
 ·unfold execOp
  rw[h2]
  simp only[a7 hM hx,vL,Y_,hrun,R_,a_]
 ·refine AV.M.sl (fun i=> .int .u8 ((l.getD i 0).toNat:Int)) hge (by unfold maxLen at hle;omega) ?_ (by show w.heap.size<(w.heap.push _).size;simp) (fun i c hi=>?_) (fun i c hi=>?_)
  ·intro hO
   exact absurd (hM.own_lt hO) (Nat.lt_irrefl _)
  ·have hil:i<l.length:=by have:=(G_.1 hi).1;simpa[SS]using this
   have h3:(w.drew.alloc (.cells (bytesRow (Bs l) C) et ((bytesRow (Bs l) C).size,(bytesRow (Bs l) C).size+1))).heap[w.heap.size]? =some (.cells (bytesRow (Bs l) C) et ((bytesRow (Bs l) C).size,(bytesRow (Bs l) C).size+1)):=heap_alloc_new w.drew _;rw[J_]
   simp only[World.cell?,h3]
   have:=bytesRow_at (Bs l) C i (by show i<(Bs l).data.size;simpa[Bs]using hil);show(match(bytesRow (Bs l) C)[i]? with|v=>v)=_;refine Eq.trans this ?_
   simp[Bs,hil]
  ·have hil:i<l.length:=by have:=(G_.1 hi).1;simpa[SS]using this
   have:c= .val (.int .u8 ((l.getD i 0).toNat:Int)):=by
    unfold SS at hi;rw[List.getElem?_map,Q_ hil]at hi
    simp at hi
    rw[<- hi]
    simp[hil]
   rw[this];exact .val rfl
end
theorem nL (l:List UInt8) (c:UInt8):aa Tryz.prog 148 [dL l,dL [c]] (.one (dN .i64 (Lib.indexByte l c))):=by
 refine⟨aG func148 rfl rfl,fun S w vs hS hv=>?_⟩
 match vs,hv with
 | [v,u],⟨h1,h2,_⟩=>
  obtain rfl:=bc h1;obtain rfl:=bc h2;refine(Tryz.stringslite_Index_one (Bs l) c w).mono ?_;rintro e w' ⟨rfl,rfl⟩;exact⟨_,rfl,AV.M.val rfl,Below.refl _ _⟩
theorem wW {l:List UInt8} {c:UInt8} (h:c ∉ l):Lib.indexByte l c= -1:=by
 induction l with
 |nil=>rfl
 |cons b l ih=>
  have h1:(b == c)=false:=beq_eq_false_iff_ne.2 (fun e=>h (by simp[e]));unfold Lib.indexByte;rw[h1,ih (fun e=>h (by simp[e]))];rfl
theorem wI {a b:List UInt8} {c:UInt8} (h:c ∉ a):Lib.indexByte (a++c::b) c=a.length:=by
 induction a with
 |nil=>simp[Lib.indexByte]
 |cons x a ih=>
  have h1:(x == c)=false:=beq_eq_false_iff_ne.2 (fun e=>h (by simp[e]));rw[List.cons_append];unfold Lib.indexByte;rw[h1,ih (fun e=>h (by simp[e]))];have:(((a.length:Nat):Int) == -1)=false:=beq_eq_false_iff_ne.2 O_
  simp only[Bool.false_eq_true,if_false,this]
  simp
theorem NG {a b:List UInt8} {c:UInt8} (h:c ∉ a) (hl:a.length+b.length<=1000000000):aa Tryz.prog 107 [dL (a++c::b),dL [c]] (.tup [dL a,dL b,dB true]):=by
 have c1:=nL (a++c::b) c;rw[wI h]at c1;have e1:(a++c::b).take a.length=a:=S_
 have e2:(a++c::b).drop (a.length+1)=b:=by rw[<- List.drop_drop];simp
 refine kU func107 ?_;refine iQ ?_;refine PX af (l:=a++c::b) (i:=a.length) S_ rfl rfl rfl rfl rfl rfl rfl rfl ?_
 refine kO4 ?_
 refine cU (v':= .int .i64 (((a.length+1:Nat):Int))) rfl rfl rfl rfl ?_ ?_
 ·exact congrArg (Value.int .i64) (by show IntKind.i64.wrap ((a.length:Int)+1)=_;rw[IntWalk.i64_in _ O_];omega)
 refine zi af (l:=a++c::b) (i:=a.length+1) S_ rfl rfl rfl rfl rfl rfl rfl rfl ?_;refine kW ?_;rw[e1,e2];exact bK (T:=TT) rfl rfl
theorem AT {a:List UInt8} {c:UInt8} (h:c ∉ a):aa Tryz.prog 107 [dL a,dL [c]] (.tup [dL a,dL [],dB false]):=by
 have c1:=nL a c;rw[wW h]at c1;refine kU func107 ?_;exact kx
theorem St {a b:List UInt8} {c:UInt8} (h:c ∉ a) (hl:a.length+b.length<=1000000000):aa Tryz.prog 64 [dL (a++c::b),dL [c]] (.tup [dL a,dL b,dB true]):=by
 refine kV func64 ?_;refine kC (NG h hl) ?_;exact aj
theorem oT {a:List UInt8} {c:UInt8} (h:c ∉ a):aa Tryz.prog 64 [dL a,dL [c]] (.tup [dL a,dL [],dB false]):=by
 refine kV func64 ?_;refine kC (AT h) ?_;exact aj
theorem m4 (l:List UInt8):aa Tryz.prog 345 [dL l,dL [48]] (.one (dL (l.dropWhile (· == 48)))):=by
 refine⟨aG func345 rfl rfl,fun S w vs hS hv=>?_⟩
 match vs,hv with
 | [v,u],⟨h1,h2,_⟩=>
  obtain rfl:=bc h1;obtain rfl:=bc h2;refine(Tryz.strings_TrimLeft_one (Bs l) 48 D_ w).mono ?_;rintro e w' ⟨rfl,rfl⟩;exact⟨_,rfl,AV.M.val rfl,Below.refl _ _⟩
def fQ (na:Bool) (xs:List Nat) (nb:Bool) (ys:List Nat):Bool:=eV na xs && eV nb ys && decide (0<bI nb ys) && decide (Nat.gcd (val xs) (val ys)=1)
theorem p6 {na:Bool} {xs:List Nat} (hw:Wd xs) (h:eV na xs=true):xs=digs (bI na xs).natAbs/\na=decide (bI na xs<0):=by
 unfold eV at h;rw[B_]at h;have h1:=h_ h.1;have hp:=(kb hw).1;rw[h1,List.take_length]at hp;rw[eY];refine⟨hp,?_⟩;cases na
 ·exact(F_ (by unfold bI;simp)).symm
 ·have h2:=h.2
  simp at h2
  have:val xs≠0:=fun e=>by
   rw[hp]at h2;unfold trim at h2;rw[e,aK]at h2
   simp at h2
  exact(T_ (by unfold bI;simp;omega)).symm
theorem pu {na nb:Bool} {xs ys:List Nat} (hw:Wd xs) (hw':Wd ys) (h:fQ na xs nb ys=true):∃q:Rat,ED na xs nb ys=aQ q/\xs=digs q.num.natAbs/\ys=digs (q.den:Int).natAbs:=by
 unfold fQ at h
 simp only[B_,decide_eq_true_eq]at h
 obtain⟨⟨⟨h1,h2⟩,h3⟩,h4⟩:=h;obtain⟨e1,e2⟩:=p6 hw h1;obtain⟨e3,e4⟩:=p6 hw' h2;have hd:((bI nb ys).toNat:Int)=bI nb ys:=O_
 refine⟨⟨bI na xs,(bI nb ys).toNat,by omega,?_⟩,?_,e1,?_⟩
 ·rw[eY,show(bI nb ys).toNat=(bI nb ys).natAbs by omega,eY];exact h4
 ·show aI na xs++aI nb ys=aZ (bI na xs)++aZ ((bI nb ys).toNat:Int)
  rw[hd];unfold aZ;rw[<- e1,<- e2,<- e3,<- e4]
 ·show ys=digs ((bI nb ys).toNat:Int).natAbs
  rw[hd];exact e3
theorem l7 (q:Rat):fQ (decide (q.num<0)) (digs q.num.natAbs) (decide ((q.den:Int)<0)) (digs (q.den:Int).natAbs)=true:=by
 unfold fQ;rw[rJ,rJ,aV,ah,ah,T_ (bT q),T_ (by rw[b_];exact q.reduced)];rfl
theorem qe {na nb:Bool} {xs ys:List Nat} (hw:Wd xs) (hw':Wd ys) (h1:lx xs) (h2:lx ys) {b:Bool} (hb:fQ na xs nb ys=b):aa Tryz.prog 173 [Lq na xs nb ys] (.one (dB b)):=by
 subst hb;unfold fQ;cases c1:eV na xs
 ·refine Ki ?_
  exact aj
 cases c2:eV nb ys
 ·refine Ki ?_
  refine kW ?_;refine kC (me (na:=nb) hw' c2) ?_;exact aj
 by_cases c3:0<bI nb ys
 ·have hc:decide (Nat.gcd (val xs) (val ys)=1)=decide (((Nat.gcd (val xs) (val ys):Nat):Int)=1):=by by_cases h:Nat.gcd (val xs) (val ys)=1<;>simp[h]<;>omega
  rw[T_ c3,hc];refine P4 ?_;refine kQ (iP (na:=nb) hw' (Int.sign_eq_one_of_pos c3)) ?_;refine kQ (At (na:=na) (nb:=nb) hw hw' h1 h2) ?_;refine kC (bF rfl) ?_;exact aj
 ·rw[F_ c3]
  obtain⟨z,hz,hz0⟩:∃z,(bI nb ys).sign=z/\ ¬z > 0:=⟨_,rfl,fun h=>c3 (Int.sign_pos_iff.1 h)⟩;refine P4 ?_;refine kC (iP (na:=nb) hw' hz) ?_;refine kB false ?_ ?_
  ·exact F_ hz0
  exact aj
theorem yG {k:Nat} (q:Rat) (h:b8 k q) (hk:k<=2147483648):aa Tryz.prog 173 [dQ q] (.one (dB true)):=qe (ae _) (ae _) (V_ h.1.digs hk) (V_ h.2.digs hk) (l7 q)
theorem mY {na nb:Bool} {xs ys:List Nat} (hw:Wd xs) (hw':Wd ys) (h1:lx xs) (h2:lx ys) {b:Bool} (hb:fQ na xs nb ys=b):aa Tryz.prog 155 [Lq na xs nb ys] (.one (dB b)):=by
 subst hb;unfold fQ;cases c1:eV na xs
 ·refine K9 ?_
  exact aj
 cases c2:eV nb ys
 ·refine K9 ?_
  refine kW ?_;refine kC (kM (na:=nb) hw' c2) ?_;exact aj
 by_cases c3:0<bI nb ys
 ·have hc:decide (Nat.gcd (val xs) (val ys)=1)=decide (((Nat.gcd (val xs) (val ys):Nat):Int)=1):=by by_cases h:Nat.gcd (val xs) (val ys)=1<;>simp[h]<;>omega
  rw[T_ c3,hc];refine Py ?_;refine kQ (l8 (na:=nb) hw' (Int.sign_eq_one_of_pos c3)) ?_;refine kQ (vj (na:=na) (nb:=nb) hw hw' h1 h2) ?_;refine kC (bP rfl) ?_;exact aj
 ·rw[F_ c3]
  obtain⟨z,hz,hz0⟩:∃z,(bI nb ys).sign=z/\ ¬z > 0:=⟨_,rfl,fun h=>c3 (Int.sign_pos_iff.1 h)⟩;refine Py ?_;refine kC (l8 (na:=nb) hw' hz) ?_;refine kB false ?_ ?_
  ·exact F_ hz0
  exact aj
theorem wZ {k:Nat} (q:Rat) (h:b8 k q) (hk:k<=2147483648):aa Tryz.prog 155 [dQ q] (.one (dB true)):=mY (ae _) (ae _) (V_ h.1.digs hk) (V_ h.2.digs hk) (l7 q)
theorem PA {xs:List Nat} {i x:Nat} (h:xs[i]? =some x):∀(j:Nat) (a:AV),[AV.val (bZ x)][j]? =some a->(xs.map fun x:Nat=>AV.val (bZ x))[i*1+j]? =some a:=by
 exact Pg
theorem yR {na nb:Bool} {xs ys:List Nat} (h:xs≠ys):sameB na nb xs ys=false:=by unfold sameB;rw[F_ h,Bool.and_false]
theorem th {na:Bool} {xs ys:List Nat} (h:xs=ys):sameB na na xs ys=true:=by unfold sameB;rw[T_ h];cases na<;>rfl
theorem lX {na nb:Bool} {xs ys:List Nat} (hl:xs.length<=2147483648) {b:Bool} (hb:sameB na nb xs ys=b):aa Tryz.prog 59 [dI na xs,dI nb ys] (.one (dB b)):=by
 subst hb
 by_cases hn:na=nb
 ·subst hn
  by_cases hxy:xs.length=ys.length
  ·cases na
   ·refine CT ?_
    refine kB false ?_ ?_
    ·exact(by simp[hxy])
    refine kW ?_;refine aq Nat (fun j=>j<=xs.length/\ ∀i,i<j->xs[i]? =ys[i]?) (fun j=>⟨[(2, .box 0 0),(3, .box 1 0),(5, .d (dN .i64 j))],[(0,some (aI false xs)),(1,some (aI false ys))]⟩) (fun j=>xs.length-j) 0 ⟨Nat.zero_le _,fun i h=>absurd h (Nat.not_lt_zero _)⟩ kw ?_;exact Tp
   ·refine CT ?_
    refine kB false ?_ ?_
    ·exact(by simp[hxy])
    refine kW ?_;refine aq Nat (fun j=>j<=xs.length/\ ∀i,i<j->xs[i]? =ys[i]?) (fun j=>⟨[(2, .box 0 0),(3, .box 1 0),(5, .d (dN .i64 j))],[(0,some (aI true xs)),(1,some (aI true ys))]⟩) (fun j=>xs.length-j) 0 ⟨Nat.zero_le _,fun i h=>absurd h (Nat.not_lt_zero _)⟩ kw ?_;exact Tp
  ·rw[yR (fun e=>hxy (by rw[e]))]
   cases na
   ·refine CT ?_
    refine kB true ?_ ?_
    ·exact(by simp;omega)
    exact aj
   ·refine CT ?_
    refine kB true ?_ ?_
    ·exact(by simp;omega)
    exact aj
 ·have e:sameB na nb xs ys=false:=by unfold sameB;cases na<;>cases nb<;>first|rfl|exact absurd rfl hn
  rw[e];cases na<;>cases nb
  ·exact absurd rfl hn
  ·refine kU func59 ?_
   exact aj
  ·refine kU func59 ?_
   exact aj
  ·exact absurd rfl hn
theorem C0 {z:Int} {k:Nat} (h:Sz k z):(fmt z).length<=10*k+2:=by
 have h1:(mE z.natAbs).length<=10*k:=qJ _ _ (k_ h (by rw[Nat.pow_mul];exact Nat.pow_le_pow_left D_ _));unfold fmt
 split
 ·simp
 ·rw[L_]
  have:(if z<0 then [45]else []:List UInt8).length<=1:=by split <;>simp
  omega
theorem Sw:dZ 0= .agg [.val (.bool false), .sl 0 []]:=by unfold dZ;rw[e0]
def yM (l:List UInt8):Bool:=l.all uM && !decide (l=[])
theorem gU {l:List UInt8}:yM l=true↔(∀c∈l,gv c)/\l≠[]:=by
 unfold yM
 simp[I_,iR]
theorem ff {l:List UInt8} (hl:l.length<=1000000000) {b:Bool} (hb:yM l=b):aa Tryz.prog 344 [dL l] (.one (dB b)):=by
 subst hb;have hsz:=aJ l;refine kV func344 ?_;refine Tw af (l:=l) O_ rfl rfl rfl rfl rfl rfl rfl rfl rfl rfl rfl ?_;refine kW ?_;refine aq Nat (fun j=>j<=l.length/\ ∀i c,i<j->l[i]? =some c->gv c) (fun j=>⟨[(0, .d (dL l)),(6, .d (Vo l)),(7, .d (dN .i64 l.length)),(8, .d (dN .i64 j))],[]⟩) (fun j=>l.length-j) 0 ⟨Nat.zero_le _,fun i c h=>absurd h (Nat.not_lt_zero _)⟩ kw ?_;rintro j ⟨hj,hall⟩;refine kW ?_;refine ir rfl (fun h=>?_) (fun h=>?_)
 ·have hlt:j<l.length:=by have:=h_ h;omega
  obtain⟨c,hc⟩:∃c,l[j]=c:=⟨_,rfl⟩;have hcj:l[j]? =some c:=by rw[Q_ hlt,hc]
  refine kW ?_;refine aH (cs':=[AV.val (.int .u8 c.toNat)]) hlt (Sv hcj) (m_ 0) rfl rfl rfl rfl rfl rfl rfl rfl ?_;refine lC ?_
  by_cases h1:c.toNat<48
  ·exact PD
  ·refine kE ?_
   refine kO2 ?_
   by_cases h2:57<c.toNat
   ·exact PD
   ·refine kE ?_
    refine kW ?_;refine⟨j+1,⟨hlt,fun i c' hi hp=>?_⟩,by omega,weak ⟨rfl,rfl,rfl,?_,trivial⟩ trivial rfl⟩
    ·rcases Nat.lt_succ_iff_lt_or_eq.1 hi with h3|rfl
     ·exact hall i c' h3 hp
     ·have:c'=c:=by rw[hcj]at hp;exact(Option.some.inj hp).symm
      rw[this];unfold gv;omega
    ·exact ai O_ O_
 ·have hge:j=l.length:=by have:=of_decide_eq_false h;omega
  refine iA ?_;refine kI ?_;refine kO ?_;refine ax rfl rfl rfl rfl rfl rfl rfl (tX (a:=l) (b:=[])) ?_;refine kW ?_
  have ha:l.all uM=true:=I_.2 fun c hc=>iR.2 (by
   obtain⟨i,hi⟩:=W_ hc;exact hall i c (by rw[hge];exact(G_.1 hi).1) hi)
  rw[show yM l=!decide (l=[]) by unfold yM;rw[ha];rfl];exact bK (T:=TT) rfl rfl
theorem LU {l:List UInt8} (h:∀c∈l,gv c):eF l=false/\mK l=l:=by
 have:=RY (b:=false) (l:=l) (fun c r e=>h c (by rw[e];simp))
 simp at this
 exact⟨this.2,this.1⟩
open Classical in
theorem Cc {l:List UInt8} (h:∀c∈l,gv c) (hl:l.length<=65536):pz l=if jN false l then((num l:Int),0)else(0,2):=by
 obtain⟨h1,h2⟩:=LU h
 by_cases ho:jN false l
 ·rw[if_pos ho,Pf ⟨hl,by rw[h1,h2];exact ho⟩,h1,h2];rfl
 ·rw[if_neg ho,ws (fun e=>ho (by have:=e.2;rwa[h1,h2]at this))]
theorem ja {l:List UInt8} (hl:l.length<=65536) (h:jN false l):aa Tryz.prog 335 [dL l] (.tup [dZ (num l),dB true]):=by
 have c1:=j9 l;rw[Cc (el h) hl,if_pos h]at c1;refine kV func335 ?_;refine ac (ff (b:=true) (V_ hl D_) (gU.2 ⟨el h,h.1⟩)) rfl rfl rfl rfl rfl rfl rfl ?_;exact kx
theorem fe {l:List UInt8} (hl:l.length<=65536) (h:¬jN false l):aa Tryz.prog 335 [dL l] (.tup [dZ 0,dB false]):=by
 by_cases hd:yM l=true
 ·have c1:=j9 l
  rw[Cc (gU.1 hd).1 hl,if_neg h]at c1;refine kV func335 ?_;refine ac (ff (b:=true) (V_ hl D_) hd) rfl rfl rfl rfl rfl rfl rfl ?_;exact kx
 ·rw[Sw]
  refine kV func335 ?_;refine ac (ff (b:=false) (V_ hl D_) (by simpa using hd)) rfl rfl rfl rfl rfl rfl rfl ?_;exact aj
theorem zh (k:Nat):(max 1 (10:Int).natAbs)^k<4294967296^(k+1):=by
 show 10^k<_
 have h1:(10:Nat)^k<=4294967296^k:=Nat.pow_le_pow_left D_ _;have h2:0<(4294967296:Nat)^k:=Nat.pow_pos D_
 rw[Nat.pow_succ];omega
theorem sr (k:Nat):Sz (k+1) ((10:Int)^k):=by
 unfold Sz;rw[Int.natAbs_pow];exact zh k
theorem Uw:db 10:= .small D_
theorem Sz.of_pow {k j e:Nat} {y:Int} (h:Sz k y) (hj:k+e<=j):Sz j (y*10^e):=by
 refine Sz.mono (j:=k+e) ?_ hj;unfold Sz at *;rw[Int.natAbs_mul,Int.natAbs_pow,Nat.pow_add];have h1:(10:Int).natAbs^e<=4294967296^e:=Nat.pow_le_pow_left D_ _;exact Nat.lt_of_le_of_lt (Nat.mul_le_mul_left _ h1) (Nat.mul_lt_mul_of_pos_right h (Nat.pow_pos D_))
theorem PJ (e:Nat) (he:e<=4096):∃t:Int,(∀y:Int,∀m,e<=m->y*t*10^(m-e)=y*10^m)/\(∀(k j:Nat) (y:Int),Sz k y->k+e<=j->Sz j (y*t))/\db t/\(10:Int)^e=t/\aa Tryz.prog 357 [dZ 10,dN .i64 e] (.tup [dZ t,dN .i64 0]):=by
 refine⟨10^e,fun y m hm=>?_,fun k j y h hj=>h.of_pow hj,(sr e).fit O_,rfl,FI he O_ (zh e) Uw rfl⟩;rw[Int.mul_assoc,<- Int.pow_add,show e+(m-e)=m by omega]
theorem Bo {n:Nat} (hn:n<=65536) {z:Int} (hz:(10:Int)^n=z):aa Tryz.prog 347 [dN .i64 n] (.one (dZ z)):=by
 refine kV func347 ?_;refine kQ (Ax) ?_;refine aq (Nat × Int) (fun p=>p.1<=n/\p.2*10^p.1=z/\Sz (n-p.1+1) p.2) (fun p=>⟨[(0, .d (dN .i64 p.1)),(2, .box 0 0),(3, .box 1001 0)],[(0,some [.val (.bool false), .sl 0 []]),(1001,some (aZ p.2))]⟩) (fun p=>p.1) (n,1) ⟨l_ _,by rw[Int.one_mul];exact hz,(Sz.small (z:=1) D_).mono O_⟩ kw ?_;rintro⟨m,y⟩ ⟨hm,hy,hs⟩;dsimp only at hm hy hs ⊢;refine kW ?_;refine ir rfl (fun h=>?_) (fun h=>?_)
 ·have h4:4096<m:=by have:=h_ h;omega
  obtain⟨t,t1,t2,t3,_,t4⟩:=PJ 4096 (l_ _);refine PC ?_;refine⟨(m-4096,y*t),⟨by omega,?_,?_⟩,by dsimp only;omega,weak ⟨?_,rfl,rfl,trivial⟩ ⟨rfl,rfl,trivial⟩ rfl⟩
  ·exact(t1 y m O_).trans hy
  ·exact t2 _ _ y hs (by dsimp only;omega)
  ·exact ai O_ O_
 ·have h4:m<=4096:=by have:=of_decide_eq_false h;omega
  obtain⟨t,_,_,t3,ht,t4⟩:=PJ m h4;refine iA ?_;refine PC ?_;rw[<- hy,ht];exact bK (T:=TT) rfl rfl
theorem fi {l:List UInt8} (h:∀c∈l,gv c):Sz l.length (num l:Int):=by
 unfold Sz;rw[b_];exact k_ (wM _ l rfl h) (Nat.pow_le_pow_left D_ _)
theorem xS {a b:List UInt8} (hl:a.length+b.length<=65536) (ha:jN false a) (hb:b≠[]) (hd:∀x∈b,gv x) {q:Rat} (hq:Rat.divInt ((num a*10^b.length+num b:Nat):Int) ((10^b.length:Nat):Int)=q):aa Tryz.prog 334 [dL a,dL b] (.tup [dQ q,dB true]):=by
 obtain⟨p,hp⟩:∃p,(10:Int)^b.length=p:=⟨_,rfl⟩;have hpc:((10^b.length:Nat):Int)=p:=by rw[<- hp,Int.natCast_pow];rfl
 have hp0:p≠0:=by rw[<- hpc];have:=Nat.pow_pos (a:=10) (n:=b.length) D_;omega
 have sp:Sz (b.length+1) p:=by rw[<- hp];exact sr _
 have sa:=fi (el ha);have sb:=fi hd;have hn:((num a*10^b.length+num b:Nat):Int)=(num a:Int)*p+num b:=by rw[Int.natCast_add,Int.natCast_mul,hpc]
 rw[hn,hpc]at hq;have sn:Sz (a.length+b.length+2) ((num a:Int)*p+num b):=(sa.mul sp).add (sb.mono O_);have c2:=j9 (H2 b);have htl:(H2 b).length<=b.length:=(List.dropWhile_sublist _).length_le;have htd:∀c∈H2 b,gv c:=fun c hc=>hd c ((List.dropWhile_sublist _).subset hc)
 rw[Cc htd O_,Dz]at c2
 by_cases ht:H2 b=[]
 ·have hb0:num b=0:=by rw[<- Dz,ht];rfl
  rw[hb0]at hq sn;refine Jw ?_;refine ac (ff (b:=true) O_ (gU.2 ⟨hd,hb⟩)) rfl rfl rfl rfl rfl rfl rfl ?_;refine kW ?_;refine kC (m4 b) ?_;refine kN ?_;refine gy ?_;refine ax rfl rfl rfl rfl rfl rfl rfl (kf (a:=H2 b) (b:=[]) ht) ?_;refine OX ?_;refine ac (z8 (na:=decide ((num a:Int)*p<0)) (xs:=digs ((num a:Int)*p).natAbs) (nb:=false) (ys:=[]) (ae _) Wd.nil ((sa.mul sp).fit O_) (by unfold lx;simp) (z:=(num a:Int)*p+(0:Nat)) (by rw[aV];rfl)) rfl rfl rfl rfl rfl rfl rfl ?_;exact OF
 ·rw[if_pos (Sq hd ht)]at c2
  refine Jw ?_;refine ac (ff (b:=true) O_ (gU.2 ⟨hd,hb⟩)) rfl rfl rfl rfl rfl rfl rfl ?_;refine kW ?_;refine kC (m4 b) ?_;refine kN ?_;refine gy ?_;refine ax rfl rfl rfl rfl rfl rfl rfl (mS (a:=H2 b) (b:=[]) ht) ?_;refine kW ?_;refine kC (c2) ?_;refine OX ?_;refine ac (oV ((sa.mul sp).fit O_) (sb.fit O_)) rfl rfl rfl rfl rfl rfl rfl ?_;exact OF
theorem uY {a b:List UInt8} (hl:a.length+b.length<=65536) (h:¬(jN false a/\b≠[]/\ ∀x∈b,gv x)):aa Tryz.prog 334 [dL a,dL b] (.tup [GP,dB false]):=by
 by_cases ha:jN false a
 ·refine Jw ?_
  refine ac (ff (l:=b) (b:=false) O_ (Bool.eq_false_iff.2 fun hb=>h ⟨ha,(gU.1 hb).2,(gU.1 hb).1⟩)) rfl rfl rfl rfl rfl rfl rfl ?_;exact aj
 ·refine kV func334 ?_;refine ac (fe O_ ha) rfl rfl rfl rfl rfl rfl rfl ?_;exact aj
theorem uK {a b:List UInt8} (hl:a.length+b.length<=65536) (h:jN false a/\jN false b/\num b≠0/\num b≠1/\Nat.gcd (num a) (num b)=1) {q:Rat} (hq:Rat.divInt (num a:Int) (num b:Int)=q):aa Tryz.prog 333 [dL a,dL b] (.tup [dQ q,dB true]):=by
 obtain⟨h1,h2,h3,h4,h5⟩:=h;have sa:=fi (el h1);have sb:=fi (el h2)
 have e:q.num=num a/\q.den=num b:=by
  refine Lh (Nat.pos_of_ne_zero h3) (by rw[b_];exact h5) ?_;have h0:(q.den:Int)≠0:=by have:=bT q;omega
  have:=(Rat.divInt_eq_divInt_iff h0 (show(num b:Int)≠0 by omega)).1 ((rU q).trans hq.symm);exact this.symm
 rw[lV e.1 (d:=num b) (by rw[e.2])];refine Oj ?_;refine ac (lA (sa.fit O_) (sb.fit O_) (g:=1) (by rw[b_,b_];exact h5)) rfl rfl rfl rfl rfl rfl rfl ?_;refine kW ?_;refine kC (bF (b:=true) rfl) ?_;exact aj
theorem rI {a b:List UInt8} (hl:a.length+b.length<=65536) (h:¬(jN false a/\jN false b/\num b≠0/\num b≠1/\Nat.gcd (num a) (num b)=1)):aa Tryz.prog 333 [dL a,dL b] (.tup [GP,dB false]):=by
 by_cases h1:jN false a
 ·by_cases h2:jN false b
  ·have sa:=fi (el h1)
   have sb:=fi (el h2)
   by_cases h3:num b=0
   ·refine Lb ?_
    refine KA ?_;refine kW ?_;refine ac (dj (T_ (show(num b:Int)=0 by omega))) rfl rfl rfl rfl rfl rfl rfl ?_;exact aj
   ·by_cases h4:num b=1
    ·refine UA ?_
     refine ac (bF (T_ (show(num b:Int)=1 by omega))) rfl rfl rfl rfl rfl rfl rfl ?_;exact aj
    ·obtain⟨g,hg⟩:∃g,Nat.gcd (num a) (num b)=g:=⟨_,rfl⟩
     have hg1:g≠1:=fun e=>h ⟨h1,h2,h3,h4,hg.trans e⟩
     refine Oj ?_;refine ac (lA (sa.fit O_) (sb.fit O_) (g:=g) (by rw[b_,b_];exact hg)) rfl rfl rfl rfl rfl rfl rfl ?_;refine kW ?_;refine ac (bF (F_ (show ¬(g:Int)=1 by omega))) rfl rfl rfl rfl rfl rfl rfl ?_;exact aj
  ·refine Lb ?_
   refine ac (fe O_ h2) rfl rfl rfl rfl rfl rfl rfl ?_;exact aj
 ·by_cases h2:jN false b
  ·refine kV func333 ?_;refine ac (fe O_ h1) rfl rfl rfl rfl rfl rfl rfl ?_;refine kW ?_;refine KA ?_;exact aj
  ·refine kV func333 ?_;refine ac (fe O_ h1) rfl rfl rfl rfl rfl rfl rfl ?_;refine kW ?_;refine ac (fe O_ h2) rfl rfl rfl rfl rfl rfl rfl ?_;exact aj
theorem yX {c:UInt8} {t:List UInt8} (h:c∈t):∃a b,t=a++c::b/\c ∉ a:=by
 induction t with
 |nil=>cases h
 |cons x t ih=>
  by_cases hx:x=c
  ·subst hx;exact⟨[],t,rfl,by simp⟩
  ·have h':c∈t:=by
    rcases f_.1 h with e|e
    ·exact absurd e.symm hx
    ·exact e
   obtain⟨a,b,rfl,hn⟩:=ih h'
   exact⟨x::a,b,rfl,fun e=>by
    rcases f_.1 e with e|e
    ·exact hx e.symm
    ·exact hn e⟩
theorem lM {t:List UInt8} (hl:t.length<=65536):(∃q,jr t=some q/\b8 200000 q/\aa Tryz.prog 329 [dL t] (.tup [dQ q,dB true]))∨(jr t=none/\ ∃x,(x=GP∨x= .agg (aZ 0++aZ 1))/\aa Tryz.prog 329 [dL t] (.tup [x,dB false])):=by
 by_cases h47:47∈t
 ·obtain⟨a,b,rfl,ha⟩:=yX h47
  have hab:a.length+b.length<=65536:=by simp at hl;omega
  rw[F2 ha]
  by_cases h:jN false a/\jN false b/\num b≠0/\num b≠1/\Nat.gcd (num a) (num b)=1
  ·rw[if_pos h]
   refine .inl ⟨_,rfl, .divInt ((fi (el h.1)).mono O_) ((fi (el h.2.1)).mono O_) (by have:=h.2.2.1;omega),?_⟩;refine kU func329 ?_;refine DJ ?_;refine kC (uK hab h rfl) ?_;exact aj
  ·rw[if_neg h]
   refine .inr ⟨rfl,GP, .inl rfl,?_⟩;refine kU func329 ?_;refine DJ ?_;refine kC (rI hab h) ?_;exact aj
 by_cases h46:46∈t
 ·obtain⟨a,b,rfl,ha⟩:=yX h46
  have hab:a.length+b.length<=65536:=by simp at hl;omega
  rw[NH h47 ha]
  by_cases h:jN false a/\b≠[]/\ ∀x∈b,gv x
  ·rw[if_pos h]
   have hp0:((10^b.length:Nat):Int)≠0:=by have:=Nat.pow_pos (a:=10) (n:=b.length) D_;omega
   have s1:Sz 200000 ((10^b.length:Nat):Int):=by rw[Int.natCast_pow];exact(sr b.length).mono O_
   have s2:Sz 200000 ((num a*10^b.length+num b:Nat):Int):=by
    rw[Int.natCast_add,Int.natCast_mul,Int.natCast_pow];exact(((fi (el h.1)).of_pow (j:=131072) O_).add ((fi h.2.2).mono O_)).mono O_
   refine .inl ⟨_,rfl, .divInt s2 s1 hp0,?_⟩;refine Du ?_;refine DJ ?_;refine kC (xS hab h.1 h.2.1 h.2.2 rfl) ?_;exact aj
  ·rw[if_neg h]
   refine .inr ⟨rfl,GP, .inl rfl,?_⟩;refine Du ?_;refine DJ ?_;refine kC (uY hab h) ?_;exact aj
 rw[Jv h47 h46]
 by_cases h:jN false t
 ·rw[if_pos h]
  refine .inl ⟨_,rfl,⟨(fi (el h)).mono O_,(Sz.small (z:=1) D_).mono O_⟩,?_⟩;refine Du ?_;refine kW ?_;refine kQ (oT h46) ?_;refine kC (ja hl h) ?_;exact y8
 ·rw[if_neg h]
  refine .inr ⟨rfl,_, .inr rfl,?_⟩;refine Du ?_;refine kW ?_;refine kQ (oT h46) ?_;refine kC (fe hl h) ?_;exact y8
theorem Bf {s:List UInt8} {q:Rat} (h:ge s=some q):aa Tryz.prog 313 [dL s] (.tup [dQ q,dN .i64 0]):=by
 have hsz:=aJ s;unfold ge at h
 split at h
 ·rename_i hl
  have hdl:=q9 s;rcases lM (t:=mK s) O_ with⟨p,hp,sp,c1⟩| ⟨hp,_⟩
  ·rw[hp]at h
   dsimp only at h;cases hn:eF s
   ·rw[hn]at h
    simp only[Bool.false_eq_true,if_false,X_]at h
    subst h;refine vm ?_;refine qz ?_;refine kW ?_;refine kC (c1) ?_;refine jU ?_;refine kB false ?_ ?_
    ·exact hn
    refine kW ?_;refine d4 (T:=TT) rfl ?_ ?_
    ·exact hn
    exact aj
   ·rw[hn]at h
    simp only[if_true]at h
    split at h
    ·cases h
    ·rename_i hp0
     cases h;have h0:¬p.num=0:=fun e=>hp0 (Rat.num_eq_zero.1 e)
     refine vm ?_;refine qz ?_;refine kW ?_;refine kC (c1) ?_;refine jU ?_;refine kB true ?_ ?_
     ·exact hn
     refine kW ?_;refine kQ (dj (F_ h0)) ?_;refine eE (T:=TT) rfl ?_ ?_
     ·exact hn
     refine kW ?_;refine ac (Ad sp D_ rfl) rfl rfl rfl rfl rfl rfl rfl ?_;exact aj
  ·rw[hp]at h;cases h
 ·cases h
theorem z6 {s:List UInt8} (h:ge s=none):aa Tryz.prog 313 [dL s] (.tup [GP,dN .i64 2]):=by
 have hsz:=aJ s
 by_cases hl:s.length<=65536
 ·have hdl:=q9 s
  unfold ge at h;rw[if_pos hl]at h;rcases lM (t:=mK s) O_ with⟨p,hp,sp,c1⟩| ⟨hp,x,hx,c1⟩
  ·rw[hp]at h
   dsimp only at h;cases hn:eF s
   ·rw[hn]at h
    simp at h
   ·rw[hn]at h
    simp only[if_true]at h
    split at h
    ·rename_i hp0
     have h0:p.num=0:=Rat.num_eq_zero.2 hp0;refine vm ?_;refine qz ?_;refine kW ?_;refine kC (c1) ?_;refine jU ?_;refine kB true ?_ ?_
     ·exact hn
     refine kW ?_;refine kC (dj (T_ h0)) ?_;exact aj
    ·cases h
  ·rcases hx with rfl|rfl
   ·refine vm ?_
    refine qz ?_;exact kx
   ·refine vm ?_
    refine qz ?_;exact kx
 ·refine vm ?_
  refine Af ?_;exact aj
def j5 (q:Rat) (p:Int):List AV:=aQ q++[.val (.int .i64 p)]
def mD (q:Rat) (p:Int):DV:= .agg (j5 q p)
def ia:List AV:=jq++[.val (.int .i64 0)]
def yi:DV:= .agg ia
def jH (p:Int):Bool:=decide (-4<=p) && decide (p<=4)
theorem tJ {cs cs':List AV} {o k:Nat} (h:(cs.drop o).take k=cs'):∀(j:Nat) (a:AV),cs'[j]? =some a->cs[o+j]? =some a:=by
 intro j a hj;rw[<- h,List.getElem?_take]at hj
 split at hj
 ·simpa using hj
 ·cases hj
def NC:List (List UInt8 × Rat):=[([99,109],(10:Int)),([102,116],Rat.divInt 1524 5),([105,110],Rat.divInt 127 5),([109],(1000:Int)),([109,109],(1:Int))]
def H7 (s:List UInt8):List (List UInt8 × Rat)->Option Rat
 | []=>none
 |(n,q)::r=>if s=n then some q else H7 s r
def Sk (s:List UInt8):Option Rat:=H7 s NC
def gG:List AV:=[.val (.string ⟨#[99,109]⟩), .val (.int .i64 10), .val (.int .i64 1), .val (.string ⟨#[102,116]⟩), .val (.int .i64 1524), .val (.int .i64 5), .val (.string ⟨#[105,110]⟩), .val (.int .i64 127), .val (.int .i64 5), .val (.string ⟨#[109]⟩), .val (.int .i64 1000), .val (.int .i64 1), .val (.string ⟨#[109,109]⟩), .val (.int .i64 1), .val (.int .i64 1)]
def t7 (s:List UInt8):RV:=match Sk s with
 |some q=> .tup [mD q 1,dB true]
 |none=> .tup [yi,dB false]
theorem zN (s:List UInt8):aa Tryz.prog 184 [dL s] (t7 s):=by
 refine kV func184 ?_;refine s9 6 ?_;refine ct ⟨[(0, .d (dL s)),(2, .box 0 0),(3, .d (dB false)),(6, .d (.leaf (.sl 5 gG))),(7, .d (dN .i64 5)),(8, .d (dN .i64 0))],[(0,some ia)]⟩ kw ?_;refine kW ?_;refine aH (i:=0) (cs':=[.val (vL [99,109]), .val (.int .i64 10), .val (.int .i64 1)]) D_ (tJ (k:=3) rfl) D_ rfl rfl rfl rfl rfl rfl rfl rfl ?_;refine jU ?_
 by_cases h0:s=[99,109]
 ·refine ax rfl rfl rfl rfl rfl rfl rfl (aU (a:=[99,109]) (b:=s) h0.symm) ?_
  refine kW ?_;refine ac (iJ 10 1 D_ D_ D_ D_ (q:=((10:Int):Rat)) (by first|rfl|exact divInt_one _)) rfl rfl rfl rfl rfl rfl rfl ?_;refine kW ?_;have:t7 s= .tup [mD (((10:Int):Rat)) 1,dB true]:=by subst h0;rfl
  exact vW
 refine ax rfl rfl rfl rfl rfl rfl rfl (bC (a:=[99,109]) (b:=s) (fun e=>h0 e.symm)) ?_;refine kW ?_;refine ct ⟨[(0, .d (dL s)),(2, .box 0 0),(3, .d (dB false)),(6, .d (.leaf (.sl 5 gG))),(7, .d (dN .i64 5)),(8, .d (dN .i64 1))],[(0,some ia)]⟩ kw ?_;refine kW ?_;refine aH (i:=1) (cs':=[.val (vL [102,116]), .val (.int .i64 1524), .val (.int .i64 5)]) D_ (tJ (k:=3) rfl) D_ rfl rfl rfl rfl rfl rfl rfl rfl ?_;refine jU ?_
 by_cases h1:s=[102,116]
 ·refine ax rfl rfl rfl rfl rfl rfl rfl (aU (a:=[102,116]) (b:=s) h1.symm) ?_
  refine kW ?_;refine ac (iJ 1524 5 D_ D_ D_ D_ (q:=Rat.divInt 1524 5) (by first|rfl|exact divInt_one _)) rfl rfl rfl rfl rfl rfl rfl ?_;refine kW ?_;have:t7 s= .tup [mD (Rat.divInt 1524 5) 1,dB true]:=by subst h1;rfl
  exact vW
 refine ax rfl rfl rfl rfl rfl rfl rfl (bC (a:=[102,116]) (b:=s) (fun e=>h1 e.symm)) ?_;refine kW ?_;refine ct ⟨[(0, .d (dL s)),(2, .box 0 0),(3, .d (dB false)),(6, .d (.leaf (.sl 5 gG))),(7, .d (dN .i64 5)),(8, .d (dN .i64 2))],[(0,some ia)]⟩ kw ?_;refine kW ?_;refine aH (i:=2) (cs':=[.val (vL [105,110]), .val (.int .i64 127), .val (.int .i64 5)]) D_ (tJ (k:=3) rfl) D_ rfl rfl rfl rfl rfl rfl rfl rfl ?_;refine jU ?_
 by_cases h2:s=[105,110]
 ·refine ax rfl rfl rfl rfl rfl rfl rfl (aU (a:=[105,110]) (b:=s) h2.symm) ?_
  refine kW ?_;refine ac (iJ 127 5 D_ D_ D_ D_ (q:=Rat.divInt 127 5) (by first|rfl|exact divInt_one _)) rfl rfl rfl rfl rfl rfl rfl ?_;refine kW ?_;have:t7 s= .tup [mD (Rat.divInt 127 5) 1,dB true]:=by subst h2;rfl
  exact vW
 refine ax rfl rfl rfl rfl rfl rfl rfl (bC (a:=[105,110]) (b:=s) (fun e=>h2 e.symm)) ?_;refine kW ?_;refine ct ⟨[(0, .d (dL s)),(2, .box 0 0),(3, .d (dB false)),(6, .d (.leaf (.sl 5 gG))),(7, .d (dN .i64 5)),(8, .d (dN .i64 3))],[(0,some ia)]⟩ kw ?_;refine kW ?_;refine aH (i:=3) (cs':=[.val (vL [109]), .val (.int .i64 1000), .val (.int .i64 1)]) D_ (tJ (k:=3) rfl) D_ rfl rfl rfl rfl rfl rfl rfl rfl ?_;refine jU ?_
 by_cases h3:s=[109]
 ·refine ax rfl rfl rfl rfl rfl rfl rfl (aU (a:=[109]) (b:=s) h3.symm) ?_
  refine kW ?_;refine ac (iJ 1000 1 D_ D_ D_ D_ (q:=((1000:Int):Rat)) (by first|rfl|exact divInt_one _)) rfl rfl rfl rfl rfl rfl rfl ?_;refine kW ?_;have:t7 s= .tup [mD (((1000:Int):Rat)) 1,dB true]:=by subst h3;rfl
  exact vW
 refine ax rfl rfl rfl rfl rfl rfl rfl (bC (a:=[109]) (b:=s) (fun e=>h3 e.symm)) ?_;refine kW ?_;refine ct ⟨[(0, .d (dL s)),(2, .box 0 0),(3, .d (dB false)),(6, .d (.leaf (.sl 5 gG))),(7, .d (dN .i64 5)),(8, .d (dN .i64 4))],[(0,some ia)]⟩ kw ?_;refine kW ?_;refine aH (i:=4) (cs':=[.val (vL [109,109]), .val (.int .i64 1), .val (.int .i64 1)]) D_ (tJ (k:=3) rfl) D_ rfl rfl rfl rfl rfl rfl rfl rfl ?_;refine jU ?_
 by_cases h4:s=[109,109]
 ·refine ax rfl rfl rfl rfl rfl rfl rfl (aU (a:=[109,109]) (b:=s) h4.symm) ?_
  refine kW ?_;refine ac (iJ 1 1 D_ D_ D_ D_ (q:=((1:Int):Rat)) (by first|rfl|exact divInt_one _)) rfl rfl rfl rfl rfl rfl rfl ?_;refine kW ?_;have:t7 s= .tup [mD (((1:Int):Rat)) 1,dB true]:=by subst h4;rfl
  exact vW
 refine ax rfl rfl rfl rfl rfl rfl rfl (bC (a:=[109,109]) (b:=s) (fun e=>h4 e.symm)) ?_;refine kW ?_;refine ct ⟨[(0, .d (dL s)),(2, .box 0 0),(3, .d (dB false)),(6, .d (.leaf (.sl 5 gG))),(7, .d (dN .i64 5)),(8, .d (dN .i64 5))],[(0,some ia)]⟩ kw ?_;exact NZ
theorem uI (s:List UInt8):aa Tryz.prog 138 [dL s] (t7 s):=by
 refine kU func138 ?_;refine kR ?_;refine kR ?_;refine nt ?_
 by_cases h0:s=[99,109]
 ·refine ax rfl rfl rfl rfl rfl rfl rfl (aU (a:=s) (b:=[99,109]) h0) ?_
  refine O4 ?_;subst h0;exact bK (T:=TT) rfl rfl
 refine ax rfl rfl rfl rfl rfl rfl rfl (bC (a:=s) (b:=[99,109]) h0) ?_;refine pU ?_;refine nt ?_
 by_cases h1:s=[102,116]
 ·refine ax rfl rfl rfl rfl rfl rfl rfl (aU (a:=s) (b:=[102,116]) h1) ?_
  refine kW ?_;refine ac (tt 1524 5 D_ D_ D_ D_ (q:=Rat.divInt 1524 5) rfl) rfl rfl rfl rfl rfl rfl rfl ?_;refine kW ?_;subst h1;exact bK (T:=TT) rfl rfl
 refine ax rfl rfl rfl rfl rfl rfl rfl (bC (a:=s) (b:=[102,116]) h1) ?_;refine pU ?_;refine nt ?_
 by_cases h2:s=[105,110]
 ·refine ax rfl rfl rfl rfl rfl rfl rfl (aU (a:=s) (b:=[105,110]) h2) ?_
  refine kW ?_;refine ac (tt 127 5 D_ D_ D_ D_ (q:=Rat.divInt 127 5) rfl) rfl rfl rfl rfl rfl rfl rfl ?_;refine kW ?_;subst h2;exact bK (T:=TT) rfl rfl
 refine ax rfl rfl rfl rfl rfl rfl rfl (bC (a:=s) (b:=[105,110]) h2) ?_;refine pU ?_;refine nt ?_
 by_cases h3:s=[109]
 ·refine ax rfl rfl rfl rfl rfl rfl rfl (aU (a:=s) (b:=[109]) h3) ?_
  refine kW ?_;refine ac (eh 1000 D_ D_ (q:=((1000:Int):Rat)) rfl) rfl rfl rfl rfl rfl rfl rfl ?_;refine kW ?_;subst h3;exact bK (T:=TT) rfl rfl
 refine ax rfl rfl rfl rfl rfl rfl rfl (bC (a:=s) (b:=[109]) h3) ?_;refine pU ?_;refine nt ?_
 by_cases h4:s=[109,109]
 ·refine ax rfl rfl rfl rfl rfl rfl rfl (aU (a:=s) (b:=[109,109]) h4) ?_
  refine kW ?_;refine ac (eh 1 D_ D_ (q:=((1:Int):Rat)) rfl) rfl rfl rfl rfl rfl rfl rfl ?_;refine kW ?_;subst h4;exact bK (T:=TT) rfl rfl
 refine ax rfl rfl rfl rfl rfl rfl rfl (bC (a:=s) (b:=[109,109]) h4) ?_;refine pU ?_;exact NZ
end Go.Proofs.YtnchbpoopnjghaaGreatDoor
