/- Parts of a proof: contracts of the functions that the laws reach. -/
import Derived.Test.YtikbnnljjeefgaaGreatDoorWZ3
import Derived.Test.YtikbnnljjeefgaaGreatDoorWZ1
import Derived.Test.YtikbnnljjeefgaaGreatDoorWShelf
import Derived.Test.YtikbnnljjeefgaaGreatDoorWAh
import Derived.Deep.AppendLies
import Derived.Test.YtikbnnljjeefgaaGreatDoorWZ4
import Derived.Test.YtikbnnljjeefgaaGreatDoorWZ2
set_option maxHeartbeats 100000000
set_option linter.all false
open Go.Proofs.Tryz
namespace Go.Proofs.YtikbnnljjeefgaaGreatDoor
open Go.RowKit
theorem mi (s:List UInt8):aa Tryz.prog 215 [dL s,dL [45]] (.tup [dL (dA s),dB (bV s)]):=
 ⟨ay func215 rfl rfl,fun S w vs hS hv=>by
  match vs,hv with
  | [v,u],⟨h1,h2,_⟩=>
   obtain rfl:=bP h1;obtain rfl:=bP h2;refine(Tryz.strings_CutPrefix (Bs s) (Bs [45]) w).mono ?_;rintro e w' ⟨rfl,rfl⟩
   have e1:(⟨(Lib.trimPrefix (Bs s).data.toList (Bs [45]).data.toList).toArray⟩:ByteArray)=Bs (dA s):=by
    unfold Bs
    congr 2
    cases s with
    |nil=>rfl
    |cons c r=>
     by_cases h:c=45
     ·simp[Lib.trimPrefix,Lib.hasPrefix,dA,h,List.isPrefixOf]
     ·have h':¬45=c:=fun e=>h e.symm
      simp[Lib.trimPrefix,Lib.hasPrefix,dA,h,h',List.isPrefixOf]
   have e2:Lib.hasPrefix (Bs s).data.toList (Bs [45]).data.toList=bV s:=by
    cases s with
    |nil=>rfl
    |cons c r=>
     by_cases h:c=45
     ·simp[Bs,Lib.hasPrefix,bV,h,List.isPrefixOf]
     ·have h1':(45 == c)=false:=beq_eq_false_iff_ne.2 fun e=>h e.symm
      have h2':(c == 45)=false:=beq_eq_false_iff_ne.2 h
      simp[Bs,Lib.hasPrefix,bV,h1',h2',List.isPrefixOf]
   rw[e1,e2];refine⟨_,rfl,⟨[.string (Bs (dA s)), .bool (bV s)],rfl,rfl,fun i x u h1 h2=>?_⟩,Below.refl _ _⟩
   match i with
   |0=>simp at h1 h2;subst h1 h2;exact AV.M.val rfl
   |1=>simp at h1 h2;subst h1 h2;exact AV.M.val rfl
   |i+2=>simp at h1⟩
def pV:List Nat→TV
 | []=> .nil
 |a::r=> .own 1000001 (a::r).length 1 82
def pX:List Nat→Option (List AV)
 | []=>none
 |a::r=>some ((a::r).map fun x:Nat=>AV.val (bB x))
theorem mg (a b:List UInt8):num (a++b)=num a*10^b.length+num b:=by
 have:∀n (b:List UInt8),b.length=n→num (a++b)=num a*10^b.length+num b:=by
  intro n
  induction n with
  |zero=>intro b hb;rw[List.eq_nil_of_length_eq_zero hb];simp[num]
  |succ n ih=>
   intro b hb
   obtain⟨b',c,rfl⟩:∃l' c,b=l'++[c]:=by
    rcases List.eq_nil_or_concat b with h| ⟨l',c,h⟩
    ·subst h;simp at hb
    ·exact⟨l',c,by simpa using h⟩
   rw[← List.append_assoc,gy,ih b' (by simpa using hb),gy,List.length_append,List.length_singleton,Nat.pow_succ];generalize num a=x,10^b'.length=y;rw[← Nat.mul_assoc,Nat.mul_comm (x*y) 10];omega
 exact this _ b rfl
theorem Ed {m:List Nat} (h:0<m.length):pV m= .own 1000001 m.length 1 82:=by
 cases m with
 |nil=>exact absurd h (by decide)
 |cons a r=>rfl
theorem De {m:List Nat} (h:0<m.length):pX m=some (m.map fun x:Nat=>AV.val (bB x)):=by
 cases m with
 |nil=>exact absurd h (by decide)
 |cons a r=>rfl
theorem vX {F C c w i v t:Nat} (hF:F≤1000000000) (hc:c<4294967296) (hw:w<4294967296) (h:v+4294967296^i*c=F*t+C):(c+w*F)/4294967296<4294967296∧v+4294967296^i*((c+w*F)%4294967296)+4294967296^(i+1)*((c+w*F)/4294967296)=F*(t+4294967296^i*w)+C:=by
 have hb:w*F≤4294967295*1000000000:=Nat.mul_le_mul (by omega) hF;refine⟨by omega,?_⟩;rw[Nat.pow_succ,Nat.mul_assoc,Nat.add_assoc,← Nat.mul_add,Nat.mod_add_div,Nat.mul_add,← Nat.add_assoc,h,Nat.mul_add];rw[← Nat.mul_assoc (4294967296^i),Nat.mul_comm (4294967296^i*w) F];omega
theorem j1 (s:List UInt8):aa Tryz.prog 230 [dL s] (.tup [dZ (pz s).1,dN .i64 (pz s).2]):=by
 have z0:dZ 0= .agg [.val (.bool false), .sl 0 []]:=by unfold dZ;rw[e0]
 have hsz:=aB s
 by_cases hl:s.length≤65536
 ·have hdl:=lA s
  refine kV func230 ?_;refine dD (T:=TT) rfl ?_ ?_
  ·exact decide_eq_false (by omega)
  refine bM ?_;refine kW ?_;refine kC (mi s) ?_;refine kN ?_
  by_cases hgood:dA s≠[]∧((∀c r,dA s=c::r→c≠48)∨((dA s).length=1∧bV s=false))
  ·refine mq ⟨[(2, .box 0 0),(3, .d (dN .i64 0)),(4, .d (dL (dA s))),(5, .d (dB (bV s)))],[(0,some [.val (.bool false), .sl 0 []])]⟩ (fun s' hw=>?_) (fun R hR hret=>?_)
   ·refine av ?_
    refine ee hw rfl ?_;refine kN ?_;refine av ?_;refine b8 (T:=TT) ?_;refine aS (List UInt8 × List Nat) (fun p=>∃dn,dA s=dn++p.1∧(∀c∈dn,da c)∧val p.2=num dn∧Wd p.2∧p.2.length≤dn.length) (fun p=>⟨[(2, .box 0 0),(3, .d (dN .i64 0)),(5, .d (dB (bV s))),(4, .d (dL p.1)),(6,pV p.2)],[(0,some [.val (.bool false), .sl 0 []]),(1000001,pX p.2)]⟩) (fun p=>p.1.length) (dA s,[]) ⟨[],rfl,by simp,rfl,Wd.nil,Nat.le_refl _⟩ (weak ⟨rfl,rfl,rfl,rfl,rfl,trivial⟩ ⟨rfl,trivial⟩ rfl) ?_;rintro⟨rest,m⟩ ⟨dn,hdn,hdd,hval,hWd,hml⟩;dsimp only at hdn hval hWd hml ⊢;have hdnl:=congrArg List.length hdn;rw[List.length_append]at hdnl;have hsr:=aB rest;refine kR ?_;refine f6 rfl (fun h=>?_) (fun h=>?_)
    ·have h:=of_decide_eq_true h
     have hr0:0<rest.length:=by omega
     refine bM ?_;obtain⟨nn,hnn⟩:∃nn,(rest.length-1)%9+1=nn:=⟨_,rfl⟩;have hn9:nn≤9:=by omega
     have hnr:nn≤rest.length:=by have:=Nat.mod_le (rest.length-1) 9;omega
     have hmod:((rest.length-1:Nat):Int).tmod 9=((rest.length-1)%9:Nat):=by rw[show(9:Int)=((9:Nat):Int) from rfl,Int.ofNat_tmod]
     refine b8 (T:=TT) ?_;refine av ?_;refine an rfl ?_
     refine kO2 ?_
     refine fo (v':= .int .i64 ((rest.length-1:Nat))) rfl rfl rfl rfl ?_ ?_
     ·exact congrArg (Value.int .i64) (by rw[hsr,IntWalk.i64_in _ (by omega)];omega)
     refine aP rfl rfl rfl rfl ?_ rfl rfl (xf (by decide)) ?_
     ·rfl
     refine kJ (nn) ?_;refine kN ?_;refine kR ?_;refine Eh ⟨[(2, .box 0 0),(3, .d (dN .i64 0)),(5, .d (dB (bV s))),(4, .d (dL rest)),(7, .d (dN .i64 nn)),(8, .d (dN .u64 (num (rest.take nn)))),(9, .d (dN .u64 (10^nn:Nat))),(6,pV m)],[(0,some [.val (.bool false), .sl 0 []]),(1000001,pX m)]⟩ (∀c∈rest.take nn,da c) (fun hdt s' hw=>?_) (fun R hR hret=>?_)
     ·have hCl:=pJ
      have hdd':∀c∈dn++rest.take nn,da c:=fun c hc=>(List.mem_append.1 hc).elim (hdd c) (hdt c)
      have hdn':dA s=(dn++rest.take nn)++rest.drop nn:=by rw[List.append_assoc,List.take_append_drop];exact hdn
      have hlen':(dn++rest.take nn).length=dn.length+nn:=by rw[List.length_append,List.length_take,Nat.min_eq_left hnr]
      have hdr:(rest.drop nn).length<rest.length:=by rw[List.length_drop];omega
      obtain⟨C,hC⟩:∃C,num (rest.take nn)=C:=⟨_,rfl⟩;obtain⟨F,hF⟩:∃F,10^nn=F:=⟨_,rfl⟩;have hF9:F≤1000000000:=by rw[← hF];exact Nat.pow_le_pow_right (by decide) hn9
      have hC9:C<F:=by
       rw[← hC,← hF];have:=pJ _ (rest.take nn) rfl (fun c hc=>hdd' c (List.mem_append.2 (.inr hc)))
       rwa[List.length_take,Nat.min_eq_left hnr]at this
      have hnum':num (dn++rest.take nn)=F*num dn+C:=by
       rw[mg,List.length_take,Nat.min_eq_left hnr,hF,hC,Nat.mul_comm]
      rw[hC,hF]at hw;cases m with
      |nil=>
       have hdn0:num dn=0:=hval.symm;refine av ?_;refine av ?_;refine ee hw rfl ?_;refine kN ?_;refine b8 (T:=TT) ?_;refine aS Unit (fun _=>True) (fun _=>⟨[(2, .box 0 0),(3, .d (dN .i64 0)),(5, .d (dB (bV s))),(4, .d (dL rest)),(7, .d (dN .i64 nn)),(8, .d (dN .u64 C)),(6, .nil),(70, .d (dN .i64 0)),(71, .d (dN .i64 0))],[(0,some [.val (.bool false), .sl 0 []])]⟩) (fun _=>0) () trivial (weak ⟨rfl,rfl,rfl,rfl,rfl,rfl,rfl,rfl,rfl,trivial⟩ ⟨rfl,trivial⟩ rfl) ?_;rintro _ _;refine kR ?_;refine bK (T:=TT) rfl ?_;refine cV ?_;have hcv:(F*0:Nat)+C=C:=by omega
       refine av ?_;refine av ?_;refine an rfl ?_;refine kO ?_
       by_cases hC0:C=0
       ·refine kE ?_
        refine kN ?_;refine bK (T:=TT) rfl ?_;refine bM ?_;refine an rfl ?_
        refine kO2 ?_
        refine iN ab (i:=nn) hnr rfl rfl rfl rfl rfl rfl rfl rfl ?_;refine kN ?_;refine⟨(rest.drop nn,[]),⟨dn++rest.take nn,hdn',hdd',?_,Wd.nil,Nat.zero_le _⟩,hdr,weak ⟨rfl,rfl,rfl,rfl,rfl,trivial⟩ ⟨rfl,trivial⟩ rfl⟩;rw[hnum',hdn0,hC0];rfl
       ·have hCp:0<C:=by omega
        refine kT ?_;refine kN ?_;refine ff (T:=TT) rfl ?_;refine an rfl ?_
        refine kO2 ?_
        refine fo (v':= .int .u32 (C)) rfl rfl rfl rfl ?_ ?_
        ·exact congrArg (Value.int .u32) (by rw[IntWalk.u32_in _ (by omega)])
        refine kO ?_;refine G8 (by decide) (by decide) rfl rfl rfl rfl rfl rfl rfl rfl rfl rfl rfl (.nil rfl rfl) rfl rfl ?_;refine kN ?_;refine an rfl ?_
        refine kO2 ?_
        refine iN ab (i:=nn) hnr rfl rfl rfl rfl rfl rfl rfl rfl ?_;refine kN ?_;refine⟨(rest.drop nn,[C]),⟨dn++rest.take nn,hdn',hdd',?_, .cons (by omega) .nil,by rw[hlen'];show 1≤_;omega⟩,hdr,?_⟩
        ·rw[hnum',hdn0]
         simp[val]
        ·refine aV.trans (b:=⟨[(2, .box 0 0),(3, .d (dN .i64 0)),(5, .d (dB (bV s))),(4, .d (dL (rest.drop nn))),(6, .own 1027004 1 1 82)],[(0,some [.val (.bool false), .sl 0 []]),(1027004,some [.val (bB C)])]⟩) (weak ⟨rfl,rfl,rfl,rfl,rfl,trivial⟩ ⟨rfl,rfl,trivial⟩ rfl) ((ax (q:=6) (j:=1027004) (j':=1000001) (m:=1) (k:=1) (e:=82) (cs:=[.val (bB C)]) rfl rfl rfl rfl).trans (weak ⟨rfl,rfl,rfl,rfl,rfl,trivial⟩ ⟨rfl,rfl,trivial⟩ rfl))
      |cons x r=>
       obtain⟨m,hm⟩:∃m,x::r=m:=⟨_,rfl⟩;have hm0:0<m.length:=by rw[← hm];simp
       rw[hm,Ed hm0,De hm0]at hw;rw[hm]at hval hWd hml;clear hm;refine av ?_;refine av ?_;refine ee hw rfl ?_;refine kN ?_;refine b8 (T:=TT) ?_
       refine aS (List Nat × Nat) (fun p=>p.1.length≤m.length∧Wd p.1∧p.2<4294967296∧val p.1+4294967296^p.1.length*p.2=F*val (m.take p.1.length)+C) (fun p=>⟨[(2, .box 0 0),(3, .d (dN .i64 0)),(5, .d (dB (bV s))),(4, .d (dL rest)),(7, .d (dN .i64 nn)),(8, .d (dN .u64 p.2)),(9, .d (dN .u64 F)),(6, .own 1000001 m.length 1 82),(70, .d (dN .i64 m.length)),(71, .d (dN .i64 p.1.length))],[(0,some [.val (.bool false), .sl 0 []]),(1000001,some ((p.1++m.drop p.1.length).map fun x:Nat=>AV.val (bB x)))]⟩) (fun p=>m.length-p.1.length) ([],C) ⟨by simp, .nil,by show C<_;omega,by simp[val]⟩ (weak ⟨rfl,rfl,rfl,rfl,rfl,rfl,rfl,rfl,rfl,rfl,trivial⟩ ⟨rfl,rfl,trivial⟩ rfl) ?_;rintro⟨xs,c⟩ ⟨hxl,hxw,hc,heq⟩;dsimp only at hxl hxw hc heq ⊢;refine kR ?_;refine av ?_;refine f6 rfl (fun h=>?_) (fun h=>?_)
       ·have h:=of_decide_eq_true h
        have hi:xs.length<m.length:=by omega
        refine bM ?_;refine av ?_;refine b8 (T:=TT) ?_;refine kR ?_;refine av ?_;refine an rfl ?_
        refine kO3 ?_
        refine ub (i:=xs.length) hi rfl rfl rfl rfl rfl rfl rfl rfl rfl ?_
        have hget:((xs++m.drop xs.length).map fun x:Nat=>AV.val (bB x))[xs.length*1]? =some (.val (bB m[xs.length])):=by
         rw[Nat.mul_one,List.getElem?_map,List.getElem?_append_right (Nat.le_refl _),Nat.sub_self,List.getElem?_drop,Nat.add_zero,List.getElem?_eq_getElem hi];rfl
        have hwi:m[xs.length]<4294967296:=hWd _ (List.getElem_mem hi)
        obtain⟨hc',heq'⟩:=vX hF9 hc hwi heq;have hwF:m[xs.length]*F≤4294967295*1000000000:=Nat.mul_le_mul (by omega) hF9;refine tY hget rfl rfl rfl rfl rfl rfl rfl rfl rfl ?_;obtain⟨W,hW⟩:∃W,m[xs.length]=W:=⟨_,rfl⟩;obtain⟨p,hp⟩:∃p,W*F=p:=⟨_,rfl⟩;have hpr:(W:Int)*(F:Nat)=(p:Nat):=by rw[← hp,Int.natCast_mul]
        have htk:val (m.take (xs.length+1))=val (m.take xs.length)+4294967296^xs.length*W:=by rw[ah,List.getD_eq_getElem?_getD,List.getElem?_eq_getElem hi,hW];rfl
        rw[hW,hp]at hwF hc' heq';rw[hW];rw[hW]at hwi;obtain⟨t,ht⟩:∃t,c+p=t:=⟨_,rfl⟩;rw[ht]at hc' heq';refine fo (v':= .int .u64 (W)) rfl rfl rfl rfl ?_ ?_
        ·exact congrArg (Value.int .u64) (by rw[IntWalk.u64_in _ (by omega)])
        refine kO ?_;refine fo (v':= .int .u64 (p)) rfl rfl rfl rfl ?_ ?_
        ·exact congrArg (Value.int .u64) (by rw[hpr,IntWalk.u64_in _ (by omega)])
        refine fo (v':= .int .u64 (t)) rfl rfl rfl rfl ?_ ?_
        ·exact congrArg (Value.int .u64) (by rw[IntWalk.u64_in _ (by omega)];omega)
        refine kN ?_;refine av ?_;refine an rfl ?_
        refine kO3 ?_
        refine fo (v':= .int .u32 ((t%4294967296:Nat))) rfl rfl rfl rfl ?_ ?_
        ·exact congrArg (Value.int .u32) (by rw[IntKind.wrap_u32];omega)
        refine ub (i:=xs.length) hi rfl rfl rfl rfl rfl rfl rfl rfl rfl ?_
        have hsp:ea ((xs++m.drop xs.length).map fun x:Nat=>AV.val (bB x)) (xs.length*1) [.val (bB (t%4294967296))]=((xs++[t%4294967296])++m.drop (xs++[t%4294967296]).length).map fun x:Nat=>AV.val (bB x):=by
         unfold ea;rw[Nat.mul_one,← List.map_take,← List.map_drop,List.take_left,List.length_singleton,← List.drop_drop,List.drop_left,List.drop_drop,List.length_append,List.length_singleton,List.map_append,List.map_append];rfl
        refine EK (by rw[List.length_map,List.length_append,List.length_drop];omega) hsp rfl rfl rfl rfl rfl rfl rfl rfl rfl rfl ?_;refine kN ?_;refine an rfl ?_;refine kO ?_;refine fo (v':= .int .u64 ((t/4294967296:Nat))) rfl rfl rfl rfl ?_ ?_
        ·exact congrArg (Value.int .u64) (by rw[show(2:Int)^min (Int.toNat 32) IntKind.u64.bits=4294967296 by decide,Int.fdiv_eq_ediv_of_nonneg _ (by decide)];omega)
        refine kN ?_;refine an rfl ?_;refine fo (v':= .int .i64 ((xs++[t%4294967296]).length)) rfl rfl rfl rfl ?_ ?_
        ·exact congrArg (Value.int .i64) (by rw[IntWalk.i64_in _ (by omega)];simp)
        refine kN ?_;refine⟨(xs++[t%4294967296],t/4294967296),⟨by rw[List.length_append];exact hi,hxw.append (.cons (by omega) .nil),hc',?_⟩,?_,weak ⟨rfl,rfl,rfl,rfl,rfl,rfl,rfl,rfl,rfl,rfl,trivial⟩ ⟨rfl,rfl,trivial⟩ rfl⟩
        ·show val (xs++[t%4294967296])+_=_
         rw[List.length_append,List.length_singleton,htk,cM,← heq']
         simp[val]
        ·dsimp only;rw[List.length_append,List.length_singleton];omega
       ·have h:=of_decide_eq_false h
        have hi:xs.length=m.length:=by omega
        rw[hi,List.drop_length,List.append_nil];rw[hi,List.take_length,hval]at heq;have hx0:0<xs.length:=by omega
        refine cV ?_;refine av ?_;refine av ?_;refine an rfl ?_;refine kO ?_
        by_cases hc0:c=0
        ·refine kE ?_
         refine kN ?_;refine bK (T:=TT) rfl ?_;refine bM ?_;refine an rfl ?_
         refine kO2 ?_
         refine iN ab (i:=nn) hnr rfl rfl rfl rfl rfl rfl rfl rfl ?_;refine kN ?_;refine⟨(rest.drop nn,xs),⟨dn++rest.take nn,hdn',hdd',?_,hxw,by rw[hlen',hi];omega⟩,hdr,?_⟩
         ·rw[hnum',← heq,hc0];rfl
         ·dsimp only
          rw[Ed hx0,De hx0,hi];exact weak ⟨rfl,rfl,rfl,rfl,rfl,trivial⟩ ⟨rfl,rfl,trivial⟩ rfl
        ·have hcp:0<c:=by omega
         refine kT ?_;refine kN ?_;refine ff (T:=TT) rfl ?_;refine an rfl ?_
         refine kO2 ?_
         refine fo (v':= .int .u32 (c)) rfl rfl rfl rfl ?_ ?_
         ·exact congrArg (Value.int .u32) (by rw[IntWalk.u32_in _ (by omega)])
         refine kO ?_;refine G8 (by decide) (by show(m.length+1)*4≤_;omega) rfl rfl rfl rfl rfl rfl rfl rfl rfl rfl rfl (.own rfl rfl) rfl rfl ?_;refine kN ?_;refine an rfl ?_
         refine kO2 ?_
         refine iN ab (i:=nn) hnr rfl rfl rfl rfl rfl rfl rfl rfl ?_;refine kN ?_;have hl1:(xs++[c]).length=m.length+1:=by rw[List.length_append,hi];rfl
         have hb:((xs.map fun x:Nat=>AV.val (bB x)).take (m.length*1)++[.val (bB c)])=(xs++[c]).map fun x:Nat=>AV.val (bB x):=by
          rw[Nat.mul_one,← hi,List.take_of_length_le (by simp),List.map_append];rfl
         refine⟨(rest.drop nn,xs++[c]),⟨dn++rest.take nn,hdn',hdd',?_,hxw.append (.cons hc .nil),by rw[hlen'];dsimp only;omega⟩,hdr,?_⟩
         ·rw[hnum',← heq]
          show val (xs++[c])=_;rw[cM,hi]
          simp[val]
         ·dsimp only
          rw[Ed (by omega),De (by omega),hl1,← hb];refine aV.trans (b:=⟨[(2, .box 0 0),(3, .d (dN .i64 0)),(5, .d (dB (bV s))),(4, .d (dL (rest.drop nn))),(6, .own 1027004 (m.length+1) 1 82)],[(0,some [.val (.bool false), .sl 0 []]),(1027004,some ((xs.map fun x:Nat=>AV.val (bB x)).take (m.length*1)++[.val (bB c)]))]⟩) (weak ⟨rfl,rfl,rfl,rfl,rfl,trivial⟩ ⟨rfl,rfl,trivial⟩ rfl) ((ax (q:=6) (j:=1027004) (j':=1000001) (m:=m.length+1) (k:=1) (e:=82) (cs:=(xs.map fun x:Nat=>AV.val (bB x)).take (m.length*1)++[.val (bB c)]) rfl rfl rfl rfl).trans (weak ⟨rfl,rfl,rfl,rfl,rfl,trivial⟩ ⟨rfl,rfl,trivial⟩ rfl))
     ·refine kR ?_
      refine b8 (T:=TT) ?_;refine aS Nat (fun i=>i≤nn∧ ∀c∈rest.take i,da c) (fun i=>⟨[(2, .box 0 0),(3, .d (dN .i64 0)),(5, .d (dB (bV s))),(4, .d (dL rest)),(7, .d (dN .i64 nn)),(8, .d (dN .u64 (num (rest.take i)))),(9, .d (dN .u64 (10^i:Nat))),(46, .d (dN .i64 nn)),(47, .d (dN .i64 i)),(6,pV m)],[(0,some [.val (.bool false), .sl 0 []]),(1000001,pX m)]⟩) (fun i=>nn-i) 0 ⟨by omega,by simp⟩ (weak ⟨rfl,rfl,rfl,rfl,rfl,rfl,rfl,rfl,rfl,rfl,trivial⟩ (by cases m<;>first|exact⟨rfl,rfl,trivial⟩|exact⟨rfl,trivial⟩) (by cases m<;>rfl)) ?_;rintro i ⟨hi,hd⟩;refine kR ?_;refine av ?_;refine f6 rfl (fun h=>?_) (fun h=>?_)
      ·have h:=of_decide_eq_true h
       have hi:i<nn:=by omega
       have hir:i<rest.length:=by omega
       refine bM ?_;refine av ?_;refine b8 (T:=TT) ?_;refine kR ?_;refine av ?_;refine an rfl ?_
       refine kO2 ?_
       refine ap ab (i:=i) (c:=rest[i]) (List.getElem?_eq_getElem hir) rfl rfl rfl rfl rfl rfl rfl rfl ?_;refine kN ?_;have hmem:rest[i]∈dA s:=by rw[hdn,List.mem_append];exact .inr (List.getElem_mem hir)
       refine av ?_;refine av ?_;refine an rfl ?_;refine kO ?_
       by_cases h48:rest[i].toNat<48
       ·have hbad:¬GZ s:=fun hp=>by have:=(hp.2.2.1 _ hmem).1;omega
        rw[jn hbad,z0]at hret;refine kX ?_;refine Eq.mpr (congrFun hret _) ?_;exact bu (T:=TT) rfl rfl
       ·refine kE ?_
        refine kO2 ?_
        by_cases h57:rest[i].toNat > 57
        ·have hbad:¬GZ s:=fun hp=>by have:=(hp.2.2.1 _ hmem).2;omega
         rw[jn hbad,z0]at hret;refine kX ?_;refine Eq.mpr (congrFun hret _) ?_;exact bu (T:=TT) rfl rfl
        ·refine kE ?_
         have hD:da rest[i]:=⟨by omega,by omega⟩;have hdv:=zZ hD;have hs1:num (rest.take (i+1))=10*num (rest.take i)+dv rest[i]:=by rw[List.take_succ_eq_append_getElem hir,gy]
         have hb1:=pJ _ _ rfl hd;have hb2:10^(rest.take i).length≤10^8:=Nat.pow_le_pow_right (by decide) (by rw[List.length_take];omega);have hb3:10^i≤10^8:=Nat.pow_le_pow_right (by decide) (by omega);refine kN ?_;refine bK (T:=TT) rfl ?_;refine bM ?_;refine av ?_;refine an rfl ?_;refine kO ?_;refine fo (v':= .int .u64 ((10*num (rest.take i):Nat))) rfl rfl rfl rfl ?_ ?_
         ·exact congrArg (Value.int .u64) (by rw[IntWalk.u64_in _ (by omega)];omega)
         refine kO ?_;refine fo (v':= .int .u8 ((dv rest[i]:Nat))) rfl rfl rfl rfl ?_ ?_
         ·exact congrArg (Value.int .u8) (by rw[IntWalk.u8_in _ (by omega)];unfold dv;omega)
         refine fo (v':= .int .u64 ((dv rest[i]:Nat))) rfl rfl rfl rfl ?_ ?_
         ·exact congrArg (Value.int .u64) (by rw[IntWalk.u64_in _ (by omega)])
         refine fo (v':= .int .u64 ((num (rest.take (i+1)):Nat))) rfl rfl rfl rfl ?_ ?_
         ·exact congrArg (Value.int .u64) (by rw[hs1,IntWalk.u64_in _ (by omega)];omega)
         refine kN ?_;refine an rfl ?_;refine kO ?_;refine fo (v':= .int .u64 ((10^(i+1):Nat))) rfl rfl rfl rfl ?_ ?_
         ·exact congrArg (Value.int .u64) (by rw[Nat.pow_succ];generalize 10^i=pw at hb3 ⊢;rw[IntWalk.u64_in _ (by omega)];omega)
         refine kN ?_;refine an rfl ?_;refine kJ ((i+1:Nat)) ?_;refine kN ?_;refine⟨i+1,⟨hi,fun c hc=>?_⟩,by omega,weak ⟨rfl,rfl,rfl,rfl,rfl,rfl,rfl,rfl,rfl,rfl,trivial⟩ (by cases m<;>first|exact⟨rfl,rfl,trivial⟩|exact⟨rfl,trivial⟩) (by cases m<;>rfl)⟩;rw[List.take_succ_eq_append_getElem hir,List.mem_append]at hc;rcases hc with hc|hc
         ·exact hd c hc
         ·rw[List.mem_singleton]at hc;rw[hc];exact hD
      ·have h:=of_decide_eq_false h
       have hin:i=nn:=by omega
       subst hin;refine cV ?_;exact hR hd _ (weak ⟨rfl,rfl,rfl,rfl,rfl,rfl,rfl,rfl,trivial⟩ (by cases m<;>first|exact⟨rfl,rfl,trivial⟩|exact⟨rfl,trivial⟩) (by cases m<;>rfl))
    ·have h:=of_decide_eq_false h
     have hr0:rest.length=0:=by omega
     obtain rfl:=List.eq_nil_of_length_eq_zero hr0;rw[List.append_nil]at hdn;have hok:GZ s:=⟨hl,hgood.1,by rw[hdn];exact hdd,hgood.2⟩;have hz:aq (bV s) m=kA (bV s) (num (dA s)):=by unfold aq kA;rw[hval,hdn]
     rw[C9 hok];refine cV ?_;cases m with
     |nil=>
      refine kW ?_;refine kC (gG (neg:=bV s) (xs:=[]) Wd.nil hz) ?_;exact kF
     |cons x r=>
      refine av ?_;refine ee (cG (q:=6) rfl rfl) rfl ?_;refine kW ?_;refine kC (gG (neg:=bV s) (xs:=x::r) hWd hz) ?_;exact kF
   ·clear hret
    cases hp:dA s with
    |nil=>exact absurd hp hgood.1
    |cons c r=>
     refine av ?_;refine an rfl ?_;refine kO ?_;have hsz':=aB (c::r);have hfin:TV.d (dL (c::r))=TV.d (dL (dA s)):=by rw[hp]
     refine aP rfl rfl rfl rfl rfl rfl rfl ((jk (a:=c::r) (b:=[])).trans (congrArg (fun b=>some (Value.bool b)) (decide_eq_false (by simp)))) ?_
     refine kO2 ?_
     refine ap ab (i:=0) (c:=c) rfl rfl rfl rfl rfl rfl rfl rfl rfl ?_
     by_cases h48:c=48
     ·subst h48
      have hg2:((48:UInt8)::r).length=1∧bV s=false:=by
       rcases hgood.2 with h|h
       ·exact absurd rfl (h _ _ hp)
       ·rw[hp]at h;exact h
      refine kO4 ?_
      refine kE ?_;have hneg:TV.d (dB false)=TV.d (dB (bV s)):=by rw[hg2.2]
      generalize bV s=ng at *;obtain rfl:=hg2.2;refine kW ?_;refine bM ?_;exact hR _ (weak ⟨rfl,rfl,hfin,rfl,trivial⟩ ⟨rfl,trivial⟩ rfl)
     ·have hn:c.toNat≠48:=fun e=>h48 (UInt8.toNat_inj.1 e)
      refine kB false ?_ ?_
      ·exact beq_eq_false_iff_ne.2 (by omega)
      refine kW ?_;refine bM ?_;exact hR _ (weak ⟨rfl,rfl,hfin,rfl,trivial⟩ ⟨rfl,trivial⟩ rfl)
  ·rw[jn (fun h=>hgood ⟨h.2.1,h.2.2.2⟩),z0]
   cases hp:dA s with
   |nil=>
    refine av ?_;refine av ?_;refine an rfl ?_;refine kO ?_;refine aP rfl rfl rfl rfl rfl rfl rfl (jk (a:=[]) (b:=[])) ?_;exact kF
   |cons c r=>
    have hc:c=48∧(1<(c::r).length∨bV s=true):=by
     refine Classical.byContradiction fun hno=>hgood ⟨by rw[hp];simp,?_⟩
     rw[hp]
     by_cases h48:c=48
     ·refine .inr ⟨?_,?_⟩
      ·apply Classical.byContradiction
       intro h1;exact hno ⟨h48, .inl (by simp at h1 ⊢;exact List.length_pos_iff.2 h1)⟩
      ·cases hq:bV s
       ·rfl
       ·exact absurd ⟨h48, .inr hq⟩ hno
     ·exact .inl fun x q e=>by cases e;exact h48
    obtain⟨rfl,hc⟩:=hc;have hsz':=aB ((48:UInt8)::r);refine av ?_;refine av ?_;refine an rfl ?_;refine kO ?_;refine aP rfl rfl rfl rfl rfl rfl rfl ((jk (a:=48::r) (b:=[])).trans (congrArg (fun b=>some (Value.bool b)) (decide_eq_false (by simp)))) ?_
    refine kO2 ?_
    refine ap ab (i:=0) (c:=48) rfl rfl rfl rfl rfl rfl rfl rfl rfl ?_
    refine kO4 ?_
    by_cases h1:1<((48:UInt8)::r).length
    ·refine kT ?_
     exact kF
    ·refine kE ?_
     have hq:bV s=true:=hc.resolve_left h1;rw[hq];exact kF
 ·rw[jn (fun h=>hl h.1),z0]
  refine kV func230 ?_;refine eY (T:=TT) rfl ?_ ?_
  ·exact decide_eq_true (by omega)
  exact kF
def IR (l:List UInt8):List AV:=l.map fun c=>AV.val (.int .u8 c.toNat)
def JS (l:List UInt8):DV:= .leaf (.sl l.length (IR l))
theorem Io {l:List UInt8} {i:Nat} {c:UInt8} (h:l[i]? =some c):∀(j:Nat) (a:AV),[AV.val (.int .u8 c.toNat)][j]? =some a→(IR l)[i*1+j]? =some a:=by
 intro j a hj
 match j,hj with
 |0,hj=>unfold IR;rw[Nat.mul_one,Nat.add_zero,List.getElem?_map,h];exact hj
section
variable {P:Program} {T:TypeId→Option Ty} {n:Nat} {ops:Array Oper} {id:Nat} {draw:Bool} {K:AS→Prop} {s:AS} {k:Nat} {o:Oper} {os:List Oper} {fps:List FP}
theorem JB (hT:∀t d,T t=some d→bG P t d) {t t' et:TypeId} {ty ty' te:Ty} {x:Operand} {l:List UInt8} (hl:l.length≤9223372036854775807) (h1:gd ops s o=some true) (h2:o.op= .convert t t' x) (h5:T t=some ty) (h6:ty.isStr=true) (h9:T t'=some ty') (h10:ty'.elem=some (et,1)) (h7:T et=some te) (h8:te.ik=some .u8) (h11:s.ev x= .d (.leaf (.val (vL l))))
 (h3:bd n o.dst=true) (h4:gN draw ops (aM ops o ⟨.d (JS l),none⟩ []) k fps=true) (h:aw P T n ops id draw K (k+1) os (s.eff o.dst ⟨.d (JS l),none⟩) (aM ops o ⟨.d (JS l),none⟩ []::fps)):aw P T n ops id draw K k (o::os) s fps:=by
 refine .run h1 (.gen fun s2 ht _=>?_) h3 h4 h;have hx:=(aL ht (x:=x) (by simp[h2,Op.operands])).trans h11;have hu:=j4 (hT _ _ h5) h6;obtain⟨d,hd,_,hel,_⟩:=(hT _ _ h9).und;obtain⟨rfl,_⟩:=hel et 1 h10;obtain⟨d2,hd2,_,_,_,_,_,hik,_⟩:=(hT _ _ h7).und;obtain rfl:=hik _ h8;refine aj fun n S0 w0 g a w hM=>?_
 have hsz:=aB l;have hge:=grownCap_ge w l.length 0 et;have hle:=grownCap_le_maxLen w l.length 0 et (by unfold maxLen;omega);obtain⟨C,hC⟩:∃C,grownCap w l.length 0 et=C:=⟨_,rfl⟩;rw[hC]at hge hle;have hrun:=run_bytes_of_string w t t' et (Bs l) hu hd hd2;rw[hsz,hC]at hrun;have hb:Below w.heap.size w (w.drew.alloc (.cells (bytesRow (Bs l) C) et ((bytesRow (Bs l) C).size,(bytesRow (Bs l) C).size+1))):=((Below.refl _ w).drew).alloc (Nat.le_refl _) _;refine⟨.slice (some ⟨w.heap.size,0,none⟩) l.length C,_,?_,hb,?_⟩
 ·unfold execOp
  rw[h2]
  simp only[bw hM hx,vL,Sem.run_bind,hrun,Result.andThen_ok,Sem.run_pure]
 ·refine AV.M.sl (fun i=> .int .u8 ((l.getD i 0).toNat:Int)) hge (by unfold maxLen at hle;omega) ?_ (by show w.heap.size<(w.heap.push _).size;simp) (fun i c hi=>?_) (fun i c hi=>?_)
  ·intro hO
   exact absurd (hM.own_lt hO) (Nat.lt_irrefl _)
  ·have hil:i<l.length:=by have:=(List.getElem?_eq_some_iff.1 hi).1;simpa[IR]using this
   have h3:(w.drew.alloc (.cells (bytesRow (Bs l) C) et ((bytesRow (Bs l) C).size,(bytesRow (Bs l) C).size+1))).heap[w.heap.size]? =some (.cells (bytesRow (Bs l) C) et ((bytesRow (Bs l) C).size,(bytesRow (Bs l) C).size+1)):=heap_alloc_new w.drew _;rw[Nat.zero_add]
   simp only[World.cell?,h3]
   have:=bytesRow_at (Bs l) C i (by show i<(Bs l).data.size;simpa[Bs]using hil);show(match(bytesRow (Bs l) C)[i]? with|v=>v)=_;refine Eq.trans this ?_
   simp[Bs,hil]
  ·have hil:i<l.length:=by have:=(List.getElem?_eq_some_iff.1 hi).1;simpa[IR]using this
   have:c= .val (.int .u8 ((l.getD i 0).toNat:Int)):=by
    unfold IR at hi;rw[List.getElem?_map,List.getElem?_eq_getElem hil]at hi
    simp at hi
    rw[← hi]
    simp[hil]
   rw[this];exact .val rfl
end
theorem mP (l:List UInt8) (c:UInt8):aa Tryz.prog 201 [dL l,dL [c]] (.one (dN .i64 (Lib.indexByte l c))):=by
 refine⟨ay func201 rfl rfl,fun S w vs hS hv=>?_⟩
 match vs,hv with
 | [v,u],⟨h1,h2,_⟩=>
  obtain rfl:=bP h1;obtain rfl:=bP h2;refine(Tryz.stringslite_Index_one (Bs l) c w).mono ?_;rintro e w' ⟨rfl,rfl⟩;exact⟨_,rfl,AV.M.val rfl,Below.refl _ _⟩
theorem ue {l:List UInt8} {c:UInt8} (h:c ∉ l):Lib.indexByte l c= -1:=by
 induction l with
 |nil=>rfl
 |cons b l ih=>
  have h1:(b == c)=false:=beq_eq_false_iff_ne.2 (fun e=>h (by simp[e]));unfold Lib.indexByte;rw[h1,ih (fun e=>h (by simp[e]))];rfl
theorem uL {a b:List UInt8} {c:UInt8} (h:c ∉ a):Lib.indexByte (a++c::b) c=a.length:=by
 induction a with
 |nil=>simp[Lib.indexByte]
 |cons x a ih=>
  have h1:(x == c)=false:=beq_eq_false_iff_ne.2 (fun e=>h (by simp[e]));rw[List.cons_append];unfold Lib.indexByte;rw[h1,ih (fun e=>h (by simp[e]))];have:(((a.length:Nat):Int) == -1)=false:=beq_eq_false_iff_ne.2 (by omega)
  simp only[Bool.false_eq_true,if_false,this]
  simp
theorem F7 {a b:List UInt8} {c:UInt8} (h:c ∉ a) (hl:a.length+b.length≤1000000000):aa Tryz.prog 227 [dL (a++c::b),dL [c]] (.tup [dL a,dL b,dB true]):=by
 have c1:=mP (a++c::b) c;rw[uL h]at c1;have e1:(a++c::b).take a.length=a:=by simp
 have e2:(a++c::b).drop (a.length+1)=b:=by rw[← List.drop_drop];simp
 refine kV func227 ?_;refine kQ (c1) ?_;refine wW ab (l:=a++c::b) (i:=a.length) (by simp) rfl rfl rfl rfl rfl rfl rfl rfl ?_
 refine kO4 ?_
 refine fo (v':= .int .i64 (((a.length+1:Nat):Int))) rfl rfl rfl rfl ?_ ?_
 ·exact congrArg (Value.int .i64) (by show IntKind.i64.wrap ((a.length:Int)+1)=_;rw[IntWalk.i64_in _ (by omega)];omega)
 refine iN ab (l:=a++c::b) (i:=a.length+1) (by simp) rfl rfl rfl rfl rfl rfl rfl rfl ?_;refine kW ?_;rw[e1,e2];exact bu (T:=TT) rfl rfl
theorem zh {a:List UInt8} {c:UInt8} (h:c ∉ a):aa Tryz.prog 227 [dL a,dL [c]] (.tup [dL a,dL [],dB false]):=by
 have c1:=mP a c;rw[ue h]at c1;refine kV func227 ?_;refine kC (c1) ?_;exact kF
theorem vc {a b:List UInt8} {c:UInt8} (h:c ∉ a) (hl:a.length+b.length≤1000000000):aa Tryz.prog 223 [dL (a++c::b),dL [c]] (.tup [dL a,dL b,dB true]):=by
 refine kV func223 ?_;refine kC (F7 h hl) ?_;exact kF
theorem g8 {a:List UInt8} {c:UInt8} (h:c ∉ a):aa Tryz.prog 223 [dL a,dL [c]] (.tup [dL a,dL [],dB false]):=by
 refine kV func223 ?_;refine kC (zh h) ?_;exact kF
theorem mW (l:List UInt8):aa Tryz.prog 229 [dL l,dL [48]] (.one (dL (l.dropWhile (· == 48)))):=by
 refine⟨ay func229 rfl rfl,fun S w vs hS hv=>?_⟩
 match vs,hv with
 | [v,u],⟨h1,h2,_⟩=>
  obtain rfl:=bP h1;obtain rfl:=bP h2;refine(Tryz.strings_TrimLeft_one (Bs l) 48 (by decide) w).mono ?_;rintro e w' ⟨rfl,rfl⟩;exact⟨_,rfl,AV.M.val rfl,Below.refl _ _⟩
def od (na:Bool) (xs:List Nat) (nb:Bool) (ys:List Nat):Bool:=ef na xs && ef nb ys && decide (0<aq nb ys) && decide (Nat.gcd (val xs) (val ys)=1)
theorem pY (q:Rat):od (decide (q.num<0)) (digs q.num.natAbs) (decide ((q.den:Int)<0)) (digs (q.den:Int).natAbs)=true:=by
 unfold od;rw[qO,qO,aU,af,af,decide_eq_true (eW q),decide_eq_true (by rw[Int.natAbs_natCast];exact q.reduced)];rfl
theorem vC {na nb:Bool} {xs ys:List Nat} (hw:Wd xs) (hw':Wd ys) (h1:oi xs) (h2:oi ys) {b:Bool} (hb:od na xs nb ys=b):aa Tryz.prog 86 [JV na xs nb ys] (.one (dB b)):=by
 subst hb;unfold od;cases c1:ef na xs
 ·refine kV func86 ?_;refine kC (fA (na:=na) hw c1) ?_;exact kF
 cases c2:ef nb ys
 ·refine kV func86 ?_;refine kQ (fA (na:=na) hw c1) ?_;refine kC (fA (na:=nb) hw' c2) ?_;exact kF
 by_cases c3:0<aq nb ys
 ·have hc:decide (Nat.gcd (val xs) (val ys)=1)=decide (((Nat.gcd (val xs) (val ys):Nat):Int)=1):=by by_cases h:Nat.gcd (val xs) (val ys)=1<;>simp[h]<;>omega
  rw[decide_eq_true c3,hc];refine kV func86 ?_;refine kQ (fA (na:=na) hw c1) ?_;refine kQ (fA (na:=nb) hw' c2) ?_;refine kQ (nV (na:=nb) hw' (Int.sign_eq_one_of_pos c3)) ?_;refine kQ (we (na:=na) (nb:=nb) hw hw' h1 h2) ?_;refine kC (bT rfl) ?_;exact kF
 ·rw[decide_eq_false c3]
  obtain⟨z,hz,hz0⟩:∃z,(aq nb ys).sign=z∧ ¬z > 0:=⟨_,rfl,fun h=>c3 (Int.sign_pos_iff.1 h)⟩;refine kV func86 ?_;refine kQ (fA (na:=na) hw c1) ?_;refine kQ (fA (na:=nb) hw' c2) ?_;refine kC (nV (na:=nb) hw' hz) ?_;refine kB false ?_ ?_
  ·exact decide_eq_false hz0
  exact kF
theorem xB {k:Nat} (q:Rat) (h:jb k q) (hk:k≤2147483648):aa Tryz.prog 86 [dQ q] (.one (dB true)):=vC (ar _) (ar _) (Nat.le_trans h.1.digs hk) (Nat.le_trans h.2.digs hk) (pY q)
theorem u4 {na nb:Bool} {xs ys:List Nat} (hw:Wd xs) (hw':Wd ys) (h1:oi xs) (h2:oi ys) {b:Bool} (hb:od na xs nb ys=b):aa Tryz.prog 62 [JV na xs nb ys] (.one (dB b)):=by
 subst hb;unfold od;cases c1:ef na xs
 ·refine kV func62 ?_;refine kC (eJ (na:=na) hw c1) ?_;exact kF
 cases c2:ef nb ys
 ·refine kV func62 ?_;refine kQ (eJ (na:=na) hw c1) ?_;refine kC (eJ (na:=nb) hw' c2) ?_;exact kF
 by_cases c3:0<aq nb ys
 ·have hc:decide (Nat.gcd (val xs) (val ys)=1)=decide (((Nat.gcd (val xs) (val ys):Nat):Int)=1):=by by_cases h:Nat.gcd (val xs) (val ys)=1<;>simp[h]<;>omega
  rw[decide_eq_true c3,hc];refine kV func62 ?_;refine kQ (eJ (na:=na) hw c1) ?_;refine kQ (eJ (na:=nb) hw' c2) ?_;refine kQ (lV (na:=nb) hw' (Int.sign_eq_one_of_pos c3)) ?_;refine kQ (sI (na:=na) (nb:=nb) hw hw' h1 h2) ?_;refine kC (du rfl) ?_;exact kF
 ·rw[decide_eq_false c3]
  obtain⟨z,hz,hz0⟩:∃z,(aq nb ys).sign=z∧ ¬z > 0:=⟨_,rfl,fun h=>c3 (Int.sign_pos_iff.1 h)⟩;refine kV func62 ?_;refine kQ (eJ (na:=na) hw c1) ?_;refine kQ (eJ (na:=nb) hw' c2) ?_;refine kC (lV (na:=nb) hw' hz) ?_;refine kB false ?_ ?_
  ·exact decide_eq_false hz0
  exact kF
theorem uq {k:Nat} (q:Rat) (h:jb k q) (hk:k≤2147483648):aa Tryz.prog 62 [dQ q] (.one (dB true)):=u4 (ar _) (ar _) (Nat.le_trans h.1.digs hk) (Nat.le_trans h.2.digs hk) (pY q)
theorem tK {xs:List Nat} {i x:Nat} (h:xs[i]? =some x):∀(j:Nat) (a:AV),[AV.val (bB x)][j]? =some a→(xs.map fun x:Nat=>AV.val (bB x))[i*1+j]? =some a:=by
 intro j a hj
 match j,hj with
 |0,hj=>rw[Nat.mul_one,Nat.add_zero,List.getElem?_map,h];exact hj
theorem pM {na nb:Bool} {xs ys:List Nat} (h:xs≠ys):sameB na nb xs ys=false:=by unfold sameB;rw[decide_eq_false h,Bool.and_false]
theorem mU {na:Bool} {xs ys:List Nat} (h:xs=ys):sameB na na xs ys=true:=by unfold sameB;rw[decide_eq_true h];cases na<;>rfl
theorem lL {na nb:Bool} {xs ys:List Nat} (hl:xs.length≤2147483648) {b:Bool} (hb:sameB na nb xs ys=b):aa Tryz.prog 79 [dI na xs,dI nb ys] (.one (dB b)):=by
 subst hb
 by_cases hn:na=nb
 ·subst hn
  by_cases hxy:xs.length=ys.length
  ·cases na
   ·refine kU func79 ?_
    refine kR ?_;refine kI ?_
    iterate 12 refine kO ?_
    refine kB false ?_ ?_
    ·exact(by simp[hxy])
    refine kW ?_;refine aS Nat (fun j=>j≤xs.length∧ ∀i,i<j→xs[i]? =ys[i]?) (fun j=>⟨[(2, .box 0 0),(3, .box 1 0),(5, .d (dN .i64 j))],[(0,some (aI false xs)),(1,some (aI false ys))]⟩) (fun j=>xs.length-j) 0 ⟨Nat.zero_le _,fun i h=>absurd h (Nat.not_lt_zero _)⟩ (weak ⟨rfl,rfl,rfl,trivial⟩ ⟨rfl,rfl,trivial⟩ rfl) ?_;rintro j ⟨hj,hall⟩;refine kW ?_;refine f6 rfl (fun h=>?_) (fun h=>?_)
    ·have hlt:j<xs.length:=by have:=of_decide_eq_true h;omega
     have hlt':j<ys.length:=by omega
     refine kW ?_;refine bl (cs':=[AV.val (bB xs[j])]) hlt (tK (by simp[hlt])) (Nat.lt_succ_self 0) rfl rfl rfl rfl rfl rfl rfl rfl ?_;refine kW ?_;refine bl (cs':=[AV.val (bB ys[j])]) hlt' (tK (by simp[hlt'])) (Nat.lt_succ_self 0) rfl rfl rfl rfl rfl rfl rfl rfl ?_;refine kW ?_;refine f6 rfl (fun h2=>?_) (fun h2=>?_)
     ·refine kW ?_
      have hne:xs[j]≠ys[j]:=fun e=>by rw[e]at h2;simp at h2
      rw[pM (fun e=>hne (by subst e;rfl))];exact bu (T:=TT) rfl rfl
     ·have heq:xs[j]=ys[j]:=by simp at h2;omega
      refine kW ?_;refine⟨j+1,⟨hlt,fun i hi=>?_⟩,by omega,weak ⟨rfl,rfl,?_,trivial⟩ ⟨rfl,rfl,trivial⟩ rfl⟩
      ·rcases Nat.lt_succ_iff_lt_or_eq.1 hi with h3|rfl
       ·exact hall i h3
       ·rw[List.getElem?_eq_getElem hlt,List.getElem?_eq_getElem hlt',heq]
      ·exact aG (by omega) (by omega)
    ·have hge:j=xs.length:=by have:=of_decide_eq_false h;omega
     refine cV ?_;refine kW ?_
     have he:xs=ys:=by
      apply List.ext_getElem? fun i=>?_
      by_cases hi:i<xs.length
      ·exact hall i (by omega)
      ·rw[List.getElem?_eq_none (by omega),List.getElem?_eq_none (by omega)]
     rw[mU he];exact bu (T:=TT) rfl rfl
   ·refine kU func79 ?_
    refine kR ?_;refine kI ?_
    iterate 12 refine kO ?_
    refine kB false ?_ ?_
    ·exact(by simp[hxy])
    refine kW ?_;refine aS Nat (fun j=>j≤xs.length∧ ∀i,i<j→xs[i]? =ys[i]?) (fun j=>⟨[(2, .box 0 0),(3, .box 1 0),(5, .d (dN .i64 j))],[(0,some (aI true xs)),(1,some (aI true ys))]⟩) (fun j=>xs.length-j) 0 ⟨Nat.zero_le _,fun i h=>absurd h (Nat.not_lt_zero _)⟩ (weak ⟨rfl,rfl,rfl,trivial⟩ ⟨rfl,rfl,trivial⟩ rfl) ?_;rintro j ⟨hj,hall⟩;refine kW ?_;refine f6 rfl (fun h=>?_) (fun h=>?_)
    ·have hlt:j<xs.length:=by have:=of_decide_eq_true h;omega
     have hlt':j<ys.length:=by omega
     refine kW ?_;refine bl (cs':=[AV.val (bB xs[j])]) hlt (tK (by simp[hlt])) (Nat.lt_succ_self 0) rfl rfl rfl rfl rfl rfl rfl rfl ?_;refine kW ?_;refine bl (cs':=[AV.val (bB ys[j])]) hlt' (tK (by simp[hlt'])) (Nat.lt_succ_self 0) rfl rfl rfl rfl rfl rfl rfl rfl ?_;refine kW ?_;refine f6 rfl (fun h2=>?_) (fun h2=>?_)
     ·refine kW ?_
      have hne:xs[j]≠ys[j]:=fun e=>by rw[e]at h2;simp at h2
      rw[pM (fun e=>hne (by subst e;rfl))];exact bu (T:=TT) rfl rfl
     ·have heq:xs[j]=ys[j]:=by simp at h2;omega
      refine kW ?_;refine⟨j+1,⟨hlt,fun i hi=>?_⟩,by omega,weak ⟨rfl,rfl,?_,trivial⟩ ⟨rfl,rfl,trivial⟩ rfl⟩
      ·rcases Nat.lt_succ_iff_lt_or_eq.1 hi with h3|rfl
       ·exact hall i h3
       ·rw[List.getElem?_eq_getElem hlt,List.getElem?_eq_getElem hlt',heq]
      ·exact aG (by omega) (by omega)
    ·have hge:j=xs.length:=by have:=of_decide_eq_false h;omega
     refine cV ?_;refine kW ?_
     have he:xs=ys:=by
      apply List.ext_getElem? fun i=>?_
      by_cases hi:i<xs.length
      ·exact hall i (by omega)
      ·rw[List.getElem?_eq_none (by omega),List.getElem?_eq_none (by omega)]
     rw[mU he];exact bu (T:=TT) rfl rfl
  ·rw[pM (fun e=>hxy (by rw[e]))]
   cases na
   ·refine kU func79 ?_
    refine kR ?_;refine kI ?_
    iterate 12 refine kO ?_
    refine kB true ?_ ?_
    ·exact(by simp;omega)
    exact kF
   ·refine kU func79 ?_
    refine kR ?_;refine kI ?_
    iterate 12 refine kO ?_
    refine kB true ?_ ?_
    ·exact(by simp;omega)
    exact kF
 ·have e:sameB na nb xs ys=false:=by unfold sameB;cases na<;>cases nb<;>first|rfl|exact absurd rfl hn
  rw[e];cases na<;>cases nb
  ·exact absurd rfl hn
  ·refine kU func79 ?_
   exact kF
  ·refine kU func79 ?_
   exact kF
  ·exact absurd rfl hn
theorem zU {z:Int} {k:Nat} (h:Sz k z):(fmt z).length≤10*k+2:=by
 have h1:(lp z.natAbs).length≤10*k:=uK _ _ (Nat.lt_of_lt_of_le h (by rw[Nat.pow_mul];exact Nat.pow_le_pow_left (by decide) _));unfold fmt
 split
 ·simp
 ·rw[List.length_append]
  have:(if z<0 then [45]else []:List UInt8).length≤1:=by split <;>simp
  omega
theorem HY:dZ 0= .agg [.val (.bool false), .sl 0 []]:=by unfold dZ;rw[e0]
def rW (l:List UInt8):Bool:=l.all rL && !decide (l=[])
theorem gI {l:List UInt8}:rW l=true↔(∀c∈l,da c)∧l≠[]:=by
 unfold rW
 simp[List.all_eq_true,jl]
theorem fE {l:List UInt8} (hl:l.length≤1000000000) {b:Bool} (hb:rW l=b):aa Tryz.prog 228 [dL l] (.one (dB b)):=by
 subst hb;have hsz:=aB l;refine kV func228 ?_;refine JB ab (l:=l) (by omega) rfl rfl rfl rfl rfl rfl rfl rfl rfl rfl rfl ?_;refine kW ?_;refine aS Nat (fun j=>j≤l.length∧ ∀i c,i<j→l[i]? =some c→da c) (fun j=>⟨[(0, .d (dL l)),(6, .d (JS l)),(7, .d (dN .i64 l.length)),(8, .d (dN .i64 j))],[]⟩) (fun j=>l.length-j) 0 ⟨Nat.zero_le _,fun i c h=>absurd h (Nat.not_lt_zero _)⟩ (weak ⟨rfl,rfl,rfl,rfl,trivial⟩ trivial rfl) ?_;rintro j ⟨hj,hall⟩;refine kW ?_;refine f6 rfl (fun h=>?_) (fun h=>?_)
 ·have hlt:j<l.length:=by have:=of_decide_eq_true h;omega
  obtain⟨c,hc⟩:∃c,l[j]=c:=⟨_,rfl⟩;have hcj:l[j]? =some c:=by rw[List.getElem?_eq_getElem hlt,hc]
  refine kW ?_;refine bl (cs':=[AV.val (.int .u8 c.toNat)]) hlt (Io hcj) (Nat.lt_succ_self 0) rfl rfl rfl rfl rfl rfl rfl rfl ?_;refine kN ?_;refine kI ?_;refine kO ?_
  by_cases h1:c.toNat<48
  ·refine kT ?_
   refine kW ?_
   rw[show rW l=false by
    cases hd:rW l
    ·rfl
    ·have:=(gI.1 hd).1 c (List.mem_of_getElem? hcj)
     unfold da at this
     omega]
   exact bu (T:=TT) rfl rfl
  ·refine kE ?_
   refine kO2 ?_
   by_cases h2:57<c.toNat
   ·refine kT ?_
    refine kW ?_
    rw[show rW l=false by
     cases hd:rW l
     ·rfl
     ·have:=(gI.1 hd).1 c (List.mem_of_getElem? hcj)
      unfold da at this
      omega]
    exact bu (T:=TT) rfl rfl
   ·refine kE ?_
    refine kW ?_;refine⟨j+1,⟨hlt,fun i c' hi hp=>?_⟩,by omega,weak ⟨rfl,rfl,rfl,?_,trivial⟩ trivial rfl⟩
    ·rcases Nat.lt_succ_iff_lt_or_eq.1 hi with h3|rfl
     ·exact hall i c' h3 hp
     ·have:c'=c:=by rw[hcj]at hp;exact(Option.some.inj hp).symm
      rw[this];unfold da;omega
    ·exact aG (by omega) (by omega)
 ·have hge:j=l.length:=by have:=of_decide_eq_false h;omega
  refine cV ?_;refine kI ?_;refine kO ?_;refine aP rfl rfl rfl rfl rfl rfl rfl (m7 (a:=l) (b:=[])) ?_;refine kW ?_
  have ha:l.all rL=true:=List.all_eq_true.2 fun c hc=>jl.2 (by
   obtain⟨i,hi⟩:=List.getElem?_of_mem hc;exact hall i c (by rw[hge];exact(List.getElem?_eq_some_iff.1 hi).1) hi)
  rw[show rW l=!decide (l=[]) by unfold rW;rw[ha];rfl];exact bu (T:=TT) rfl rfl
theorem Gi {l:List UInt8} (h:∀c∈l,da c):bV l=false∧dA l=l:=by
 have:=yV (b:=false) (l:=l) (fun c r e=>h c (by rw[e];simp))
 simp at this
 exact⟨this.2,this.1⟩
open Classical in
theorem ra {l:List UInt8} (h:∀c∈l,da c) (hl:l.length≤65536):pz l=if il false l then((num l:Int),0)else(0,2):=by
 obtain⟨h1,h2⟩:=Gi h
 by_cases ho:il false l
 ·rw[if_pos ho,C9 ⟨hl,by rw[h1,h2];exact ho⟩,h1,h2];rfl
 ·rw[if_neg ho,jn (fun e=>ho (by have:=e.2;rwa[h1,h2]at this))]
theorem bY {l:List UInt8} (hl:l.length≤65536) (h:il false l):aa Tryz.prog 226 [dL l] (.tup [dZ (num l),dB true]):=by
 have c1:=j1 l;rw[ra (eF h) hl,if_pos h]at c1;refine kV func226 ?_;refine ae (fE (b:=true) (Nat.le_trans hl (by decide)) (gI.2 ⟨eF h,h.1⟩)) rfl rfl rfl rfl rfl rfl rfl ?_;refine kW ?_;refine kC (c1) ?_;exact kF
theorem fC {l:List UInt8} (hl:l.length≤65536) (h:¬il false l):aa Tryz.prog 226 [dL l] (.tup [dZ 0,dB false]):=by
 by_cases hd:rW l=true
 ·have c1:=j1 l
  rw[ra (gI.1 hd).1 hl,if_neg h]at c1;refine kV func226 ?_;refine ae (fE (b:=true) (Nat.le_trans hl (by decide)) hd) rfl rfl rfl rfl rfl rfl rfl ?_;refine kW ?_;refine kC (c1) ?_;exact kF
 ·rw[HY]
  refine kV func226 ?_;refine ae (fE (b:=false) (Nat.le_trans hl (by decide)) (by simpa using hd)) rfl rfl rfl rfl rfl rfl rfl ?_;exact kF
theorem xi (k:Nat):(max 1 (10:Int).natAbs)^k<4294967296^(k+1):=by
 show 10^k<_
 have h1:(10:Nat)^k≤4294967296^k:=Nat.pow_le_pow_left (by decide) _;have h2:0<(4294967296:Nat)^k:=Nat.pow_pos (by decide)
 rw[Nat.pow_succ];omega
theorem py (k:Nat):Sz (k+1) ((10:Int)^k):=by
 unfold Sz;rw[Int.natAbs_pow];exact xi k
theorem Jd:eD 10:= .small (by decide)
theorem Sz.of_pow {k j e:Nat} {y:Int} (h:Sz k y) (hj:k+e≤j):Sz j (y*10^e):=by
 refine Sz.mono (j:=k+e) ?_ hj;unfold Sz at *;rw[Int.natAbs_mul,Int.natAbs_pow,Nat.pow_add];have h1:(10:Int).natAbs^e≤4294967296^e:=Nat.pow_le_pow_left (by decide) _;exact Nat.lt_of_le_of_lt (Nat.mul_le_mul_left _ h1) (Nat.mul_lt_mul_of_pos_right h (Nat.pow_pos (by decide)))
theorem GR (e:Nat) (he:e≤4096):∃t:Int,(∀y:Int,∀m,e≤m→y*t*10^(m-e)=y*10^m)∧(∀(k j:Nat) (y:Int),Sz k y→k+e≤j→Sz j (y*t))∧eD t∧(10:Int)^e=t∧aa Tryz.prog 237 [dZ 10,dN .i64 e] (.tup [dZ t,dN .i64 0]):=by
 refine⟨10^e,fun y m hm=>?_,fun k j y h hj=>h.of_pow hj,(py e).fit (by omega),rfl,Cc he (by omega) (xi e) Jd rfl⟩;rw[Int.mul_assoc,← Int.pow_add,show e+(m-e)=m by omega]
theorem pT {n:Nat} (hn:n≤65536) {z:Int} (hz:(10:Int)^n=z):aa Tryz.prog 231 [dN .i64 n] (.one (dZ z)):=by
 refine kV func231 ?_;refine kQ (j7) ?_;refine aS (Nat × Int) (fun p=>p.1≤n∧p.2*10^p.1=z∧Sz (n-p.1+1) p.2) (fun p=>⟨[(0, .d (dN .i64 p.1)),(2, .box 0 0),(3, .box 1001 0)],[(0,some [.val (.bool false), .sl 0 []]),(1001,some (aZ p.2))]⟩) (fun p=>p.1) (n,1) ⟨Nat.le_refl _,by rw[Int.one_mul];exact hz,(Sz.small (z:=1) (by decide)).mono (by omega)⟩ (weak ⟨rfl,rfl,rfl,trivial⟩ ⟨rfl,rfl,trivial⟩ rfl) ?_;rintro⟨m,y⟩ ⟨hm,hy,hs⟩;dsimp only at hm hy hs ⊢;refine kW ?_;refine f6 rfl (fun h=>?_) (fun h=>?_)
 ·have h4:4096<m:=by have:=of_decide_eq_true h;omega
  obtain⟨t,t1,t2,t3,_,t4⟩:=GR 4096 (Nat.le_refl _);refine kW ?_;refine ae (fS 10 (by decide) (by decide)) rfl rfl rfl rfl rfl rfl rfl ?_;refine kW ?_;refine kQ (t4) ?_;refine ae (eU (hs.fit (by omega)) t3) rfl rfl rfl rfl rfl rfl rfl ?_;refine kW ?_;refine⟨(m-4096,y*t),⟨by omega,?_,?_⟩,by dsimp only;omega,weak ⟨?_,rfl,rfl,trivial⟩ ⟨rfl,rfl,trivial⟩ rfl⟩
  ·exact(t1 y m (by omega)).trans hy
  ·exact t2 _ _ y hs (by dsimp only;omega)
  ·exact aG (by omega) (by omega)
 ·have h4:m≤4096:=by have:=of_decide_eq_false h;omega
  obtain⟨t,_,_,t3,ht,t4⟩:=GR m h4;refine cV ?_;refine kW ?_;refine ae (fS 10 (by decide) (by decide)) rfl rfl rfl rfl rfl rfl rfl ?_;refine kW ?_;refine kQ (t4) ?_;refine ae (eU (hs.fit (by omega)) t3) rfl rfl rfl rfl rfl rfl rfl ?_;refine kW ?_;rw[← hy,ht];exact bu (T:=TT) rfl rfl
theorem eM {l:List UInt8} (h:∀c∈l,da c):Sz l.length (num l:Int):=by
 unfold Sz;rw[Int.natAbs_natCast];exact Nat.lt_of_lt_of_le (pJ _ l rfl h) (Nat.pow_le_pow_left (by decide) _)
theorem tZ {a b:List UInt8} (hl:a.length+b.length≤65536) (ha:il false a) (hb:b≠[]) (hd:∀x∈b,da x) {q:Rat} (hq:Rat.divInt ((num a*10^b.length+num b:Nat):Int) ((10^b.length:Nat):Int)=q):aa Tryz.prog 225 [dL a,dL b] (.tup [dQ q,dB true]):=by
 obtain⟨p,hp⟩:∃p,(10:Int)^b.length=p:=⟨_,rfl⟩;have hpc:((10^b.length:Nat):Int)=p:=by rw[← hp,Int.natCast_pow];rfl
 have hp0:p≠0:=by rw[← hpc];have:=Nat.pow_pos (a:=10) (n:=b.length) (by decide);omega
 have sp:Sz (b.length+1) p:=by rw[← hp];exact py _
 have sa:=eM (eF ha);have sb:=eM hd;have hn:((num a*10^b.length+num b:Nat):Int)=(num a:Int)*p+num b:=by rw[Int.natCast_add,Int.natCast_mul,hpc]
 rw[hn,hpc]at hq;have sn:Sz (a.length+b.length+2) ((num a:Int)*p+num b):=(sa.mul sp).add (sb.mono (by omega));have c2:=j1 (Ee b);have htl:(Ee b).length≤b.length:=(List.dropWhile_sublist _).length_le;have htd:∀c∈Ee b,da c:=fun c hc=>hd c ((List.dropWhile_sublist _).subset hc)
 rw[ra htd (by omega),zB]at c2
 by_cases ht:Ee b=[]
 ·have hb0:num b=0:=by rw[← zB,ht];rfl
  rw[hb0]at hq sn;refine kV func225 ?_;refine ae (bY (by omega) ha) rfl rfl rfl rfl rfl rfl rfl ?_;refine kW ?_;refine ae (fE (b:=true) (by omega) (gI.2 ⟨hd,hb⟩)) rfl rfl rfl rfl rfl rfl rfl ?_;refine kW ?_;refine kC (mW b) ?_;refine kN ?_;refine kR ?_;refine kI ?_;refine kO ?_;refine aP rfl rfl rfl rfl rfl rfl rfl (fq (a:=Ee b) (b:=[]) ht) ?_;refine kW ?_;refine ae (pT (n:=b.length) (by omega) hp) rfl rfl rfl rfl rfl rfl rfl ?_;refine kW ?_;refine ae (eU (sa.fit (by omega)) (sp.fit (by omega))) rfl rfl rfl rfl rfl rfl rfl ?_;refine kW ?_
  refine ae (xg (na:=decide ((num a:Int)*p<0)) (xs:=digs ((num a:Int)*p).natAbs) (nb:=false) (ys:=[]) (ar _) Wd.nil ((sa.mul sp).fit (by omega)) (by unfold oi;simp) (z:=(num a:Int)*p+(0:Nat)) (by rw[aU];rfl)) rfl rfl rfl rfl rfl rfl rfl ?_;refine kW ?_;refine ae (iO sn (sp.mono (by omega)) (by omega) hp0 hq) rfl rfl rfl rfl rfl rfl rfl ?_;exact kF
 ·rw[if_pos (H1 hd ht)]at c2
  refine kV func225 ?_;refine ae (bY (by omega) ha) rfl rfl rfl rfl rfl rfl rfl ?_;refine kW ?_;refine ae (fE (b:=true) (by omega) (gI.2 ⟨hd,hb⟩)) rfl rfl rfl rfl rfl rfl rfl ?_;refine kW ?_;refine kC (mW b) ?_;refine kN ?_;refine kR ?_;refine kI ?_;refine kO ?_;refine aP rfl rfl rfl rfl rfl rfl rfl (fj (a:=Ee b) (b:=[]) ht) ?_;refine kW ?_;refine kQ (c2) ?_;refine ae (pT (n:=b.length) (by omega) hp) rfl rfl rfl rfl rfl rfl rfl ?_;refine kW ?_;refine ae (eU (sa.fit (by omega)) (sp.fit (by omega))) rfl rfl rfl rfl rfl rfl rfl ?_;refine kW ?_;refine ae (Cr ((sa.mul sp).fit (by omega)) (sb.fit (by omega))) rfl rfl rfl rfl rfl rfl rfl ?_;refine kW ?_;refine ae (iO sn (sp.mono (by omega)) (by omega) hp0 hq) rfl rfl rfl rfl rfl rfl rfl ?_
  exact kF
theorem rU {a b:List UInt8} (hl:a.length+b.length≤65536) (h:¬(il false a∧b≠[]∧ ∀x∈b,da x)):aa Tryz.prog 225 [dL a,dL b] (.tup [DI,dB false]):=by
 by_cases ha:il false a
 ·refine kV func225 ?_;refine ae (bY (by omega) ha) rfl rfl rfl rfl rfl rfl rfl ?_;refine kW ?_;refine ae (fE (l:=b) (b:=false) (by omega) (Bool.eq_false_iff.2 fun hb=>h ⟨ha,(gI.1 hb).2,(gI.1 hb).1⟩)) rfl rfl rfl rfl rfl rfl rfl ?_;exact kF
 ·refine kV func225 ?_;refine ae (fC (by omega) ha) rfl rfl rfl rfl rfl rfl rfl ?_;exact kF
theorem rK {a b:List UInt8} (hl:a.length+b.length≤65536) (h:il false a∧il false b∧num b≠0∧num b≠1∧Nat.gcd (num a) (num b)=1) {q:Rat} (hq:Rat.divInt (num a:Int) (num b:Int)=q):aa Tryz.prog 224 [dL a,dL b] (.tup [dQ q,dB true]):=by
 obtain⟨h1,h2,h3,h4,h5⟩:=h;have sa:=eM (eF h1);have sb:=eM (eF h2)
 have e:q.num=num a∧q.den=num b:=by
  refine Ek (Nat.pos_of_ne_zero h3) (by rw[Int.natAbs_natCast];exact h5) ?_;have h0:(q.den:Int)≠0:=by have:=eW q;omega
  have:=(Rat.divInt_eq_divInt_iff h0 (show(num b:Int)≠0 by omega)).1 ((km q).trans hq.symm);exact this.symm
 rw[zG e.1 (d:=num b) (by rw[e.2])];refine kV func224 ?_;refine ae (bY (by omega) h1) rfl rfl rfl rfl rfl rfl rfl ?_;refine kW ?_;refine ae (bY (by omega) h2) rfl rfl rfl rfl rfl rfl rfl ?_;refine kW ?_;refine ae (eZ (decide_eq_false (show ¬(num b:Int)=0 by omega))) rfl rfl rfl rfl rfl rfl rfl ?_;refine kW ?_;refine ae (bT (decide_eq_false (show ¬(num b:Int)=1 by omega))) rfl rfl rfl rfl rfl rfl rfl ?_;refine kW ?_;refine ae (ll (sa.fit (by omega)) (sb.fit (by omega)) (g:=1) (by rw[Int.natAbs_natCast,Int.natAbs_natCast];exact h5)) rfl rfl rfl rfl rfl rfl rfl ?_;refine kW ?_;refine kC (bT (b:=true) rfl) ?_;exact kF
theorem qX {a b:List UInt8} (hl:a.length+b.length≤65536) (h:¬(il false a∧il false b∧num b≠0∧num b≠1∧Nat.gcd (num a) (num b)=1)):aa Tryz.prog 224 [dL a,dL b] (.tup [DI,dB false]):=by
 by_cases h1:il false a
 ·by_cases h2:il false b
  ·have sa:=eM (eF h1)
   have sb:=eM (eF h2)
   by_cases h3:num b=0
   ·refine kV func224 ?_;refine ae (bY (by omega) h1) rfl rfl rfl rfl rfl rfl rfl ?_;refine kW ?_;refine ae (bY (by omega) h2) rfl rfl rfl rfl rfl rfl rfl ?_;refine kW ?_;refine ae (eZ (decide_eq_true (show(num b:Int)=0 by omega))) rfl rfl rfl rfl rfl rfl rfl ?_;exact kF
   ·by_cases h4:num b=1
    ·refine kV func224 ?_;refine ae (bY (by omega) h1) rfl rfl rfl rfl rfl rfl rfl ?_;refine kW ?_;refine ae (bY (by omega) h2) rfl rfl rfl rfl rfl rfl rfl ?_;refine kW ?_;refine ae (eZ (decide_eq_false (show ¬(num b:Int)=0 by omega))) rfl rfl rfl rfl rfl rfl rfl ?_;refine kW ?_;refine ae (bT (decide_eq_true (show(num b:Int)=1 by omega))) rfl rfl rfl rfl rfl rfl rfl ?_;exact kF
    ·obtain⟨g,hg⟩:∃g,Nat.gcd (num a) (num b)=g:=⟨_,rfl⟩
     have hg1:g≠1:=fun e=>h ⟨h1,h2,h3,h4,hg.trans e⟩
     refine kV func224 ?_;refine ae (bY (by omega) h1) rfl rfl rfl rfl rfl rfl rfl ?_;refine kW ?_;refine ae (bY (by omega) h2) rfl rfl rfl rfl rfl rfl rfl ?_;refine kW ?_;refine ae (eZ (decide_eq_false (show ¬(num b:Int)=0 by omega))) rfl rfl rfl rfl rfl rfl rfl ?_;refine kW ?_;refine ae (bT (decide_eq_false (show ¬(num b:Int)=1 by omega))) rfl rfl rfl rfl rfl rfl rfl ?_;refine kW ?_;refine ae (ll (sa.fit (by omega)) (sb.fit (by omega)) (g:=g) (by rw[Int.natAbs_natCast,Int.natAbs_natCast];exact hg)) rfl rfl rfl rfl rfl rfl rfl ?_;refine kW ?_;refine ae (bT (decide_eq_false (show ¬(g:Int)=1 by omega))) rfl rfl rfl rfl rfl rfl rfl ?_;exact kF
  ·refine kV func224 ?_;refine ae (bY (by omega) h1) rfl rfl rfl rfl rfl rfl rfl ?_;refine kW ?_;refine ae (fC (by omega) h2) rfl rfl rfl rfl rfl rfl rfl ?_;exact kF
 ·by_cases h2:il false b
  ·refine kV func224 ?_;refine ae (fC (by omega) h1) rfl rfl rfl rfl rfl rfl rfl ?_;refine kW ?_;refine ae (bY (by omega) h2) rfl rfl rfl rfl rfl rfl rfl ?_;exact kF
  ·refine kV func224 ?_;refine ae (fC (by omega) h1) rfl rfl rfl rfl rfl rfl rfl ?_;refine kW ?_;refine ae (fC (by omega) h2) rfl rfl rfl rfl rfl rfl rfl ?_;exact kF
theorem xv {c:UInt8} {t:List UInt8} (h:c∈t):∃a b,t=a++c::b∧c ∉ a:=by
 induction t with
 |nil=>cases h
 |cons x t ih=>
  by_cases hx:x=c
  ·subst hx;exact⟨[],t,rfl,by simp⟩
  ·have h':c∈t:=by
    rcases List.mem_cons.1 h with e|e
    ·exact absurd e.symm hx
    ·exact e
   obtain⟨a,b,rfl,hn⟩:=ih h'
   exact⟨x::a,b,rfl,fun e=>by
    rcases List.mem_cons.1 e with e|e
    ·exact hx e.symm
    ·exact hn e⟩
theorem lK {t:List UInt8} (hl:t.length≤65536):(∃q,fa t=some q∧jb 200000 q∧aa Tryz.prog 216 [dL t] (.tup [dQ q,dB true]))∨(fa t=none∧ ∃x,(x=DI∨x= .agg (aZ 0++aZ 1))∧aa Tryz.prog 216 [dL t] (.tup [x,dB false])):=by
 by_cases h47:47∈t
 ·obtain⟨a,b,rfl,ha⟩:=xv h47
  have hab:a.length+b.length≤65536:=by simp at hl;omega
  rw[Bh ha]
  by_cases h:il false a∧il false b∧num b≠0∧num b≠1∧Nat.gcd (num a) (num b)=1
  ·rw[if_pos h]
   refine .inl ⟨_,rfl, .divInt ((eM (eF h.1)).mono (by omega)) ((eM (eF h.2.1)).mono (by omega)) (by have:=h.2.2.1;omega),?_⟩;refine kV func216 ?_;refine ae (vc ha (by omega)) rfl rfl rfl rfl rfl rfl rfl ?_;refine kW ?_;refine kC (rK hab h rfl) ?_;exact kF
  ·rw[if_neg h]
   refine .inr ⟨rfl,DI, .inl rfl,?_⟩;refine kV func216 ?_;refine ae (vc ha (by omega)) rfl rfl rfl rfl rfl rfl rfl ?_;refine kW ?_;refine kC (qX hab h) ?_;exact kF
 by_cases h46:46∈t
 ·obtain⟨a,b,rfl,ha⟩:=xv h46
  have hab:a.length+b.length≤65536:=by simp at hl;omega
  rw[AD h47 ha]
  by_cases h:il false a∧b≠[]∧ ∀x∈b,da x
  ·rw[if_pos h]
   have hp0:((10^b.length:Nat):Int)≠0:=by have:=Nat.pow_pos (a:=10) (n:=b.length) (by decide);omega
   have s1:Sz 200000 ((10^b.length:Nat):Int):=by rw[Int.natCast_pow];exact(py b.length).mono (by omega)
   have s2:Sz 200000 ((num a*10^b.length+num b:Nat):Int):=by
    rw[Int.natCast_add,Int.natCast_mul,Int.natCast_pow];exact(((eM (eF h.1)).of_pow (j:=131072) (by omega)).add ((eM h.2.2).mono (by omega))).mono (by omega)
   refine .inl ⟨_,rfl, .divInt s2 s1 hp0,?_⟩;refine kV func216 ?_;refine kQ (g8 h47) ?_;refine ae (vc ha (by omega)) rfl rfl rfl rfl rfl rfl rfl ?_;refine kW ?_;refine kC (tZ hab h.1 h.2.1 h.2.2 rfl) ?_;exact kF
  ·rw[if_neg h]
   refine .inr ⟨rfl,DI, .inl rfl,?_⟩;refine kV func216 ?_;refine kQ (g8 h47) ?_;refine ae (vc ha (by omega)) rfl rfl rfl rfl rfl rfl rfl ?_;refine kW ?_;refine kC (rU hab h) ?_;exact kF
 rw[xh h47 h46]
 by_cases h:il false t
 ·rw[if_pos h]
  refine .inl ⟨_,rfl,⟨(eM (eF h)).mono (by omega),(Sz.small (z:=1) (by decide)).mono (by omega)⟩,?_⟩;refine kV func216 ?_;refine kQ (g8 h47) ?_;refine kQ (g8 h46) ?_;refine kQ (bY hl h) ?_;refine kC (j7) ?_;exact kF
 ·rw[if_neg h]
  refine .inr ⟨rfl,_, .inr rfl,?_⟩;refine kV func216 ?_;refine kQ (g8 h47) ?_;refine kQ (g8 h46) ?_;refine kQ (fC hl h) ?_;refine kC (j7) ?_;exact kF
theorem x5 {s:List UInt8} {q:Rat} (h:bJ s=some q):aa Tryz.prog 202 [dL s] (.tup [dQ q,dN .i64 0]):=by
 have hsz:=aB s;unfold bJ at h
 split at h
 ·rename_i hl
  have hdl:=lA s;rcases lK (t:=dA s) (by omega)with⟨p,hp,sp,c1⟩| ⟨hp,_⟩
  ·rw[hp]at h
   dsimp only at h;cases hn:bV s
   ·rw[hn]at h
    simp only[Bool.false_eq_true,if_false,Option.some.injEq]at h
    subst h;refine kV func202 ?_;refine kQ (mi s) ?_;refine dD (T:=TT) rfl ?_ ?_
    ·exact decide_eq_false (by omega)
    refine kW ?_;refine kC (c1) ?_;refine kN ?_;refine kI ?_
    refine kO3 ?_
    refine kB false ?_ ?_
    ·exact hn
    refine kW ?_;refine dD (T:=TT) rfl ?_ ?_
    ·exact hn
    exact kF
   ·rw[hn]at h
    simp only[if_true]at h
    split at h
    ·cases h
    ·rename_i hp0
     cases h;have h0:¬p.num=0:=fun e=>hp0 (Rat.num_eq_zero.1 e)
     refine kV func202 ?_;refine kQ (mi s) ?_;refine dD (T:=TT) rfl ?_ ?_
     ·exact decide_eq_false (by omega)
     refine kW ?_;refine kC (c1) ?_;refine kN ?_;refine kI ?_
     refine kO3 ?_
     refine kB true ?_ ?_
     ·exact hn
     refine kW ?_;refine kQ (eZ (decide_eq_false h0)) ?_;refine eY (T:=TT) rfl ?_ ?_
     ·exact hn
     refine kW ?_;refine ae (CD sp (by decide) rfl) rfl rfl rfl rfl rfl rfl rfl ?_;exact kF
  ·rw[hp]at h;cases h
 ·cases h
theorem wm {s:List UInt8} (h:bJ s=none):aa Tryz.prog 202 [dL s] (.tup [DI,dN .i64 2]):=by
 have hsz:=aB s
 by_cases hl:s.length≤65536
 ·have hdl:=lA s
  unfold bJ at h;rw[if_pos hl]at h;rcases lK (t:=dA s) (by omega)with⟨p,hp,sp,c1⟩| ⟨hp,x,hx,c1⟩
  ·rw[hp]at h
   dsimp only at h;cases hn:bV s
   ·rw[hn]at h
    simp at h
   ·rw[hn]at h
    simp only[if_true]at h
    split at h
    ·rename_i hp0
     have h0:p.num=0:=Rat.num_eq_zero.2 hp0;refine kV func202 ?_;refine kQ (mi s) ?_;refine dD (T:=TT) rfl ?_ ?_
     ·exact decide_eq_false (by omega)
     refine kW ?_;refine kC (c1) ?_;refine kN ?_;refine kI ?_
     refine kO3 ?_
     refine kB true ?_ ?_
     ·exact hn
     refine kW ?_;refine kC (eZ (decide_eq_true h0)) ?_;exact kF
    ·cases h
  ·rcases hx with rfl|rfl
   ·refine kV func202 ?_;refine kQ (mi s) ?_;refine dD (T:=TT) rfl ?_ ?_
    ·exact decide_eq_false (by omega)
    refine kW ?_;refine kC (c1) ?_;exact kF
   ·refine kV func202 ?_;refine kQ (mi s) ?_;refine dD (T:=TT) rfl ?_ ?_
    ·exact decide_eq_false (by omega)
    refine kW ?_;refine kC (c1) ?_;exact kF
 ·refine kV func202 ?_;refine kQ (mi s) ?_;refine eY (T:=TT) rfl ?_ ?_
  ·exact decide_eq_true (by omega)
  exact kF
end Go.Proofs.YtikbnnljjeefgaaGreatDoor
