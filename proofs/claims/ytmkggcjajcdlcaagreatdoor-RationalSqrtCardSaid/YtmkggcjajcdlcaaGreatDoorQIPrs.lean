/- Parse of the program, over plain data. -/
import Derived.Test.YtmkggcjajcdlcaaGreatDoorQZ1
import Derived.Test.YtmkggcjajcdlcaaGreatDoorQZ3
import Derived.Test.YtmkggcjajcdlcaaGreatDoorQShelf
set_option maxHeartbeats 100000000
set_option linter.all false
open Go.Proofs.Tryz
namespace Go.Proofs.YtmkggcjajcdlcaaGreatDoor
open Go.RowKit
theorem gP (s:List UInt8):ab Tryz.prog 147 [dL s,dL [45]] (.tup [dL (js s),dB (cL s)]):=
 ⟨ax func147 rfl rfl,fun S w vs hS hv=>by
  match vs,hv with
  | [v,u],⟨h1,h2,_⟩=>
   obtain rfl:=b6 h1;obtain rfl:=b6 h2;refine(Tryz.strings_CutPrefix (Bs s) (Bs [45]) w).mono ?_;rintro e w' ⟨rfl,rfl⟩
   have e1:(⟨(Lib.trimPrefix (Bs s).data.toList (Bs [45]).data.toList).toArray⟩:ByteArray)=Bs (js s):=by
    unfold Bs
    congr 2
    cases s with
    |nil=>rfl
    |cons c r=>
     by_cases h:c=45
     ·simp[Lib.trimPrefix,Lib.hasPrefix,js,h,List.isPrefixOf]
     ·have h':¬45=c:=fun e=>h e.symm
      simp[Lib.trimPrefix,Lib.hasPrefix,js,h,h',List.isPrefixOf]
   have e2:Lib.hasPrefix (Bs s).data.toList (Bs [45]).data.toList=cL s:=by
    cases s with
    |nil=>rfl
    |cons c r=>
     by_cases h:c=45
     ·simp[Bs,Lib.hasPrefix,cL,h,List.isPrefixOf]
     ·have h1':(45 == c)=false:=beq_eq_false_iff_ne.2 fun e=>h e.symm
      have h2':(c == 45)=false:=beq_eq_false_iff_ne.2 h
      simp[Bs,Lib.hasPrefix,cL,h1',h2',List.isPrefixOf]
   rw[e1,e2];refine⟨_,rfl,⟨[.string (Bs (js s)), .bool (cL s)],rfl,rfl,fun i x u h1 h2=>?_⟩,Below.refl _ _⟩
   match i with
   |0=>simp at h1 h2;subst h1 h2;exact AV.M.val rfl
   |1=>simp at h1 h2;subst h1 h2;exact AV.M.val rfl
   |i+2=>simp at h1⟩
def pV:List Nat→TV
 | []=> .nil
 |a::r=> .own 1000001 (a::r).length 1 133
def pX:List Nat→Option (List AV)
 | []=>none
 |a::r=>some ((a::r).map fun x:Nat=>AV.val (aS x))
theorem pZ (a b:List UInt8):num (a++b)=num a*10^b.length+num b:=by
 have:∀n (b:List UInt8),b.length=n→num (a++b)=num a*10^b.length+num b:=by
  intro n
  induction n with
  |zero=>intro b hb;rw[List.eq_nil_of_length_eq_zero hb];simp[num]
  |succ n ih=>
   intro b hb
   obtain⟨b',c,rfl⟩:∃l' c,b=l'++[c]:=by
    rcases List.eq_nil_or_concat b with h| ⟨l',c,h⟩
    ·subst h;simp at hb
    ·exact⟨l',c,by simpa using h⟩
   rw[← List.append_assoc,ip,ih b' (by simpa using hb),ip,List.length_append,List.length_singleton,Nat.pow_succ];generalize num a=x,10^b'.length=y;rw[← Nat.mul_assoc,Nat.mul_comm (x*y) 10];omega
 exact this _ b rfl
theorem t6 {m:List Nat} (h:0<m.length):pV m= .own 1000001 m.length 1 133:=by
 cases m with
 |nil=>exact absurd h (by decide)
 |cons a r=>rfl
theorem ut {m:List Nat} (h:0<m.length):pX m=some (m.map fun x:Nat=>AV.val (aS x)):=by
 cases m with
 |nil=>exact absurd h (by decide)
 |cons a r=>rfl
theorem pp {F C c w i v t:Nat} (hF:F≤1000000000) (hc:c<4294967296) (hw:w<4294967296) (h:v+4294967296^i*c=F*t+C):(c+w*F)/4294967296<4294967296∧v+4294967296^i*((c+w*F)%4294967296)+4294967296^(i+1)*((c+w*F)/4294967296)=F*(t+4294967296^i*w)+C:=by
 have hb:w*F≤4294967295*1000000000:=Nat.mul_le_mul (by omega) hF;refine⟨by omega,?_⟩;rw[Nat.pow_succ,Nat.mul_assoc,Nat.add_assoc,← Nat.mul_add,Nat.mod_add_div,Nat.mul_add,← Nat.add_assoc,h,Nat.mul_add];rw[← Nat.mul_assoc (4294967296^i),Nat.mul_comm (4294967296^i*w) F];omega
theorem fX (s:List UInt8):ab Tryz.prog 258 [dL s] (.tup [dZ (pz s).1,dN .i64 (pz s).2]):=by
 have z0:dZ 0= .agg [.val (.bool false), .sl 0 []]:=by unfold dZ;rw[e0]
 have hsz:=bD s
 by_cases hl:s.length≤65536
 ·have hdl:=nS s
  refine kV func258 ?_;refine cP (T:=TT) rfl ?_ ?_
  ·exact decide_eq_false (by omega)
  refine dD ?_;refine kW ?_;refine kC (gP s) ?_;refine kN ?_
  by_cases hgood:js s≠[]∧((∀c r,js s=c::r→c≠48)∨((js s).length=1∧cL s=false))
  ·refine xT ⟨[(2, .box 0 0),(3, .d (dN .i64 0)),(4, .d (dL (js s))),(5, .d (dB (cL s)))],[(0,some [.val (.bool false), .sl 0 []])]⟩ (fun s' hw=>?_) (fun R hR hret=>?_)
   ·refine aM ?_
    refine nQ hw rfl ?_;refine kN ?_;refine aM ?_;refine bL (T:=TT) ?_;refine dO (List UInt8 × List Nat) (fun p=>∃dn,js s=dn++p.1∧(∀c∈dn,eF c)∧val p.2=num dn∧Wd p.2∧p.2.length≤dn.length) (fun p=>⟨[(2, .box 0 0),(3, .d (dN .i64 0)),(5, .d (dB (cL s))),(4, .d (dL p.1)),(6,pV p.2)],[(0,some [.val (.bool false), .sl 0 []]),(1000001,pX p.2)]⟩) (fun p=>p.1.length) (js s,[]) ⟨[],rfl,by simp,rfl,Wd.nil,Nat.le_refl _⟩ (weak ⟨rfl,rfl,rfl,rfl,rfl,trivial⟩ ⟨rfl,trivial⟩ rfl) ?_;rintro⟨rest,m⟩ ⟨dn,hdn,hdd,hval,hWd,hml⟩;dsimp only at hdn hval hWd hml ⊢;have hdnl:=congrArg List.length hdn;rw[List.length_append]at hdnl;have hsr:=bD rest;refine kR ?_;refine ee rfl (fun h=>?_) (fun h=>?_)
    ·have h:=of_decide_eq_true h
     have hr0:0<rest.length:=by omega
     refine dD ?_;obtain⟨nn,hnn⟩:∃nn,(rest.length-1)%9+1=nn:=⟨_,rfl⟩;have hn9:nn≤9:=by omega
     have hnr:nn≤rest.length:=by have:=Nat.mod_le (rest.length-1) 9;omega
     have hmod:((rest.length-1:Nat):Int).tmod 9=((rest.length-1)%9:Nat):=by rw[show(9:Int)=((9:Nat):Int) from rfl,Int.ofNat_tmod]
     refine bL (T:=TT) ?_;refine aM ?_;refine an rfl ?_
     refine kO2 ?_
     refine fZ (v':= .int .i64 ((rest.length-1:Nat))) rfl rfl rfl rfl ?_ ?_
     ·exact congrArg (Value.int .i64) (by rw[hsr,IntWalk.i64_in _ (by omega)];omega)
     refine eQ rfl rfl rfl rfl ?_ rfl rfl (oR (by decide)) ?_
     ·rfl
     refine kJ (nn) ?_;refine kN ?_;refine kR ?_;refine wU ⟨[(2, .box 0 0),(3, .d (dN .i64 0)),(5, .d (dB (cL s))),(4, .d (dL rest)),(7, .d (dN .i64 nn)),(8, .d (dN .u64 (num (rest.take nn)))),(9, .d (dN .u64 (10^nn:Nat))),(6,pV m)],[(0,some [.val (.bool false), .sl 0 []]),(1000001,pX m)]⟩ (∀c∈rest.take nn,eF c) (fun hdt s' hw=>?_) (fun R hR hret=>?_)
     ·have hCl:=nT
      have hdd':∀c∈dn++rest.take nn,eF c:=fun c hc=>(List.mem_append.1 hc).elim (hdd c) (hdt c)
      have hdn':js s=(dn++rest.take nn)++rest.drop nn:=by rw[List.append_assoc,List.take_append_drop];exact hdn
      have hlen':(dn++rest.take nn).length=dn.length+nn:=by rw[List.length_append,List.length_take,Nat.min_eq_left hnr]
      have hdr:(rest.drop nn).length<rest.length:=by rw[List.length_drop];omega
      obtain⟨C,hC⟩:∃C,num (rest.take nn)=C:=⟨_,rfl⟩;obtain⟨F,hF⟩:∃F,10^nn=F:=⟨_,rfl⟩;have hF9:F≤1000000000:=by rw[← hF];exact Nat.pow_le_pow_right (by decide) hn9
      have hC9:C<F:=by
       rw[← hC,← hF];have:=nT _ (rest.take nn) rfl (fun c hc=>hdd' c (List.mem_append.2 (.inr hc)))
       rwa[List.length_take,Nat.min_eq_left hnr]at this
      have hnum':num (dn++rest.take nn)=F*num dn+C:=by
       rw[pZ,List.length_take,Nat.min_eq_left hnr,hF,hC,Nat.mul_comm]
      rw[hC,hF]at hw;cases m with
      |nil=>
       have hdn0:num dn=0:=hval.symm;refine aM ?_;refine aM ?_;refine nQ hw rfl ?_;refine kN ?_;refine bL (T:=TT) ?_;refine dO Unit (fun _=>True) (fun _=>⟨[(2, .box 0 0),(3, .d (dN .i64 0)),(5, .d (dB (cL s))),(4, .d (dL rest)),(7, .d (dN .i64 nn)),(8, .d (dN .u64 C)),(6, .nil),(70, .d (dN .i64 0)),(71, .d (dN .i64 0))],[(0,some [.val (.bool false), .sl 0 []])]⟩) (fun _=>0) () trivial (weak ⟨rfl,rfl,rfl,rfl,rfl,rfl,rfl,rfl,rfl,trivial⟩ ⟨rfl,trivial⟩ rfl) ?_;rintro _ _;refine kR ?_;refine cR (T:=TT) rfl ?_;refine eI ?_;have hcv:(F*0:Nat)+C=C:=by omega
       refine aM ?_;refine aM ?_;refine an rfl ?_;refine kO ?_
       by_cases hC0:C=0
       ·refine kE ?_
        refine kN ?_;refine cR (T:=TT) rfl ?_;refine dD ?_;refine an rfl ?_
        refine kO2 ?_
        refine pq fA (i:=nn) hnr rfl rfl rfl rfl rfl rfl rfl rfl ?_;refine kN ?_;refine⟨(rest.drop nn,[]),⟨dn++rest.take nn,hdn',hdd',?_,Wd.nil,Nat.zero_le _⟩,hdr,weak ⟨rfl,rfl,rfl,rfl,rfl,trivial⟩ ⟨rfl,trivial⟩ rfl⟩;rw[hnum',hdn0,hC0];rfl
       ·have hCp:0<C:=by omega
        refine kT ?_;refine kN ?_;refine du (T:=TT) rfl ?_;refine an rfl ?_
        refine kO2 ?_
        refine fZ (v':= .int .u32 (C)) rfl rfl rfl rfl ?_ ?_
        ·exact congrArg (Value.int .u32) (by rw[IntWalk.u32_in _ (by omega)])
        refine kO ?_;refine wJ (by decide) (by decide) rfl rfl rfl rfl rfl rfl rfl rfl rfl rfl rfl (.nil rfl rfl) rfl rfl ?_;refine kN ?_;refine an rfl ?_
        refine kO2 ?_
        refine pq fA (i:=nn) hnr rfl rfl rfl rfl rfl rfl rfl rfl ?_;refine kN ?_;refine⟨(rest.drop nn,[C]),⟨dn++rest.take nn,hdn',hdd',?_, .cons (by omega) .nil,by rw[hlen'];show 1≤_;omega⟩,hdr,?_⟩
        ·rw[hnum',hdn0]
         simp[val]
        ·refine ez.trans (b:=⟨[(2, .box 0 0),(3, .d (dN .i64 0)),(5, .d (dB (cL s))),(4, .d (dL (rest.drop nn))),(6, .own 1027004 1 1 133)],[(0,some [.val (.bool false), .sl 0 []]),(1027004,some [.val (aS C)])]⟩) (weak ⟨rfl,rfl,rfl,rfl,rfl,trivial⟩ ⟨rfl,rfl,trivial⟩ rfl) ((jl (q:=6) (j:=1027004) (j':=1000001) (m:=1) (k:=1) (e:=133) (cs:=[.val (aS C)]) rfl rfl rfl rfl).trans (weak ⟨rfl,rfl,rfl,rfl,rfl,trivial⟩ ⟨rfl,rfl,trivial⟩ rfl))
      |cons x r=>
       obtain⟨m,hm⟩:∃m,x::r=m:=⟨_,rfl⟩;have hm0:0<m.length:=by rw[← hm];simp
       rw[hm,t6 hm0,ut hm0]at hw;rw[hm]at hval hWd hml;clear hm;refine aM ?_;refine aM ?_;refine nQ hw rfl ?_;refine kN ?_;refine bL (T:=TT) ?_
       refine dO (List Nat × Nat) (fun p=>p.1.length≤m.length∧Wd p.1∧p.2<4294967296∧val p.1+4294967296^p.1.length*p.2=F*val (m.take p.1.length)+C) (fun p=>⟨[(2, .box 0 0),(3, .d (dN .i64 0)),(5, .d (dB (cL s))),(4, .d (dL rest)),(7, .d (dN .i64 nn)),(8, .d (dN .u64 p.2)),(9, .d (dN .u64 F)),(6, .own 1000001 m.length 1 133),(70, .d (dN .i64 m.length)),(71, .d (dN .i64 p.1.length))],[(0,some [.val (.bool false), .sl 0 []]),(1000001,some ((p.1++m.drop p.1.length).map fun x:Nat=>AV.val (aS x)))]⟩) (fun p=>m.length-p.1.length) ([],C) ⟨by simp, .nil,by show C<_;omega,by simp[val]⟩ (weak ⟨rfl,rfl,rfl,rfl,rfl,rfl,rfl,rfl,rfl,rfl,trivial⟩ ⟨rfl,rfl,trivial⟩ rfl) ?_;rintro⟨xs,c⟩ ⟨hxl,hxw,hc,heq⟩;dsimp only at hxl hxw hc heq ⊢;refine kR ?_;refine aM ?_;refine ee rfl (fun h=>?_) (fun h=>?_)
       ·have h:=of_decide_eq_true h
        have hi:xs.length<m.length:=by omega
        refine dD ?_;refine aM ?_;refine bL (T:=TT) ?_;refine kR ?_;refine aM ?_;refine an rfl ?_
        refine kO3 ?_
        refine tq (i:=xs.length) hi rfl rfl rfl rfl rfl rfl rfl rfl rfl ?_
        have hget:((xs++m.drop xs.length).map fun x:Nat=>AV.val (aS x))[xs.length*1]? =some (.val (aS m[xs.length])):=by
         rw[Nat.mul_one,List.getElem?_map,List.getElem?_append_right (Nat.le_refl _),Nat.sub_self,List.getElem?_drop,Nat.add_zero,List.getElem?_eq_getElem hi];rfl
        have hwi:m[xs.length]<4294967296:=hWd _ (List.getElem_mem hi)
        obtain⟨hc',heq'⟩:=pp hF9 hc hwi heq;have hwF:m[xs.length]*F≤4294967295*1000000000:=Nat.mul_le_mul (by omega) hF9;refine vi hget rfl rfl rfl rfl rfl rfl rfl rfl rfl ?_;obtain⟨W,hW⟩:∃W,m[xs.length]=W:=⟨_,rfl⟩;obtain⟨p,hp⟩:∃p,W*F=p:=⟨_,rfl⟩;have hpr:(W:Int)*(F:Nat)=(p:Nat):=by rw[← hp,Int.natCast_mul]
        have htk:val (m.take (xs.length+1))=val (m.take xs.length)+4294967296^xs.length*W:=by rw[ae,List.getD_eq_getElem?_getD,List.getElem?_eq_getElem hi,hW];rfl
        rw[hW,hp]at hwF hc' heq';rw[hW];rw[hW]at hwi;obtain⟨t,ht⟩:∃t,c+p=t:=⟨_,rfl⟩;rw[ht]at hc' heq';refine fZ (v':= .int .u64 (W)) rfl rfl rfl rfl ?_ ?_
        ·exact congrArg (Value.int .u64) (by rw[IntWalk.u64_in _ (by omega)])
        refine kO ?_;refine fZ (v':= .int .u64 (p)) rfl rfl rfl rfl ?_ ?_
        ·exact congrArg (Value.int .u64) (by rw[hpr,IntWalk.u64_in _ (by omega)])
        refine fZ (v':= .int .u64 (t)) rfl rfl rfl rfl ?_ ?_
        ·exact congrArg (Value.int .u64) (by rw[IntWalk.u64_in _ (by omega)];omega)
        refine kN ?_;refine aM ?_;refine an rfl ?_
        refine kO3 ?_
        refine fZ (v':= .int .u32 ((t%4294967296:Nat))) rfl rfl rfl rfl ?_ ?_
        ·exact congrArg (Value.int .u32) (by rw[IntKind.wrap_u32];omega)
        refine tq (i:=xs.length) hi rfl rfl rfl rfl rfl rfl rfl rfl rfl ?_
        have hsp:b7 ((xs++m.drop xs.length).map fun x:Nat=>AV.val (aS x)) (xs.length*1) [.val (aS (t%4294967296))]=((xs++[t%4294967296])++m.drop (xs++[t%4294967296]).length).map fun x:Nat=>AV.val (aS x):=by
         unfold b7;rw[Nat.mul_one,← List.map_take,← List.map_drop,List.take_left,List.length_singleton,← List.drop_drop,List.drop_left,List.drop_drop,List.length_append,List.length_singleton,List.map_append,List.map_append];rfl
        refine tO (by rw[List.length_map,List.length_append,List.length_drop];omega) hsp rfl rfl rfl rfl rfl rfl rfl rfl rfl rfl ?_;refine kN ?_;refine an rfl ?_;refine kO ?_;refine fZ (v':= .int .u64 ((t/4294967296:Nat))) rfl rfl rfl rfl ?_ ?_
        ·exact congrArg (Value.int .u64) (by rw[show(2:Int)^min (Int.toNat 32) IntKind.u64.bits=4294967296 by decide,Int.fdiv_eq_ediv_of_nonneg _ (by decide)];omega)
        refine kN ?_;refine an rfl ?_;refine fZ (v':= .int .i64 ((xs++[t%4294967296]).length)) rfl rfl rfl rfl ?_ ?_
        ·exact congrArg (Value.int .i64) (by rw[IntWalk.i64_in _ (by omega)];simp)
        refine kN ?_;refine⟨(xs++[t%4294967296],t/4294967296),⟨by rw[List.length_append];exact hi,hxw.append (.cons (by omega) .nil),hc',?_⟩,?_,weak ⟨rfl,rfl,rfl,rfl,rfl,rfl,rfl,rfl,rfl,rfl,trivial⟩ ⟨rfl,rfl,trivial⟩ rfl⟩
        ·show val (xs++[t%4294967296])+_=_
         rw[List.length_append,List.length_singleton,htk,bg,← heq']
         simp[val]
        ·dsimp only;rw[List.length_append,List.length_singleton];omega
       ·have h:=of_decide_eq_false h
        have hi:xs.length=m.length:=by omega
        rw[hi,List.drop_length,List.append_nil];rw[hi,List.take_length,hval]at heq;have hx0:0<xs.length:=by omega
        refine eI ?_;refine aM ?_;refine aM ?_;refine an rfl ?_;refine kO ?_
        by_cases hc0:c=0
        ·refine kE ?_
         refine kN ?_;refine cR (T:=TT) rfl ?_;refine dD ?_;refine an rfl ?_
         refine kO2 ?_
         refine pq fA (i:=nn) hnr rfl rfl rfl rfl rfl rfl rfl rfl ?_;refine kN ?_;refine⟨(rest.drop nn,xs),⟨dn++rest.take nn,hdn',hdd',?_,hxw,by rw[hlen',hi];omega⟩,hdr,?_⟩
         ·rw[hnum',← heq,hc0];rfl
         ·dsimp only
          rw[t6 hx0,ut hx0,hi];exact weak ⟨rfl,rfl,rfl,rfl,rfl,trivial⟩ ⟨rfl,rfl,trivial⟩ rfl
        ·have hcp:0<c:=by omega
         refine kT ?_;refine kN ?_;refine du (T:=TT) rfl ?_;refine an rfl ?_
         refine kO2 ?_
         refine fZ (v':= .int .u32 (c)) rfl rfl rfl rfl ?_ ?_
         ·exact congrArg (Value.int .u32) (by rw[IntWalk.u32_in _ (by omega)])
         refine kO ?_;refine wJ (by decide) (by show(m.length+1)*4≤_;omega) rfl rfl rfl rfl rfl rfl rfl rfl rfl rfl rfl (.own rfl rfl) rfl rfl ?_;refine kN ?_;refine an rfl ?_
         refine kO2 ?_
         refine pq fA (i:=nn) hnr rfl rfl rfl rfl rfl rfl rfl rfl ?_;refine kN ?_;have hl1:(xs++[c]).length=m.length+1:=by rw[List.length_append,hi];rfl
         have hb:((xs.map fun x:Nat=>AV.val (aS x)).take (m.length*1)++[.val (aS c)])=(xs++[c]).map fun x:Nat=>AV.val (aS x):=by
          rw[Nat.mul_one,← hi,List.take_of_length_le (by simp),List.map_append];rfl
         refine⟨(rest.drop nn,xs++[c]),⟨dn++rest.take nn,hdn',hdd',?_,hxw.append (.cons hc .nil),by rw[hlen'];dsimp only;omega⟩,hdr,?_⟩
         ·rw[hnum',← heq]
          show val (xs++[c])=_;rw[bg,hi]
          simp[val]
         ·dsimp only
          rw[t6 (by omega),ut (by omega),hl1,← hb];refine ez.trans (b:=⟨[(2, .box 0 0),(3, .d (dN .i64 0)),(5, .d (dB (cL s))),(4, .d (dL (rest.drop nn))),(6, .own 1027004 (m.length+1) 1 133)],[(0,some [.val (.bool false), .sl 0 []]),(1027004,some ((xs.map fun x:Nat=>AV.val (aS x)).take (m.length*1)++[.val (aS c)]))]⟩) (weak ⟨rfl,rfl,rfl,rfl,rfl,trivial⟩ ⟨rfl,rfl,trivial⟩ rfl) ((jl (q:=6) (j:=1027004) (j':=1000001) (m:=m.length+1) (k:=1) (e:=133) (cs:=(xs.map fun x:Nat=>AV.val (aS x)).take (m.length*1)++[.val (aS c)]) rfl rfl rfl rfl).trans (weak ⟨rfl,rfl,rfl,rfl,rfl,trivial⟩ ⟨rfl,rfl,trivial⟩ rfl))
     ·refine kR ?_
      refine bL (T:=TT) ?_;refine dO Nat (fun i=>i≤nn∧ ∀c∈rest.take i,eF c) (fun i=>⟨[(2, .box 0 0),(3, .d (dN .i64 0)),(5, .d (dB (cL s))),(4, .d (dL rest)),(7, .d (dN .i64 nn)),(8, .d (dN .u64 (num (rest.take i)))),(9, .d (dN .u64 (10^i:Nat))),(46, .d (dN .i64 nn)),(47, .d (dN .i64 i)),(6,pV m)],[(0,some [.val (.bool false), .sl 0 []]),(1000001,pX m)]⟩) (fun i=>nn-i) 0 ⟨by omega,by simp⟩ (weak ⟨rfl,rfl,rfl,rfl,rfl,rfl,rfl,rfl,rfl,rfl,trivial⟩ (by cases m<;>first|exact⟨rfl,rfl,trivial⟩|exact⟨rfl,trivial⟩) (by cases m<;>rfl)) ?_;rintro i ⟨hi,hd⟩;refine kR ?_;refine aM ?_;refine ee rfl (fun h=>?_) (fun h=>?_)
      ·have h:=of_decide_eq_true h
       have hi:i<nn:=by omega
       have hir:i<rest.length:=by omega
       refine dD ?_;refine aM ?_;refine bL (T:=TT) ?_;refine kR ?_;refine aM ?_;refine an rfl ?_
       refine kO2 ?_
       refine qK fA (i:=i) (c:=rest[i]) (List.getElem?_eq_getElem hir) rfl rfl rfl rfl rfl rfl rfl rfl ?_;refine kN ?_;have hmem:rest[i]∈js s:=by rw[hdn,List.mem_append];exact .inr (List.getElem_mem hir)
       refine aM ?_;refine aM ?_;refine an rfl ?_;refine kO ?_
       by_cases h48:rest[i].toNat<48
       ·have hbad:¬xF s:=fun hp=>by have:=(hp.2.2.1 _ hmem).1;omega
        rw[jY hbad,z0]at hret;refine kX ?_;refine Eq.mpr (congrFun hret _) ?_;exact cJ (T:=TT) rfl rfl
       ·refine kE ?_
        refine kO2 ?_
        by_cases h57:rest[i].toNat > 57
        ·have hbad:¬xF s:=fun hp=>by have:=(hp.2.2.1 _ hmem).2;omega
         rw[jY hbad,z0]at hret;refine kX ?_;refine Eq.mpr (congrFun hret _) ?_;exact cJ (T:=TT) rfl rfl
        ·refine kE ?_
         have hD:eF rest[i]:=⟨by omega,by omega⟩;have hdv:=wD hD;have hs1:num (rest.take (i+1))=10*num (rest.take i)+dv rest[i]:=by rw[List.take_succ_eq_append_getElem hir,ip]
         have hb1:=nT _ _ rfl hd;have hb2:10^(rest.take i).length≤10^8:=Nat.pow_le_pow_right (by decide) (by rw[List.length_take];omega);have hb3:10^i≤10^8:=Nat.pow_le_pow_right (by decide) (by omega);refine kN ?_;refine cR (T:=TT) rfl ?_;refine dD ?_;refine aM ?_;refine an rfl ?_;refine kO ?_;refine fZ (v':= .int .u64 ((10*num (rest.take i):Nat))) rfl rfl rfl rfl ?_ ?_
         ·exact congrArg (Value.int .u64) (by rw[IntWalk.u64_in _ (by omega)];omega)
         refine kO ?_;refine fZ (v':= .int .u8 ((dv rest[i]:Nat))) rfl rfl rfl rfl ?_ ?_
         ·exact congrArg (Value.int .u8) (by rw[IntWalk.u8_in _ (by omega)];unfold dv;omega)
         refine fZ (v':= .int .u64 ((dv rest[i]:Nat))) rfl rfl rfl rfl ?_ ?_
         ·exact congrArg (Value.int .u64) (by rw[IntWalk.u64_in _ (by omega)])
         refine fZ (v':= .int .u64 ((num (rest.take (i+1)):Nat))) rfl rfl rfl rfl ?_ ?_
         ·exact congrArg (Value.int .u64) (by rw[hs1,IntWalk.u64_in _ (by omega)];omega)
         refine kN ?_;refine an rfl ?_;refine kO ?_;refine fZ (v':= .int .u64 ((10^(i+1):Nat))) rfl rfl rfl rfl ?_ ?_
         ·exact congrArg (Value.int .u64) (by rw[Nat.pow_succ];generalize 10^i=pw at hb3 ⊢;rw[IntWalk.u64_in _ (by omega)];omega)
         refine kN ?_;refine an rfl ?_;refine kJ ((i+1:Nat)) ?_;refine kN ?_;refine⟨i+1,⟨hi,fun c hc=>?_⟩,by omega,weak ⟨rfl,rfl,rfl,rfl,rfl,rfl,rfl,rfl,rfl,rfl,trivial⟩ (by cases m<;>first|exact⟨rfl,rfl,trivial⟩|exact⟨rfl,trivial⟩) (by cases m<;>rfl)⟩;rw[List.take_succ_eq_append_getElem hir,List.mem_append]at hc;rcases hc with hc|hc
         ·exact hd c hc
         ·rw[List.mem_singleton]at hc;rw[hc];exact hD
      ·have h:=of_decide_eq_false h
       have hin:i=nn:=by omega
       subst hin;refine eI ?_;exact hR hd _ (weak ⟨rfl,rfl,rfl,rfl,rfl,rfl,rfl,rfl,trivial⟩ (by cases m<;>first|exact⟨rfl,rfl,trivial⟩|exact⟨rfl,trivial⟩) (by cases m<;>rfl))
    ·have h:=of_decide_eq_false h
     have hr0:rest.length=0:=by omega
     obtain rfl:=List.eq_nil_of_length_eq_zero hr0;rw[List.append_nil]at hdn;have hok:xF s:=⟨hl,hgood.1,by rw[hdn];exact hdd,hgood.2⟩;have hz:af (cL s) m=wi (cL s) (num (js s)):=by unfold af wi;rw[hval,hdn]
     rw[wM hok];refine eI ?_;cases m with
     |nil=>
      refine kW ?_;refine kC (dK (neg:=cL s) (xs:=[]) Wd.nil hz) ?_;exact kF
     |cons x r=>
      refine aM ?_;refine nQ (oC (q:=6) rfl rfl) rfl ?_;refine kW ?_;refine kC (dK (neg:=cL s) (xs:=x::r) hWd hz) ?_;exact kF
   ·clear hret
    cases hp:js s with
    |nil=>exact absurd hp hgood.1
    |cons c r=>
     refine aM ?_;refine an rfl ?_;refine kO ?_;have hsz':=bD (c::r);have hfin:TV.d (dL (c::r))=TV.d (dL (js s)):=by rw[hp]
     refine eQ rfl rfl rfl rfl rfl rfl rfl ((iB (a:=c::r) (b:=[])).trans (congrArg (fun b=>some (Value.bool b)) (decide_eq_false (by simp)))) ?_
     refine kO2 ?_
     refine qK fA (i:=0) (c:=c) rfl rfl rfl rfl rfl rfl rfl rfl rfl ?_
     by_cases h48:c=48
     ·subst h48
      have hg2:((48:UInt8)::r).length=1∧cL s=false:=by
       rcases hgood.2 with h|h
       ·exact absurd rfl (h _ _ hp)
       ·rw[hp]at h;exact h
      refine kO4 ?_
      refine kE ?_;have hneg:TV.d (dB false)=TV.d (dB (cL s)):=by rw[hg2.2]
      generalize cL s=ng at *;obtain rfl:=hg2.2;refine kW ?_;refine dD ?_;exact hR _ (weak ⟨rfl,rfl,hfin,rfl,trivial⟩ ⟨rfl,trivial⟩ rfl)
     ·have hn:c.toNat≠48:=fun e=>h48 (UInt8.toNat_inj.1 e)
      refine kB false ?_ ?_
      ·exact beq_eq_false_iff_ne.2 (by omega)
      refine kW ?_;refine dD ?_;exact hR _ (weak ⟨rfl,rfl,hfin,rfl,trivial⟩ ⟨rfl,trivial⟩ rfl)
  ·rw[jY (fun h=>hgood ⟨h.2.1,h.2.2.2⟩),z0]
   cases hp:js s with
   |nil=>
    refine aM ?_;refine aM ?_;refine an rfl ?_;refine kO ?_;refine eQ rfl rfl rfl rfl rfl rfl rfl (iB (a:=[]) (b:=[])) ?_;exact kF
   |cons c r=>
    have hc:c=48∧(1<(c::r).length∨cL s=true):=by
     refine Classical.byContradiction fun hno=>hgood ⟨by rw[hp];simp,?_⟩
     rw[hp]
     by_cases h48:c=48
     ·refine .inr ⟨?_,?_⟩
      ·apply Classical.byContradiction
       intro h1;exact hno ⟨h48, .inl (by simp at h1 ⊢;exact List.length_pos_iff.2 h1)⟩
      ·cases hq:cL s
       ·rfl
       ·exact absurd ⟨h48, .inr hq⟩ hno
     ·exact .inl fun x q e=>by cases e;exact h48
    obtain⟨rfl,hc⟩:=hc;have hsz':=bD ((48:UInt8)::r);refine aM ?_;refine aM ?_;refine an rfl ?_;refine kO ?_;refine eQ rfl rfl rfl rfl rfl rfl rfl ((iB (a:=48::r) (b:=[])).trans (congrArg (fun b=>some (Value.bool b)) (decide_eq_false (by simp)))) ?_
    refine kO2 ?_
    refine qK fA (i:=0) (c:=48) rfl rfl rfl rfl rfl rfl rfl rfl rfl ?_
    refine kO4 ?_
    by_cases h1:1<((48:UInt8)::r).length
    ·refine kT ?_
     exact kF
    ·refine kE ?_
     have hq:cL s=true:=hc.resolve_left h1;rw[hq];exact kF
 ·rw[jY (fun h=>hl h.1),z0]
  refine kV func258 ?_;refine fb (T:=TT) rfl ?_ ?_
  ·exact decide_eq_true (by omega)
  exact kF
end Go.Proofs.YtmkggcjajcdlcaaGreatDoor
