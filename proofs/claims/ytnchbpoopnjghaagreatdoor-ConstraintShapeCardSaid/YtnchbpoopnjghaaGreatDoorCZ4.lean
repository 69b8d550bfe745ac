/- Parts of a proof: contracts of the functions that the laws reach. -/
import Derived.Test.YtnchbpoopnjghaaGreatDoorCIFmt
set_option maxHeartbeats 100000000
set_option maxRecDepth 100000
set_option linter.all false
open Go.Proofs.Tryz
namespace Go.Proofs.YtnchbpoopnjghaaGreatDoor
open Go.RowKit
theorem zv (s:List UInt8):aa Tryz.prog 109 [dL s,dL [45]] (.tup [dL (mO s),dB (dO s)]):=
 ⟨av func109 rfl rfl,fun S w vs hS hv=>by
  match vs,hv with
  | [v,u],⟨h1,h2,_⟩=>
   obtain rfl:=aT h1;obtain rfl:=aT h2;refine(Tryz.strings_CutPrefix (Bs s) (Bs [45]) w).mono ?_;rintro e w' ⟨rfl,rfl⟩
   have e1:(⟨(Lib.trimPrefix (Bs s).data.toList (Bs [45]).data.toList).toArray⟩:ByteArray)=Bs (mO s):=by
    unfold Bs
    congr 2
    cases s with
    |nil=>rfl
    |cons c r=>
     by_cases h:c=45
     ·simp[Lib.trimPrefix,Lib.hasPrefix,mO,h,List.isPrefixOf]
     ·have h':¬45=c:=fun e=>h e.symm
      simp[Lib.trimPrefix,Lib.hasPrefix,mO,h,h',List.isPrefixOf]
   have e2:Lib.hasPrefix (Bs s).data.toList (Bs [45]).data.toList=dO s:=by
    cases s with
    |nil=>rfl
    |cons c r=>
     by_cases h:c=45
     ·simp[Bs,Lib.hasPrefix,dO,h,List.isPrefixOf]
     ·have h1':(45 == c)=false:=beq_eq_false_iff_ne.2 fun e=>h e.symm
      have h2':(c == 45)=false:=beq_eq_false_iff_ne.2 h
      simp[Bs,Lib.hasPrefix,dO,h1',h2',List.isPrefixOf]
   rw[e1,e2];refine⟨_,rfl,⟨[.string (Bs (mO s)), .bool (dO s)],rfl,rfl,fun i x u h1 h2=>?_⟩,Below.refl _ _⟩
   match i with
   |0=>simp at h1 h2;subst h1 h2;exact AV.M.val rfl
   |1=>simp at h1 h2;subst h1 h2;exact AV.M.val rfl
   |i+2=>simp at h1⟩
def pV:List Nat->TV
 | []=> .nil
 |a::r=> .own 1000001 (a::r).length 1 135
def pX:List Nat->Option (List AV)
 | []=>none
 |a::r=>some ((a::r).map fun x:Nat=>AV.val (bU x))
theorem Ad (a b:List UInt8):num (a++b)=num a*10^b.length+num b:=by
 have:∀n (b:List UInt8),b.length=n->num (a++b)=num a*10^b.length+num b:=by
  intro n
  induction n with
  |zero=>intro b hb;rw[List.eq_nil_of_length_eq_zero hb];simp[num]
  |succ n ih=>
   intro b hb
   obtain⟨b',c,rfl⟩:∃l' c,b=l'++[c]:=by
    rcases List.eq_nil_or_concat b with h| ⟨l',c,h⟩
    ·subst h;simp at hb
    ·exact⟨l',c,by simpa using h⟩
   rw[<- List.append_assoc,m9,ih b' (by simpa using hb),m9,List.length_append,List.length_singleton,Nat.pow_succ];generalize num a=x,10^b'.length=y;rw[<- Nat.mul_assoc,Nat.mul_comm (x*y) 10];omega
 exact this _ b rfl
theorem ID {m:List Nat} (h:0<m.length):pV m= .own 1000001 m.length 1 135:=by
 cases m with
 |nil=>exact absurd h (by decide)
 |cons a r=>rfl
theorem GI {m:List Nat} (h:0<m.length):pX m=some (m.map fun x:Nat=>AV.val (bU x)):=by
 cases m with
 |nil=>exact absurd h (by decide)
 |cons a r=>rfl
theorem xK {F C c w i v t:Nat} (hF:F<=1000000000) (hc:c<4294967296) (hw:w<4294967296) (h:v+4294967296^i*c=F*t+C):(c+w*F)/4294967296<4294967296/\v+4294967296^i*((c+w*F)%4294967296)+4294967296^(i+1)*((c+w*F)/4294967296)=F*(t+4294967296^i*w)+C:=by
 have hb:w*F<=4294967295*1000000000:=Nat.mul_le_mul (by omega) hF;refine⟨by omega,?_⟩;rw[Nat.pow_succ,Nat.mul_assoc,Nat.add_assoc,<- Nat.mul_add,Nat.mod_add_div,Nat.mul_add,<- Nat.add_assoc,h,Nat.mul_add];rw[<- Nat.mul_assoc (4294967296^i),Nat.mul_comm (4294967296^i*w) F];omega
theorem jX (s:List UInt8):aa Tryz.prog 346 [dL s] (.tup [dZ (pz s).1,dN .i64 (pz s).2]):=by
 have z0:dZ 0= .agg [.val (.bool false), .sl 0 []]:=by unfold dZ;rw[e0]
 have hsz:=aw s
 by_cases hl:s.length<=65536
 ·have hdl:=pK s
  refine kU func346 ?_;refine K4 ?_;refine fV ?_;refine kW ?_;refine kC (zv s) ?_;refine kN ?_
  by_cases hgood:mO s≠[]/\((∀c r,mO s=c::r->c≠48)∨((mO s).length=1/\dO s=false))
  ·refine pO ⟨[(2, .box 0 0),(3, .d (dN .i64 0)),(4, .d (dL (mO s))),(5, .d (dB (dO s)))],[(0,some [.val (.bool false), .sl 0 []])]⟩ (fun s' hw=>?_) (fun R hR hret=>?_)
   ·refine bl ?_
    refine eW hw rfl ?_;refine kN ?_;refine bl ?_;refine bJ (T:=TT) ?_;refine ax (List UInt8 × List Nat) (fun p=>∃dn,mO s=dn++p.1/\(∀c∈dn,fS c)/\val p.2=num dn/\Wd p.2/\p.2.length<=dn.length) (fun p=>⟨[(2, .box 0 0),(3, .d (dN .i64 0)),(5, .d (dB (dO s))),(4, .d (dL p.1)),(6,pV p.2)],[(0,some [.val (.bool false), .sl 0 []]),(1000001,pX p.2)]⟩) (fun p=>p.1.length) (mO s,[]) ⟨[],rfl,by simp,rfl,Wd.nil,Nat.le_refl _⟩ kw ?_;rintro⟨rest,m⟩ ⟨dn,hdn,hdd,hval,hWd,hml⟩;dsimp only at hdn hval hWd hml ⊢;have hdnl:=congrArg List.length hdn;rw[List.length_append]at hdnl;have hsr:=aw rest;refine kR ?_;refine lA rfl (fun h=>?_) (fun h=>?_)
    ·have h:=of_decide_eq_true h
     have hr0:0<rest.length:=by omega
     refine fV ?_;obtain⟨nn,hnn⟩:∃nn,(rest.length-1)%9+1=nn:=⟨_,rfl⟩;have hn9:nn<=9:=by omega
     have hnr:nn<=rest.length:=by have:=Nat.mod_le (rest.length-1) 9;omega
     have hmod:((rest.length-1:Nat):Int).tmod 9=((rest.length-1)%9:Nat):=by rw[show(9:Int)=((9:Nat):Int) from rfl,Int.ofNat_tmod]
     refine bJ (T:=TT) ?_;refine tt ?_;refine ek (v':= .int .i64 ((rest.length-1:Nat))) rfl rfl rfl rfl ?_ ?_
     ·exact congrArg (Value.int .i64) (by rw[hsr,IntWalk.i64_in _ (by omega)];omega)
     refine aD rfl rfl rfl rfl ?_ rfl rfl (rf (by decide)) ?_
     ·rfl
     refine kJ (nn) ?_;refine kN ?_;refine kR ?_;refine NO ⟨[(2, .box 0 0),(3, .d (dN .i64 0)),(5, .d (dB (dO s))),(4, .d (dL rest)),(7, .d (dN .i64 nn)),(8, .d (dN .u64 (num (rest.take nn)))),(9, .d (dN .u64 (10^nn:Nat))),(6,pV m)],[(0,some [.val (.bool false), .sl 0 []]),(1000001,pX m)]⟩ (∀c∈rest.take nn,fS c) (fun hdt s' hw=>?_) (fun R hR hret=>?_)
     ·have hCl:=vC
      have hdd':∀c∈dn++rest.take nn,fS c:=fun c hc=>(List.mem_append.1 hc).elim (hdd c) (hdt c)
      have hdn':mO s=(dn++rest.take nn)++rest.drop nn:=by rw[List.append_assoc,List.take_append_drop];exact hdn
      have hlen':(dn++rest.take nn).length=dn.length+nn:=by rw[List.length_append,List.length_take,Nat.min_eq_left hnr]
      have hdr:(rest.drop nn).length<rest.length:=by rw[List.length_drop];omega
      obtain⟨C,hC⟩:∃C,num (rest.take nn)=C:=⟨_,rfl⟩;obtain⟨F,hF⟩:∃F,10^nn=F:=⟨_,rfl⟩;have hF9:F<=1000000000:=by rw[<- hF];exact Nat.pow_le_pow_right (by decide) hn9
      have hC9:C<F:=by
       rw[<- hC,<- hF];have:=vC _ (rest.take nn) rfl (fun c hc=>hdd' c (List.mem_append.2 (.inr hc)))
       rwa[List.length_take,Nat.min_eq_left hnr]at this
      have hnum':num (dn++rest.take nn)=F*num dn+C:=by
       rw[Ad,List.length_take,Nat.min_eq_left hnr,hF,hC,Nat.mul_comm]
      rw[hC,hF]at hw;cases m with
      |nil=>
       have hdn0:num dn=0:=hval.symm;refine bl ?_;refine bl ?_;refine eW hw rfl ?_;refine kN ?_;refine bJ (T:=TT) ?_;refine ax Unit (fun _=>True) (fun _=>⟨[(2, .box 0 0),(3, .d (dN .i64 0)),(5, .d (dB (dO s))),(4, .d (dL rest)),(7, .d (dN .i64 nn)),(8, .d (dN .u64 C)),(6, .nil),(70, .d (dN .i64 0)),(71, .d (dN .i64 0))],[(0,some [.val (.bool false), .sl 0 []])]⟩) (fun _=>0) () trivial kw ?_;rintro _ _;refine kR ?_;refine dD (T:=TT) rfl ?_;refine jU ?_;have hcv:(F*0:Nat)+C=C:=by omega
       refine Ch ?_
       by_cases hC0:C=0
       ·refine kE ?_
        refine kN ?_;refine dD (T:=TT) rfl ?_;refine fV ?_;refine Da ?_;refine EU ?_;refine⟨(rest.drop nn,[]),⟨dn++rest.take nn,hdn',hdd',?_,Wd.nil,Nat.zero_le _⟩,hdr,weak ⟨rfl,rfl,rfl,rfl,rfl,trivial⟩ ⟨rfl,trivial⟩ rfl⟩;rw[hnum',hdn0,hC0];rfl
       ·have hCp:0<C:=by omega
        refine kT ?_;refine kN ?_;refine dY (T:=TT) rfl ?_;refine Da ?_;refine ek (v':= .int .u32 (C)) rfl rfl rfl rfl ?_ ?_
        ·exact congrArg (Value.int .u32) (by rw[IntWalk.u32_in _ (by omega)])
        refine kO ?_;refine Mv (by decide) (by decide) rfl rfl rfl rfl rfl rfl rfl rfl rfl rfl rfl (.nil rfl rfl) rfl rfl ?_;refine kN ?_;refine Da ?_;refine EU ?_;refine⟨(rest.drop nn,[C]),⟨dn++rest.take nn,hdn',hdd',?_, .cons (by omega) .nil,by rw[hlen'];show 1<=_;omega⟩,hdr,?_⟩
        ·rw[hnum',hdn0]
         simp[val]
        ·refine aL.trans (b:=⟨[(2, .box 0 0),(3, .d (dN .i64 0)),(5, .d (dB (dO s))),(4, .d (dL (rest.drop nn))),(6, .own 1027004 1 1 135)],[(0,some [.val (.bool false), .sl 0 []]),(1027004,some [.val (bU C)])]⟩) kw ((aK (q:=6) (j:=1027004) (j':=1000001) (m:=1) (k:=1) (e:=135) (cs:=[.val (bU C)]) rfl rfl rfl rfl).trans kw)
      |cons x r=>
       obtain⟨m,hm⟩:∃m,x::r=m:=⟨_,rfl⟩;have hm0:0<m.length:=by rw[<- hm];simp
       rw[hm,ID hm0,GI hm0]at hw;rw[hm]at hval hWd hml;clear hm;refine bl ?_;refine bl ?_;refine eW hw rfl ?_;refine kN ?_;refine bJ (T:=TT) ?_;refine ax (List Nat × Nat) (fun p=>p.1.length<=m.length/\Wd p.1/\p.2<4294967296/\val p.1+4294967296^p.1.length*p.2=F*val (m.take p.1.length)+C) (fun p=>⟨[(2, .box 0 0),(3, .d (dN .i64 0)),(5, .d (dB (dO s))),(4, .d (dL rest)),(7, .d (dN .i64 nn)),(8, .d (dN .u64 p.2)),(9, .d (dN .u64 F)),(6, .own 1000001 m.length 1 135),(70, .d (dN .i64 m.length)),(71, .d (dN .i64 p.1.length))],[(0,some [.val (.bool false), .sl 0 []]),(1000001,some ((p.1++m.drop p.1.length).map fun x:Nat=>AV.val (bU x)))]⟩) (fun p=>m.length-p.1.length) ([],C) ⟨by simp, .nil,by show C<_;omega,by simp[val]⟩ kw ?_;rintro⟨xs,c⟩ ⟨hxl,hxw,hc,heq⟩;dsimp only at hxl hxw hc heq ⊢
       refine kR ?_;refine bl ?_;refine lA rfl (fun h=>?_) (fun h=>?_)
       ·have h:=of_decide_eq_true h
        have hi:xs.length<m.length:=by omega
        refine fV ?_;refine bl ?_;refine bJ (T:=TT) ?_;refine kR ?_;refine o8 ?_
        refine kO3 ?_
        refine lF (i:=xs.length) hi rfl rfl rfl rfl rfl rfl rfl rfl rfl ?_
        have hget:((xs++m.drop xs.length).map fun x:Nat=>AV.val (bU x))[xs.length*1]? =some (.val (bU m[xs.length])):=by
         rw[Nat.mul_one,List.getElem?_map,List.getElem?_append_right (Nat.le_refl _),Nat.sub_self,List.getElem?_drop,Nat.add_zero,List.getElem?_eq_getElem hi];rfl
        have hwi:m[xs.length]<4294967296:=hWd _ (List.getElem_mem hi)
        obtain⟨hc',heq'⟩:=xK hF9 hc hwi heq;have hwF:m[xs.length]*F<=4294967295*1000000000:=Nat.mul_le_mul (by omega) hF9;refine B6 hget rfl rfl rfl rfl rfl rfl rfl rfl rfl ?_;obtain⟨W,hW⟩:∃W,m[xs.length]=W:=⟨_,rfl⟩;obtain⟨p,hp⟩:∃p,W*F=p:=⟨_,rfl⟩;have hpr:(W:Int)*(F:Nat)=(p:Nat):=by rw[<- hp,Int.natCast_mul]
        have htk:val (m.take (xs.length+1))=val (m.take xs.length)+4294967296^xs.length*W:=by rw[ai,List.getD_eq_getElem?_getD,List.getElem?_eq_getElem hi,hW];rfl
        rw[hW,hp]at hwF hc' heq';rw[hW];rw[hW]at hwi;obtain⟨t,ht⟩:∃t,c+p=t:=⟨_,rfl⟩;rw[ht]at hc' heq';refine ek (v':= .int .u64 (W)) rfl rfl rfl rfl ?_ ?_
        ·exact congrArg (Value.int .u64) (by rw[IntWalk.u64_in _ (by omega)])
        refine kO ?_;refine ek (v':= .int .u64 (p)) rfl rfl rfl rfl ?_ ?_
        ·exact congrArg (Value.int .u64) (by rw[hpr,IntWalk.u64_in _ (by omega)])
        refine ek (v':= .int .u64 (t)) rfl rfl rfl rfl ?_ ?_
        ·exact congrArg (Value.int .u64) (by rw[IntWalk.u64_in _ (by omega)];omega)
        refine kN ?_;refine o8 ?_
        refine kO3 ?_
        refine ek (v':= .int .u32 ((t%4294967296:Nat))) rfl rfl rfl rfl ?_ ?_
        ·exact congrArg (Value.int .u32) (by rw[IntKind.wrap_u32];omega)
        refine lF (i:=xs.length) hi rfl rfl rfl rfl rfl rfl rfl rfl rfl ?_
        have hsp:ba ((xs++m.drop xs.length).map fun x:Nat=>AV.val (bU x)) (xs.length*1) [.val (bU (t%4294967296))]=((xs++[t%4294967296])++m.drop (xs++[t%4294967296]).length).map fun x:Nat=>AV.val (bU x):=by
         unfold ba;rw[Nat.mul_one,<- List.map_take,<- List.map_drop,List.take_left,List.length_singleton,<- List.drop_drop,List.drop_left,List.drop_drop,List.length_append,List.length_singleton,List.map_append,List.map_append];rfl
        refine xA (by rw[List.length_map,List.length_append,List.length_drop];omega) hsp rfl rfl rfl rfl rfl rfl rfl rfl rfl rfl ?_;refine kN ?_;refine aU rfl ?_;refine kO ?_;refine ek (v':= .int .u64 ((t/4294967296:Nat))) rfl rfl rfl rfl ?_ ?_
        ·exact congrArg (Value.int .u64) (by rw[show(2:Int)^min (Int.toNat 32) IntKind.u64.bits=4294967296 by decide,Int.fdiv_eq_ediv_of_nonneg _ (by decide)];omega)
        refine kN ?_;refine aU rfl ?_;refine ek (v':= .int .i64 ((xs++[t%4294967296]).length)) rfl rfl rfl rfl ?_ ?_
        ·exact congrArg (Value.int .i64) (by rw[IntWalk.i64_in _ (by omega)];simp)
        refine kN ?_;refine⟨(xs++[t%4294967296],t/4294967296),⟨by rw[List.length_append];exact hi,hxw.append (.cons (by omega) .nil),hc',?_⟩,?_,weak ⟨rfl,rfl,rfl,rfl,rfl,rfl,rfl,rfl,rfl,rfl,trivial⟩ ⟨rfl,rfl,trivial⟩ rfl⟩
        ·show val (xs++[t%4294967296])+_=_
         rw[List.length_append,List.length_singleton,htk,b6,<- heq']
         simp[val]
        ·dsimp only;rw[List.length_append,List.length_singleton];omega
       ·have h:=of_decide_eq_false h
        have hi:xs.length=m.length:=by omega
        rw[hi,List.drop_length,List.append_nil];rw[hi,List.take_length,hval]at heq;have hx0:0<xs.length:=by omega
        refine jU ?_;refine Ch ?_
        by_cases hc0:c=0
        ·refine kE ?_
         refine kN ?_;refine dD (T:=TT) rfl ?_;refine fV ?_;refine Da ?_;refine EU ?_;refine⟨(rest.drop nn,xs),⟨dn++rest.take nn,hdn',hdd',?_,hxw,by rw[hlen',hi];omega⟩,hdr,?_⟩
         ·rw[hnum',<- heq,hc0];rfl
         ·dsimp only
          rw[ID hx0,GI hx0,hi];exact kw
        ·have hcp:0<c:=by omega
         refine kT ?_;refine kN ?_;refine dY (T:=TT) rfl ?_;refine Da ?_;refine ek (v':= .int .u32 (c)) rfl rfl rfl rfl ?_ ?_
         ·exact congrArg (Value.int .u32) (by rw[IntWalk.u32_in _ (by omega)])
         refine kO ?_;refine Mv (by decide) (by show(m.length+1)*4<=_;omega) rfl rfl rfl rfl rfl rfl rfl rfl rfl rfl rfl (.own rfl rfl) rfl rfl ?_;refine kN ?_;refine Da ?_;refine EU ?_;have hl1:(xs++[c]).length=m.length+1:=by rw[List.length_append,hi];rfl
         have hb:((xs.map fun x:Nat=>AV.val (bU x)).take (m.length*1)++[.val (bU c)])=(xs++[c]).map fun x:Nat=>AV.val (bU x):=by
          rw[Nat.mul_one,<- hi,List.take_of_length_le (by simp),List.map_append];rfl
         refine⟨(rest.drop nn,xs++[c]),⟨dn++rest.take nn,hdn',hdd',?_,hxw.append (.cons hc .nil),by rw[hlen'];dsimp only;omega⟩,hdr,?_⟩
         ·rw[hnum',<- heq]
          show val (xs++[c])=_;rw[b6,hi]
          simp[val]
         ·dsimp only
          rw[ID (by omega),GI (by omega),hl1,<- hb];refine aL.trans (b:=⟨[(2, .box 0 0),(3, .d (dN .i64 0)),(5, .d (dB (dO s))),(4, .d (dL (rest.drop nn))),(6, .own 1027004 (m.length+1) 1 135)],[(0,some [.val (.bool false), .sl 0 []]),(1027004,some ((xs.map fun x:Nat=>AV.val (bU x)).take (m.length*1)++[.val (bU c)]))]⟩) kw ((aK (q:=6) (j:=1027004) (j':=1000001) (m:=m.length+1) (k:=1) (e:=135) (cs:=(xs.map fun x:Nat=>AV.val (bU x)).take (m.length*1)++[.val (bU c)]) rfl rfl rfl rfl).trans kw)
     ·refine kR ?_
      refine bJ (T:=TT) ?_;refine ax Nat (fun i=>i<=nn/\ ∀c∈rest.take i,fS c) (fun i=>⟨[(2, .box 0 0),(3, .d (dN .i64 0)),(5, .d (dB (dO s))),(4, .d (dL rest)),(7, .d (dN .i64 nn)),(8, .d (dN .u64 (num (rest.take i)))),(9, .d (dN .u64 (10^i:Nat))),(46, .d (dN .i64 nn)),(47, .d (dN .i64 i)),(6,pV m)],[(0,some [.val (.bool false), .sl 0 []]),(1000001,pX m)]⟩) (fun i=>nn-i) 0 ⟨by omega,by simp⟩ (weak ⟨rfl,rfl,rfl,rfl,rfl,rfl,rfl,rfl,rfl,rfl,trivial⟩ (by cases m<;>first|exact⟨rfl,rfl,trivial⟩|exact⟨rfl,trivial⟩) (by cases m<;>rfl)) ?_;rintro i ⟨hi,hd⟩;refine kR ?_;refine bl ?_;refine lA rfl (fun h=>?_) (fun h=>?_)
      ·have h:=of_decide_eq_true h
       have hi:i<nn:=by omega
       have hir:i<rest.length:=by omega
       refine fV ?_;refine bl ?_;refine bJ (T:=TT) ?_;refine kR ?_;refine tt ?_;refine jy ac (i:=i) (c:=rest[i]) (List.getElem?_eq_getElem hir) rfl rfl rfl rfl rfl rfl rfl rfl ?_;refine kN ?_;have hmem:rest[i]∈mO s:=by rw[hdn,List.mem_append];exact .inr (List.getElem_mem hir)
       refine Ch ?_
       by_cases h48:rest[i].toNat<48
       ·have hbad:¬PB s:=fun hp=>by have:=(hp.2.2.1 _ hmem).1;omega
        exact Nq
       ·refine kE ?_
        refine kO2 ?_
        by_cases h57:rest[i].toNat > 57
        ·have hbad:¬PB s:=fun hp=>by have:=(hp.2.2.1 _ hmem).2;omega
         exact Nq
        ·refine kE ?_
         have hD:fS rest[i]:=⟨by omega,by omega⟩;have hdv:=LC hD;have hs1:num (rest.take (i+1))=10*num (rest.take i)+dv rest[i]:=by rw[List.take_succ_eq_append_getElem hir,m9]
         have hb1:=vC _ _ rfl hd;have hb2:10^(rest.take i).length<=10^8:=Nat.pow_le_pow_right (by decide) (by rw[List.length_take];omega);have hb3:10^i<=10^8:=Nat.pow_le_pow_right (by decide) (by omega);refine kN ?_;refine dD (T:=TT) rfl ?_;refine fV ?_;refine o8 ?_;refine kO ?_;refine ek (v':= .int .u64 ((10*num (rest.take i):Nat))) rfl rfl rfl rfl ?_ ?_
         ·exact congrArg (Value.int .u64) (by rw[IntWalk.u64_in _ (by omega)];omega)
         refine kO ?_;refine ek (v':= .int .u8 ((dv rest[i]:Nat))) rfl rfl rfl rfl ?_ ?_
         ·exact congrArg (Value.int .u8) (by rw[IntWalk.u8_in _ (by omega)];unfold dv;omega)
         refine ek (v':= .int .u64 ((dv rest[i]:Nat))) rfl rfl rfl rfl ?_ ?_
         ·exact congrArg (Value.int .u64) (by rw[IntWalk.u64_in _ (by omega)])
         refine ek (v':= .int .u64 ((num (rest.take (i+1)):Nat))) rfl rfl rfl rfl ?_ ?_
         ·exact congrArg (Value.int .u64) (by rw[hs1,IntWalk.u64_in _ (by omega)];omega)
         refine kN ?_;refine aU rfl ?_;refine kO ?_;refine ek (v':= .int .u64 ((10^(i+1):Nat))) rfl rfl rfl rfl ?_ ?_
         ·exact congrArg (Value.int .u64) (by rw[Nat.pow_succ];generalize 10^i=pw at hb3 ⊢;rw[IntWalk.u64_in _ (by omega)];omega)
         refine kN ?_;refine aU rfl ?_;refine kJ ((i+1:Nat)) ?_;refine kN ?_;refine⟨i+1,⟨hi,fun c hc=>?_⟩,by omega,weak ⟨rfl,rfl,rfl,rfl,rfl,rfl,rfl,rfl,rfl,rfl,trivial⟩ (by cases m<;>first|exact⟨rfl,rfl,trivial⟩|exact⟨rfl,trivial⟩) (by cases m<;>rfl)⟩;rw[List.take_succ_eq_append_getElem hir,List.mem_append]at hc;rcases hc with hc|hc
         ·exact hd c hc
         ·rw[List.mem_singleton]at hc;rw[hc];exact hD
      ·have h:=of_decide_eq_false h
       have hin:i=nn:=by omega
       subst hin;refine jU ?_;exact hR hd _ (weak ⟨rfl,rfl,rfl,rfl,rfl,rfl,rfl,rfl,trivial⟩ (by cases m<;>first|exact⟨rfl,rfl,trivial⟩|exact⟨rfl,trivial⟩) (by cases m<;>rfl))
    ·have h:=of_decide_eq_false h
     have hr0:rest.length=0:=by omega
     obtain rfl:=List.eq_nil_of_length_eq_zero hr0;rw[List.append_nil]at hdn;have hok:PB s:=⟨hl,hgood.1,by rw[hdn];exact hdd,hgood.2⟩;have hz:aN (dO s) m=J5 (dO s) (num (mO s)):=by unfold aN J5;rw[hval,hdn]
     rw[Mj hok];refine jU ?_;cases m with
     |nil=>
      refine kW ?_;refine kC (j3 (neg:=dO s) (xs:=[]) Wd.nil hz) ?_;exact ar
     |cons x r=>
      refine bl ?_;refine eW (bR (q:=6) rfl rfl) rfl ?_;refine kW ?_;refine kC (j3 (neg:=dO s) (xs:=x::r) hWd hz) ?_;exact ar
   ·clear hret
    cases hp:mO s with
    |nil=>exact absurd hp hgood.1
    |cons c r=>
     refine o8 ?_;refine kO ?_;have hsz':=aw (c::r);have hfin:TV.d (dL (c::r))=TV.d (dL (mO s)):=by rw[hp]
     refine aD rfl rfl rfl rfl rfl rfl rfl ((jF (a:=c::r) (b:=[])).trans (congrArg (fun b=>some (Value.bool b)) (decide_eq_false (by simp)))) ?_
     refine kO2 ?_
     refine RF ?_
     by_cases h48:c=48
     ·subst h48
      have hg2:((48:UInt8)::r).length=1/\dO s=false:=by
       rcases hgood.2 with h|h
       ·exact absurd rfl (h _ _ hp)
       ·rw[hp]at h;exact h
      refine kO4 ?_
      refine kE ?_;have hneg:TV.d (dB false)=TV.d (dB (dO s)):=by rw[hg2.2]
      generalize dO s=ng at *;obtain rfl:=hg2.2;exact NA
     ·have hn:c.toNat≠48:=fun e=>h48 (UInt8.toNat_inj.1 e)
      refine kB false ?_ ?_
      ·exact beq_eq_false_iff_ne.2 (by omega)
      exact NA
  ·rw[vG (fun h=>hgood ⟨h.2.1,h.2.2.2⟩),z0]
   cases hp:mO s with
   |nil=>
    refine Ch ?_;refine aD rfl rfl rfl rfl rfl rfl rfl (jF (a:=[]) (b:=[])) ?_;exact ar
   |cons c r=>
    have hc:c=48/\(1<(c::r).length∨dO s=true):=by
     refine Classical.byContradiction fun hno=>hgood ⟨by rw[hp];simp,?_⟩
     rw[hp]
     by_cases h48:c=48
     ·refine .inr ⟨?_,?_⟩
      ·apply Classical.byContradiction
       intro h1;exact hno ⟨h48, .inl (by simp at h1 ⊢;exact List.length_pos_iff.2 h1)⟩
      ·cases hq:dO s
       ·rfl
       ·exact absurd ⟨h48, .inr hq⟩ hno
     ·exact .inl fun x q e=>by cases e;exact h48
    obtain⟨rfl,hc⟩:=hc;have hsz':=aw ((48:UInt8)::r);refine Ch ?_;refine aD rfl rfl rfl rfl rfl rfl rfl ((jF (a:=48::r) (b:=[])).trans (congrArg (fun b=>some (Value.bool b)) (decide_eq_false (by simp)))) ?_
    refine kO2 ?_
    refine jy ac (i:=0) (c:=48) rfl rfl rfl rfl rfl rfl rfl rfl rfl ?_
    refine kO4 ?_
    by_cases h1:1<((48:UInt8)::r).length
    ·refine kT ?_
     exact ar
    ·refine kE ?_
     have hq:dO s=true:=hc.resolve_left h1;rw[hq];exact ar
 ·rw[vG (fun h=>hl h.1),z0]
  refine kU func346 ?_;refine Ci ?_;exact ar
def PD (l:List UInt8):List AV:=l.map fun c=>AV.val (.int .u8 c.toNat)
def Si (l:List UInt8):DV:= .leaf (.sl l.length (PD l))
theorem N9 {l:List UInt8} {i:Nat} {c:UInt8} (h:l[i]? =some c):∀(j:Nat) (a:AV),[AV.val (.int .u8 c.toNat)][j]? =some a->(PD l)[i*1+j]? =some a:=by
 intro j a hj
 match j,hj with
 |0,hj=>unfold PD;rw[Nat.mul_one,Nat.add_zero,List.getElem?_map,h];exact hj
section
variable {P:Program} {T:TypeId->Option Ty} {n:Nat} {ops:Array Oper} {id:Nat} {draw:Bool} {K:AS->Prop} {s:AS} {k:Nat} {o:Oper} {os:List Oper} {fps:List FP}
theorem QP (hT:∀t d,T t=some d->aO P t d) {t t' et:TypeId} {ty ty' te:Ty} {x:Operand} {l:List UInt8} (hl:l.length<=9223372036854775807) (h1:gd ops s o=some true) (h2:o.op= .convert t t' x) (h5:T t=some ty) (h6:ty.isStr=true) (h9:T t'=some ty') (h10:ty'.elem=some (et,1)) (h7:T et=some te) (h8:te.ik=some .u8) (h11:s.ev x= .d (.leaf (.val (vL l))))
 (h3:aB n o.dst=true) (h4:eZ draw ops (au ops o ⟨.d (Si l),none⟩ []) k fps=true) (h:ak P T n ops id draw K (k+1) os (s.eff o.dst ⟨.d (Si l),none⟩) (au ops o ⟨.d (Si l),none⟩ []::fps)):ak P T n ops id draw K k (o::os) s fps:=by
 refine .run h1 (.gen fun s2 ht _=>?_) h3 h4 h;have hx:=(aq ht (x:=x) (by simp[h2,Op.operands])).trans h11;have hu:=qh (hT _ _ h5) h6;obtain⟨d,hd,_,hel,_⟩:=(hT _ _ h9).und;obtain⟨rfl,_⟩:=hel et 1 h10;obtain⟨d2,hd2,_,_,_,_,_,hik,_⟩:=(hT _ _ h7).und;obtain rfl:=hik _ h8;refine ah fun n S0 w0 g a w hM=>?_
 have hsz:=aw l;have hge:=grownCap_ge w l.length 0 et;have hle:=grownCap_le_maxLen w l.length 0 et (by unfold maxLen;omega);obtain⟨C,hC⟩:∃C,grownCap w l.length 0 et=C:=⟨_,rfl⟩;rw[hC]at hge hle;have hrun:=run_bytes_of_string w t t' et (Bs l) hu hd hd2;rw[hsz,hC]at hrun;have hb:Below w.heap.size w (w.drew.alloc (.cells (bytesRow (Bs l) C) et ((bytesRow (Bs l) C).size,(bytesRow (Bs l) C).size+1))):=((Below.refl _ w).drew).alloc (Nat.le_refl _) _;refine⟨.slice (some ⟨w.heap.size,0,none⟩) l.length C,_,?_,hb,?_⟩
 ·unfold execOp
  rw[h2]
  simp only[aY hM hx,vL,Sem.run_bind,hrun,Result.andThen_ok,Sem.run_pure]
 ·refine AV.M.sl (fun i=> .int .u8 ((l.getD i 0).toNat:Int)) hge (by unfold maxLen at hle;omega) ?_ (by show w.heap.size<(w.heap.push _).size;simp) (fun i c hi=>?_) (fun i c hi=>?_)
  ·intro hO
   exact absurd (hM.own_lt hO) (Nat.lt_irrefl _)
  ·have hil:i<l.length:=by have:=(List.getElem?_eq_some_iff.1 hi).1;simpa[PD]using this
   have h3:(w.drew.alloc (.cells (bytesRow (Bs l) C) et ((bytesRow (Bs l) C).size,(bytesRow (Bs l) C).size+1))).heap[w.heap.size]? =some (.cells (bytesRow (Bs l) C) et ((bytesRow (Bs l) C).size,(bytesRow (Bs l) C).size+1)):=heap_alloc_new w.drew _;rw[Nat.zero_add]
   simp only[World.cell?,h3]
   have:=bytesRow_at (Bs l) C i (by show i<(Bs l).data.size;simpa[Bs]using hil);show(match(bytesRow (Bs l) C)[i]? with|v=>v)=_;refine Eq.trans this ?_
   simp[Bs,hil]
  ·have hil:i<l.length:=by have:=(List.getElem?_eq_some_iff.1 hi).1;simpa[PD]using this
   have:c= .val (.int .u8 ((l.getD i 0).toNat:Int)):=by
    unfold PD at hi;rw[List.getElem?_map,List.getElem?_eq_getElem hil]at hi
    simp at hi
    rw[<- hi]
    simp[hil]
   rw[this];exact .val rfl
end
theorem mK (l:List UInt8) (c:UInt8):aa Tryz.prog 148 [dL l,dL [c]] (.one (dN .i64 (Lib.indexByte l c))):=by
 refine⟨av func148 rfl rfl,fun S w vs hS hv=>?_⟩
 match vs,hv with
 | [v,u],⟨h1,h2,_⟩=>
  obtain rfl:=aT h1;obtain rfl:=aT h2;refine(Tryz.stringslite_Index_one (Bs l) c w).mono ?_;rintro e w' ⟨rfl,rfl⟩;exact⟨_,rfl,AV.M.val rfl,Below.refl _ _⟩
theorem uT {l:List UInt8} {c:UInt8} (h:c ∉ l):Lib.indexByte l c= -1:=by
 induction l with
 |nil=>rfl
 |cons b l ih=>
  have h1:(b == c)=false:=beq_eq_false_iff_ne.2 (fun e=>h (by simp[e]));unfold Lib.indexByte;rw[h1,ih (fun e=>h (by simp[e]))];rfl
theorem uZ {a b:List UInt8} {c:UInt8} (h:c ∉ a):Lib.indexByte (a++c::b) c=a.length:=by
 induction a with
 |nil=>simp[Lib.indexByte]
 |cons x a ih=>
  have h1:(x == c)=false:=beq_eq_false_iff_ne.2 (fun e=>h (by simp[e]));rw[List.cons_append];unfold Lib.indexByte;rw[h1,ih (fun e=>h (by simp[e]))];have:(((a.length:Nat):Int) == -1)=false:=beq_eq_false_iff_ne.2 (by omega)
  simp only[Bool.false_eq_true,if_false,this]
  simp
theorem KO {a b:List UInt8} {c:UInt8} (h:c ∉ a) (hl:a.length+b.length<=1000000000):aa Tryz.prog 107 [dL (a++c::b),dL [c]] (.tup [dL a,dL b,dB true]):=by
 have c1:=mK (a++c::b) c;rw[uZ h]at c1;have e1:(a++c::b).take a.length=a:=by simp
 have e2:(a++c::b).drop (a.length+1)=b:=by rw[<- List.drop_drop];simp
 refine kU func107 ?_;refine dm ?_;refine Nn ac (l:=a++c::b) (i:=a.length) (by simp) rfl rfl rfl rfl rfl rfl rfl rfl ?_
 refine kO4 ?_
 refine ek (v':= .int .i64 (((a.length+1:Nat):Int))) rfl rfl rfl rfl ?_ ?_
 ·exact congrArg (Value.int .i64) (by show IntKind.i64.wrap ((a.length:Int)+1)=_;rw[IntWalk.i64_in _ (by omega)];omega)
 refine vY ac (l:=a++c::b) (i:=a.length+1) (by simp) rfl rfl rfl rfl rfl rfl rfl rfl ?_;refine kW ?_;rw[e1,e2];exact dx (T:=TT) rfl rfl
theorem zO {a:List UInt8} {c:UInt8} (h:c ∉ a):aa Tryz.prog 107 [dL a,dL [c]] (.tup [dL a,dL [],dB false]):=by
 have c1:=mK a c;rw[uT h]at c1;refine kU func107 ?_;exact oJ
theorem N2 {a b:List UInt8} {c:UInt8} (h:c ∉ a) (hl:a.length+b.length<=1000000000):aa Tryz.prog 64 [dL (a++c::b),dL [c]] (.tup [dL a,dL b,dB true]):=by
 refine kV func64 ?_;refine kC (KO h hl) ?_;exact ar
theorem nB {a:List UInt8} {c:UInt8} (h:c ∉ a):aa Tryz.prog 64 [dL a,dL [c]] (.tup [dL a,dL [],dB false]):=by
 refine kV func64 ?_;refine kC (zO h) ?_;exact ar
theorem m6 (l:List UInt8):aa Tryz.prog 345 [dL l,dL [48]] (.one (dL (l.dropWhile (· == 48)))):=by
 refine⟨av func345 rfl rfl,fun S w vs hS hv=>?_⟩
 match vs,hv with
 | [v,u],⟨h1,h2,_⟩=>
  obtain rfl:=aT h1;obtain rfl:=aT h2;refine(Tryz.strings_TrimLeft_one (Bs l) 48 (by decide) w).mono ?_;rintro e w' ⟨rfl,rfl⟩;exact⟨_,rfl,AV.M.val rfl,Below.refl _ _⟩
def gU (na:Bool) (xs:List Nat) (nb:Bool) (ys:List Nat):Bool:=d4 na xs && d4 nb ys && decide (0<aN nb ys) && decide (Nat.gcd (val xs) (val ys)=1)
theorem om {na:Bool} {xs:List Nat} (hw:Wd xs) (h:d4 na xs=true):xs=digs (aN na xs).natAbs/\na=decide (aN na xs<0):=by
 unfold d4 at h;rw[Bool.and_eq_true]at h;have h1:=of_decide_eq_true h.1;have hp:=(jx hw).1;rw[h1,List.take_length]at hp;rw[da];refine⟨hp,?_⟩;cases na
 ·exact(decide_eq_false (by unfold aN;simp)).symm
 ·have h2:=h.2
  simp at h2
  have:val xs≠0:=fun e=>by
   rw[hp]at h2;unfold trim at h2;rw[e,ay]at h2
   simp at h2
  exact(decide_eq_true (by unfold aN;simp;omega)).symm
theorem ub {na nb:Bool} {xs ys:List Nat} (hw:Wd xs) (hw':Wd ys) (h:gU na xs nb ys=true):∃q:Rat,yQ na xs nb ys=aQ q/\xs=digs q.num.natAbs/\ys=digs (q.den:Int).natAbs:=by
 unfold gU at h
 simp only[Bool.and_eq_true,decide_eq_true_eq]at h
 obtain⟨⟨⟨h1,h2⟩,h3⟩,h4⟩:=h;obtain⟨e1,e2⟩:=om hw h1;obtain⟨e3,e4⟩:=om hw' h2;have hd:((aN nb ys).toNat:Int)=aN nb ys:=by omega
 refine⟨⟨aN na xs,(aN nb ys).toNat,by omega,?_⟩,?_,e1,?_⟩
 ·rw[da,show(aN nb ys).toNat=(aN nb ys).natAbs by omega,da];exact h4
 ·show aI na xs++aI nb ys=aZ (aN na xs)++aZ ((aN nb ys).toNat:Int)
  rw[hd];unfold aZ;rw[<- e1,<- e2,<- e3,<- e4]
 ·show ys=digs ((aN nb ys).toNat:Int).natAbs
  rw[hd];exact e3
theorem qL (q:Rat):gU (decide (q.num<0)) (digs q.num.natAbs) (decide ((q.den:Int)<0)) (digs (q.den:Int).natAbs)=true:=by
 unfold gU;rw[rM,rM,bA,az,az,decide_eq_true (du q),decide_eq_true (by rw[Int.natAbs_natCast];exact q.reduced)];rfl
theorem oq {na nb:Bool} {xs ys:List Nat} (hw:Wd xs) (hw':Wd ys) (h1:vT xs) (h2:vT ys) {b:Bool} (hb:gU na xs nb ys=b):aa Tryz.prog 173 [M2 na xs nb ys] (.one (dB b)):=by
 subst hb;unfold gU;cases c1:d4 na xs
 ·refine NF ?_
  exact ar
 cases c2:d4 nb ys
 ·refine NF ?_
  refine kW ?_;refine kC (lL (na:=nb) hw' c2) ?_;exact ar
 by_cases c3:0<aN nb ys
 ·have hc:decide (Nat.gcd (val xs) (val ys)=1)=decide (((Nat.gcd (val xs) (val ys):Nat):Int)=1):=by by_cases h:Nat.gcd (val xs) (val ys)=1<;>simp[h]<;>omega
  rw[decide_eq_true c3,hc];refine RA ?_;refine kQ (oc (na:=nb) hw' (Int.sign_eq_one_of_pos c3)) ?_;refine kQ (x6 (na:=na) (nb:=nb) hw hw' h1 h2) ?_;refine kC (bg rfl) ?_;exact ar
 ·rw[decide_eq_false c3]
  obtain⟨z,hz,hz0⟩:∃z,(aN nb ys).sign=z/\ ¬z > 0:=⟨_,rfl,fun h=>c3 (Int.sign_pos_iff.1 h)⟩;refine RA ?_;refine kC (oc (na:=nb) hw' hz) ?_;refine kB false ?_ ?_
  ·exact decide_eq_false hz0
  exact ar
theorem xX {k:Nat} (q:Rat) (h:dJ k q) (hk:k<=2147483648):aa Tryz.prog 173 [dQ q] (.one (dB true)):=oq (aH _) (aH _) (Nat.le_trans h.1.digs hk) (Nat.le_trans h.2.digs hk) (qL q)
theorem BM {xs:List Nat} {i x:Nat} (h:xs[i]? =some x):∀(j:Nat) (a:AV),[AV.val (bU x)][j]? =some a->(xs.map fun x:Nat=>AV.val (bU x))[i*1+j]? =some a:=by
 exact LB
theorem wm {na nb:Bool} {xs ys:List Nat} (h:xs≠ys):sameB na nb xs ys=false:=by unfold sameB;rw[decide_eq_false h,Bool.and_false]
theorem j0 {na:Bool} {xs ys:List Nat} (h:xs=ys):sameB na na xs ys=true:=by unfold sameB;rw[decide_eq_true h];cases na<;>rfl
theorem fq {na nb:Bool} {xs ys:List Nat} (hl:xs.length<=2147483648) {b:Bool} (hb:sameB na nb xs ys=b):aa Tryz.prog 59 [dI na xs,dI nb ys] (.one (dB b)):=by
 subst hb
 by_cases hn:na=nb
 ·subst hn
  by_cases hxy:xs.length=ys.length
  ·cases na
   ·refine Bm ?_
    refine AW ?_;refine ax Nat (fun j=>j<=xs.length/\ ∀i,i<j->xs[i]? =ys[i]?) (fun j=>⟨[(2, .box 0 0),(3, .box 1 0),(5, .d (dN .i64 j))],[(0,some (aI false xs)),(1,some (aI false ys))]⟩) (fun j=>xs.length-j) 0 ⟨Nat.zero_le _,fun i h=>absurd h (Nat.not_lt_zero _)⟩ kw ?_;exact Q4
   ·refine Bm ?_
    refine AW ?_;refine ax Nat (fun j=>j<=xs.length/\ ∀i,i<j->xs[i]? =ys[i]?) (fun j=>⟨[(2, .box 0 0),(3, .box 1 0),(5, .d (dN .i64 j))],[(0,some (aI true xs)),(1,some (aI true ys))]⟩) (fun j=>xs.length-j) 0 ⟨Nat.zero_le _,fun i h=>absurd h (Nat.not_lt_zero _)⟩ kw ?_;exact Q4
  ·rw[wm (fun e=>hxy (by rw[e]))]
   cases na
   ·refine Bm ?_
    refine oZ ?_;exact ar
   ·refine Bm ?_
    refine oZ ?_;exact ar
 ·have e:sameB na nb xs ys=false:=by unfold sameB;cases na<;>cases nb<;>first|rfl|exact absurd rfl hn
  rw[e];cases na<;>cases nb
  ·exact absurd rfl hn
  ·refine kU func59 ?_
   exact ar
  ·refine kU func59 ?_
   exact ar
  ·exact absurd rfl hn
theorem JW {z:Int} {k:Nat} (h:Sz k z):(fmt z).length<=10*k+2:=by
 have h1:(nH z.natAbs).length<=10*k:=uq _ _ (Nat.lt_of_lt_of_le h (by rw[Nat.pow_mul];exact Nat.pow_le_pow_left (by decide) _));unfold fmt
 split
 ·simp
 ·rw[List.length_append]
  have:(if z<0 then [45]else []:List UInt8).length<=1:=by split <;>simp
  omega
theorem Oa:dZ 0= .agg [.val (.bool false), .sl 0 []]:=by unfold dZ;rw[e0]
def wY (l:List UInt8):Bool:=l.all sF && !decide (l=[])
theorem gw {l:List UInt8}:wY l=true↔(∀c∈l,fS c)/\l≠[]:=by
 unfold wY
 simp[List.all_eq_true,iC]
theorem eA {l:List UInt8} (hl:l.length<=1000000000) {b:Bool} (hb:wY l=b):aa Tryz.prog 344 [dL l] (.one (dB b)):=by
 subst hb;have hsz:=aw l;refine kV func344 ?_;refine QP ac (l:=l) (by omega) rfl rfl rfl rfl rfl rfl rfl rfl rfl rfl rfl ?_;refine kW ?_;refine ax Nat (fun j=>j<=l.length/\ ∀i c,i<j->l[i]? =some c->fS c) (fun j=>⟨[(0, .d (dL l)),(6, .d (Si l)),(7, .d (dN .i64 l.length)),(8, .d (dN .i64 j))],[]⟩) (fun j=>l.length-j) 0 ⟨Nat.zero_le _,fun i c h=>absurd h (Nat.not_lt_zero _)⟩ kw ?_;rintro j ⟨hj,hall⟩;refine kW ?_;refine lA rfl (fun h=>?_) (fun h=>?_)
 ·have hlt:j<l.length:=by have:=of_decide_eq_true h;omega
  obtain⟨c,hc⟩:∃c,l[j]=c:=⟨_,rfl⟩;have hcj:l[j]? =some c:=by rw[List.getElem?_eq_getElem hlt,hc]
  refine kW ?_;refine aP (cs':=[AV.val (.int .u8 c.toNat)]) hlt (N9 hcj) (Nat.lt_succ_self 0) rfl rfl rfl rfl rfl rfl rfl rfl ?_;refine yH ?_
  by_cases h1:c.toNat<48
  ·exact HV
  ·refine kE ?_
   refine kO2 ?_
   by_cases h2:57<c.toNat
   ·exact HV
   ·refine kE ?_
    refine kW ?_;refine⟨j+1,⟨hlt,fun i c' hi hp=>?_⟩,by omega,weak ⟨rfl,rfl,rfl,?_,trivial⟩ trivial rfl⟩
    ·rcases Nat.lt_succ_iff_lt_or_eq.1 hi with h3|rfl
     ·exact hall i c' h3 hp
     ·have:c'=c:=by rw[hcj]at hp;exact(Option.some.inj hp).symm
      rw[this];unfold fS;omega
    ·exact aA (by omega) (by omega)
 ·have hge:j=l.length:=by have:=of_decide_eq_false h;omega
  refine jU ?_;refine kI ?_;refine kO ?_;refine aD rfl rfl rfl rfl rfl rfl rfl (qg (a:=l) (b:=[])) ?_;refine kW ?_
  have ha:l.all sF=true:=List.all_eq_true.2 fun c hc=>iC.2 (by
   obtain⟨i,hi⟩:=List.getElem?_of_mem hc;exact hall i c (by rw[hge];exact(List.getElem?_eq_some_iff.1 hi).1) hi)
  rw[show wY l=!decide (l=[]) by unfold wY;rw[ha];rfl];exact dx (T:=TT) rfl rfl
theorem Lr {l:List UInt8} (h:∀c∈l,fS c):dO l=false/\mO l=l:=by
 have:=OZ (b:=false) (l:=l) (fun c r e=>h c (by rw[e];simp))
 simp at this
 exact⟨this.2,this.1⟩
open Classical in
theorem Ax {l:List UInt8} (h:∀c∈l,fS c) (hl:l.length<=65536):pz l=if jq false l then((num l:Int),0)else(0,2):=by
 obtain⟨h1,h2⟩:=Lr h
 by_cases ho:jq false l
 ·rw[if_pos ho,Mj ⟨hl,by rw[h1,h2];exact ho⟩,h1,h2];rfl
 ·rw[if_neg ho,vG (fun e=>ho (by have:=e.2;rwa[h1,h2]at this))]
theorem iI {l:List UInt8} (hl:l.length<=65536) (h:jq false l):aa Tryz.prog 335 [dL l] (.tup [dZ (num l),dB true]):=by
 have c1:=jX l;rw[Ax (dt h) hl,if_pos h]at c1;refine kV func335 ?_;refine am (eA (b:=true) (Nat.le_trans hl (by decide)) (gw.2 ⟨dt h,h.1⟩)) rfl rfl rfl rfl rfl rfl rfl ?_;exact oJ
theorem ew {l:List UInt8} (hl:l.length<=65536) (h:¬jq false l):aa Tryz.prog 335 [dL l] (.tup [dZ 0,dB false]):=by
 by_cases hd:wY l=true
 ·have c1:=jX l
  rw[Ax (gw.1 hd).1 hl,if_neg h]at c1;refine kV func335 ?_;refine am (eA (b:=true) (Nat.le_trans hl (by decide)) hd) rfl rfl rfl rfl rfl rfl rfl ?_;exact oJ
 ·rw[Oa]
  refine kV func335 ?_;refine am (eA (b:=false) (Nat.le_trans hl (by decide)) (by simpa using hd)) rfl rfl rfl rfl rfl rfl rfl ?_;exact ar
theorem xj (k:Nat):(max 1 (10:Int).natAbs)^k<4294967296^(k+1):=by
 show 10^k<_
 have h1:(10:Nat)^k<=4294967296^k:=Nat.pow_le_pow_left (by decide) _;have h2:0<(4294967296:Nat)^k:=Nat.pow_pos (by decide)
 rw[Nat.pow_succ];omega
theorem qe (k:Nat):Sz (k+1) ((10:Int)^k):=by
 unfold Sz;rw[Int.natAbs_pow];exact xj k
theorem QH:iV 10:= .small (by decide)
theorem Sz.of_pow {k j e:Nat} {y:Int} (h:Sz k y) (hj:k+e<=j):Sz j (y*10^e):=by
 refine Sz.mono (j:=k+e) ?_ hj;unfold Sz at *;rw[Int.natAbs_mul,Int.natAbs_pow,Nat.pow_add];have h1:(10:Int).natAbs^e<=4294967296^e:=Nat.pow_le_pow_left (by decide) _;exact Nat.lt_of_le_of_lt (Nat.mul_le_mul_left _ h1) (Nat.mul_lt_mul_of_pos_right h (Nat.pow_pos (by decide)))
theorem Ns (e:Nat) (he:e<=4096):∃t:Int,(∀y:Int,∀m,e<=m->y*t*10^(m-e)=y*10^m)/\(∀(k j:Nat) (y:Int),Sz k y->k+e<=j->Sz j (y*t))/\iV t/\(10:Int)^e=t/\aa Tryz.prog 357 [dZ 10,dN .i64 e] (.tup [dZ t,dN .i64 0]):=by
 refine⟨10^e,fun y m hm=>?_,fun k j y h hj=>h.of_pow hj,(qe e).fit (by omega),rfl,DY he (by omega) (xj e) QH rfl⟩;rw[Int.mul_assoc,<- Int.pow_add,show e+(m-e)=m by omega]
theorem Az {n:Nat} (hn:n<=65536) {z:Int} (hz:(10:Int)^n=z):aa Tryz.prog 347 [dN .i64 n] (.one (dZ z)):=by
 refine kV func347 ?_;refine kQ (x7) ?_;refine ax (Nat × Int) (fun p=>p.1<=n/\p.2*10^p.1=z/\Sz (n-p.1+1) p.2) (fun p=>⟨[(0, .d (dN .i64 p.1)),(2, .box 0 0),(3, .box 1001 0)],[(0,some [.val (.bool false), .sl 0 []]),(1001,some (aZ p.2))]⟩) (fun p=>p.1) (n,1) ⟨Nat.le_refl _,by rw[Int.one_mul];exact hz,(Sz.small (z:=1) (by decide)).mono (by omega)⟩ kw ?_;rintro⟨m,y⟩ ⟨hm,hy,hs⟩;dsimp only at hm hy hs ⊢;refine kW ?_;refine lA rfl (fun h=>?_) (fun h=>?_)
 ·have h4:4096<m:=by have:=of_decide_eq_true h;omega
  obtain⟨t,t1,t2,t3,_,t4⟩:=Ns 4096 (Nat.le_refl _);refine MZ ?_;refine⟨(m-4096,y*t),⟨by omega,?_,?_⟩,by dsimp only;omega,weak ⟨?_,rfl,rfl,trivial⟩ ⟨rfl,rfl,trivial⟩ rfl⟩
  ·exact(t1 y m (by omega)).trans hy
  ·exact t2 _ _ y hs (by dsimp only;omega)
  ·exact aA (by omega) (by omega)
 ·have h4:m<=4096:=by have:=of_decide_eq_false h;omega
  obtain⟨t,_,_,t3,ht,t4⟩:=Ns m h4;refine jU ?_;refine MZ ?_;rw[<- hy,ht];exact dx (T:=TT) rfl rfl
theorem eH {l:List UInt8} (h:∀c∈l,fS c):Sz l.length (num l:Int):=by
 unfold Sz;rw[Int.natAbs_natCast];exact Nat.lt_of_lt_of_le (vC _ l rfl h) (Nat.pow_le_pow_left (by decide) _)
theorem uG {a b:List UInt8} (hl:a.length+b.length<=65536) (ha:jq false a) (hb:b≠[]) (hd:∀x∈b,fS x) {q:Rat} (hq:Rat.divInt ((num a*10^b.length+num b:Nat):Int) ((10^b.length:Nat):Int)=q):aa Tryz.prog 334 [dL a,dL b] (.tup [dQ q,dB true]):=by
 obtain⟨p,hp⟩:∃p,(10:Int)^b.length=p:=⟨_,rfl⟩;have hpc:((10^b.length:Nat):Int)=p:=by rw[<- hp,Int.natCast_pow];rfl
 have hp0:p≠0:=by rw[<- hpc];have:=Nat.pow_pos (a:=10) (n:=b.length) (by decide);omega
 have sp:Sz (b.length+1) p:=by rw[<- hp];exact qe _
 have sa:=eH (dt ha);have sb:=eH hd;have hn:((num a*10^b.length+num b:Nat):Int)=(num a:Int)*p+num b:=by rw[Int.natCast_add,Int.natCast_mul,hpc]
 rw[hn,hpc]at hq;have sn:Sz (a.length+b.length+2) ((num a:Int)*p+num b):=(sa.mul sp).add (sb.mono (by omega));have c2:=jX (IG b);have htl:(IG b).length<=b.length:=(List.dropWhile_sublist _).length_le;have htd:∀c∈IG b,fS c:=fun c hc=>hd c ((List.dropWhile_sublist _).subset hc)
 rw[Ax htd (by omega),CP]at c2
 by_cases ht:IG b=[]
 ·have hb0:num b=0:=by rw[<- CP,ht];rfl
  rw[hb0]at hq sn;refine tF ?_;refine am (eA (b:=true) (by omega) (gw.2 ⟨hd,hb⟩)) rfl rfl rfl rfl rfl rfl rfl ?_;refine kW ?_;refine kC (m6 b) ?_;refine kN ?_;refine S8 ?_;refine aD rfl rfl rfl rfl rfl rfl rfl (jH (a:=IG b) (b:=[]) ht) ?_;refine BO ?_;refine am (wq (na:=decide ((num a:Int)*p<0)) (xs:=digs ((num a:Int)*p).natAbs) (nb:=false) (ys:=[]) (aH _) Wd.nil ((sa.mul sp).fit (by omega)) (by unfold vT;simp) (z:=(num a:Int)*p+(0:Nat)) (by rw[bA];rfl)) rfl rfl rfl rfl rfl rfl rfl ?_;exact LI
 ·rw[if_pos (OP hd ht)]at c2
  refine tF ?_;refine am (eA (b:=true) (by omega) (gw.2 ⟨hd,hb⟩)) rfl rfl rfl rfl rfl rfl rfl ?_;refine kW ?_;refine kC (m6 b) ?_;refine kN ?_;refine S8 ?_;refine aD rfl rfl rfl rfl rfl rfl rfl (jJ (a:=IG b) (b:=[]) ht) ?_;refine kW ?_;refine kC (c2) ?_;refine BO ?_;refine am (oe ((sa.mul sp).fit (by omega)) (sb.fit (by omega))) rfl rfl rfl rfl rfl rfl rfl ?_;exact LI
theorem sM {a b:List UInt8} (hl:a.length+b.length<=65536) (h:¬(jq false a/\b≠[]/\ ∀x∈b,fS x)):aa Tryz.prog 334 [dL a,dL b] (.tup [F9,dB false]):=by
 by_cases ha:jq false a
 ·refine tF ?_
  refine am (eA (l:=b) (b:=false) (by omega) (Bool.eq_false_iff.2 fun hb=>h ⟨ha,(gw.1 hb).2,(gw.1 hb).1⟩)) rfl rfl rfl rfl rfl rfl rfl ?_;exact ar
 ·refine kV func334 ?_;refine am (ew (by omega) ha) rfl rfl rfl rfl rfl rfl rfl ?_;exact ar
theorem r6 {a b:List UInt8} (hl:a.length+b.length<=65536) (h:jq false a/\jq false b/\num b≠0/\num b≠1/\Nat.gcd (num a) (num b)=1) {q:Rat} (hq:Rat.divInt (num a:Int) (num b:Int)=q):aa Tryz.prog 333 [dL a,dL b] (.tup [dQ q,dB true]):=by
 obtain⟨h1,h2,h3,h4,h5⟩:=h;have sa:=eH (dt h1);have sb:=eH (dt h2)
 have e:q.num=num a/\q.den=num b:=by
  refine F7 (Nat.pos_of_ne_zero h3) (by rw[Int.natAbs_natCast];exact h5) ?_;have h0:(q.den:Int)≠0:=by have:=du q;omega
  have:=(Rat.divInt_eq_divInt_iff h0 (show(num b:Int)≠0 by omega)).1 ((qx q).trans hq.symm);exact this.symm
 rw[IX e.1 (d:=num b) (by rw[e.2])];refine M1 ?_;refine am (kL (sa.fit (by omega)) (sb.fit (by omega)) (g:=1) (by rw[Int.natAbs_natCast,Int.natAbs_natCast];exact h5)) rfl rfl rfl rfl rfl rfl rfl ?_;refine kW ?_;refine kC (bg (b:=true) rfl) ?_;exact ar
theorem rX {a b:List UInt8} (hl:a.length+b.length<=65536) (h:¬(jq false a/\jq false b/\num b≠0/\num b≠1/\Nat.gcd (num a) (num b)=1)):aa Tryz.prog 333 [dL a,dL b] (.tup [F9,dB false]):=by
 by_cases h1:jq false a
 ·by_cases h2:jq false b
  ·have sa:=eH (dt h1)
   have sb:=eH (dt h2)
   by_cases h3:num b=0
   ·refine F3 ?_
    refine IB ?_;refine kW ?_;refine am (bY (decide_eq_true (show(num b:Int)=0 by omega))) rfl rfl rfl rfl rfl rfl rfl ?_;exact ar
   ·by_cases h4:num b=1
    ·refine Rl ?_
     refine am (bg (decide_eq_true (show(num b:Int)=1 by omega))) rfl rfl rfl rfl rfl rfl rfl ?_;exact ar
    ·obtain⟨g,hg⟩:∃g,Nat.gcd (num a) (num b)=g:=⟨_,rfl⟩
     have hg1:g≠1:=fun e=>h ⟨h1,h2,h3,h4,hg.trans e⟩
     refine M1 ?_;refine am (kL (sa.fit (by omega)) (sb.fit (by omega)) (g:=g) (by rw[Int.natAbs_natCast,Int.natAbs_natCast];exact hg)) rfl rfl rfl rfl rfl rfl rfl ?_;refine kW ?_;refine am (bg (decide_eq_false (show ¬(g:Int)=1 by omega))) rfl rfl rfl rfl rfl rfl rfl ?_;exact ar
  ·refine F3 ?_
   refine am (ew (by omega) h2) rfl rfl rfl rfl rfl rfl rfl ?_;exact ar
 ·by_cases h2:jq false b
  ·refine kV func333 ?_;refine am (ew (by omega) h1) rfl rfl rfl rfl rfl rfl rfl ?_;refine kW ?_;refine IB ?_;exact ar
  ·refine kV func333 ?_;refine am (ew (by omega) h1) rfl rfl rfl rfl rfl rfl rfl ?_;refine kW ?_;refine am (ew (by omega) h2) rfl rfl rfl rfl rfl rfl rfl ?_;exact ar
theorem yf {c:UInt8} {t:List UInt8} (h:c∈t):∃a b,t=a++c::b/\c ∉ a:=by
 induction t with
 |nil=>cases h
 |cons x t ih=>
  by_cases hx:x=c
  ·subst hx;exact⟨[],t,rfl,by simp⟩
  ·have h':c∈t:=by
    rcases List.mem_cons.1 h with e|e
    ·exact absurd e.symm hx
    ·exact e
   obtain⟨a,b,rfl,hn⟩:=ih h'
   exact⟨x::a,b,rfl,fun e=>by
    rcases List.mem_cons.1 e with e|e
    ·exact hx e.symm
    ·exact hn e⟩
theorem lf {t:List UInt8} (hl:t.length<=65536):(∃q,je t=some q/\dJ 200000 q/\aa Tryz.prog 329 [dL t] (.tup [dQ q,dB true]))∨(je t=none/\ ∃x,(x=F9∨x= .agg (aZ 0++aZ 1))/\aa Tryz.prog 329 [dL t] (.tup [x,dB false])):=by
 by_cases h47:47∈t
 ·obtain⟨a,b,rfl,ha⟩:=yf h47
  have hab:a.length+b.length<=65536:=by simp at hl;omega
  rw[DQ ha]
  by_cases h:jq false a/\jq false b/\num b≠0/\num b≠1/\Nat.gcd (num a) (num b)=1
  ·rw[if_pos h]
   refine .inl ⟨_,rfl, .divInt ((eH (dt h.1)).mono (by omega)) ((eH (dt h.2.1)).mono (by omega)) (by have:=h.2.2.1;omega),?_⟩;refine kU func329 ?_;refine J2 ?_;refine kC (r6 hab h rfl) ?_;exact ar
  ·rw[if_neg h]
   refine .inr ⟨rfl,F9, .inl rfl,?_⟩;refine kU func329 ?_;refine J2 ?_;refine kC (rX hab h) ?_;exact ar
 by_cases h46:46∈t
 ·obtain⟨a,b,rfl,ha⟩:=yf h46
  have hab:a.length+b.length<=65536:=by simp at hl;omega
  rw[Le h47 ha]
  by_cases h:jq false a/\b≠[]/\ ∀x∈b,fS x
  ·rw[if_pos h]
   have hp0:((10^b.length:Nat):Int)≠0:=by have:=Nat.pow_pos (a:=10) (n:=b.length) (by decide);omega
   have s1:Sz 200000 ((10^b.length:Nat):Int):=by rw[Int.natCast_pow];exact(qe b.length).mono (by omega)
   have s2:Sz 200000 ((num a*10^b.length+num b:Nat):Int):=by
    rw[Int.natCast_add,Int.natCast_mul,Int.natCast_pow];exact(((eH (dt h.1)).of_pow (j:=131072) (by omega)).add ((eH h.2.2).mono (by omega))).mono (by omega)
   refine .inl ⟨_,rfl, .divInt s2 s1 hp0,?_⟩;refine CC ?_;refine J2 ?_;refine kC (uG hab h.1 h.2.1 h.2.2 rfl) ?_;exact ar
  ·rw[if_neg h]
   refine .inr ⟨rfl,F9, .inl rfl,?_⟩;refine CC ?_;refine J2 ?_;refine kC (sM hab h) ?_;exact ar
 rw[GL h47 h46]
 by_cases h:jq false t
 ·rw[if_pos h]
  refine .inl ⟨_,rfl,⟨(eH (dt h)).mono (by omega),(Sz.small (z:=1) (by decide)).mono (by omega)⟩,?_⟩;refine CC ?_;refine kW ?_;refine kQ (nB h46) ?_;refine kC (iI hl h) ?_;exact MV
 ·rw[if_neg h]
  refine .inr ⟨rfl,_, .inr rfl,?_⟩;refine CC ?_;refine kW ?_;refine kQ (nB h46) ?_;refine kC (ew hl h) ?_;exact MV
theorem zJ {s:List UInt8} {q:Rat} (h:fG s=some q):aa Tryz.prog 313 [dL s] (.tup [dQ q,dN .i64 0]):=by
 have hsz:=aw s;unfold fG at h
 split at h
 ·rename_i hl
  have hdl:=pK s;rcases lf (t:=mO s) (by omega)with⟨p,hp,sp,c1⟩| ⟨hp,_⟩
  ·rw[hp]at h
   dsimp only at h;cases hn:dO s
   ·rw[hn]at h
    simp only[Bool.false_eq_true,if_false,Option.some.injEq]at h
    subst h;refine Io ?_;refine yk ?_;refine kB false ?_ ?_
    ·exact hn
    refine kW ?_;refine iR (T:=TT) rfl ?_ ?_
    ·exact hn
    exact ar
   ·rw[hn]at h
    simp only[if_true]at h
    split at h
    ·cases h
    ·rename_i hp0
     cases h;have h0:¬p.num=0:=fun e=>hp0 (Rat.num_eq_zero.1 e)
     refine Io ?_;refine yk ?_;refine kB true ?_ ?_
     ·exact hn
     refine kW ?_;refine kQ (bY (decide_eq_false h0)) ?_;refine gL (T:=TT) rfl ?_ ?_
     ·exact hn
     refine kW ?_;refine am (xt sp (by decide) rfl) rfl rfl rfl rfl rfl rfl rfl ?_;exact ar
  ·rw[hp]at h;cases h
 ·cases h
theorem wM {s:List UInt8} (h:fG s=none):aa Tryz.prog 313 [dL s] (.tup [F9,dN .i64 2]):=by
 have hsz:=aw s
 by_cases hl:s.length<=65536
 ·have hdl:=pK s
  unfold fG at h;rw[if_pos hl]at h;rcases lf (t:=mO s) (by omega)with⟨p,hp,sp,c1⟩| ⟨hp,x,hx,c1⟩
  ·rw[hp]at h
   dsimp only at h;cases hn:dO s
   ·rw[hn]at h
    simp at h
   ·rw[hn]at h
    simp only[if_true]at h
    split at h
    ·rename_i hp0
     have h0:p.num=0:=Rat.num_eq_zero.2 hp0;refine Io ?_;refine yk ?_;refine kB true ?_ ?_
     ·exact hn
     refine kW ?_;refine kC (bY (decide_eq_true h0)) ?_;exact ar
    ·cases h
  ·rcases hx with rfl|rfl
   ·refine Io ?_
    exact ar
   ·refine Io ?_
    exact ar
 ·refine kV func313 ?_;refine kC (zv s) ?_;refine Ci ?_;exact ar
def lB (q:Rat) (p:Int):List AV:=aQ q++[.val (.int .i64 p)]
def uw (q:Rat) (p:Int):DV:= .agg (lB q p)
def ie:List AV:=jb++[.val (.int .i64 0)]
def Ar:DV:= .agg ie
def o9 (p:Int):Bool:=decide (-4<=p) && decide (p<=4)
theorem rA {cs cs':List AV} {o k:Nat} (h:(cs.drop o).take k=cs'):∀(j:Nat) (a:AV),cs'[j]? =some a->cs[o+j]? =some a:=by
 intro j a hj;rw[<- h,List.getElem?_take]at hj
 split at hj
 ·simpa using hj
 ·cases hj
def JQ:List (List UInt8 × Rat):=[([99,109],(10:Int)),([102,116],Rat.divInt 1524 5),([105,110],Rat.divInt 127 5),([109],(1000:Int)),([109,109],(1:Int))]
def Fq (s:List UInt8):List (List UInt8 × Rat)->Option Rat
 | []=>none
 |(n,q)::r=>if s=n then some q else Fq s r
def PK (s:List UInt8):Option Rat:=Fq s JQ
def gc:List AV:=[.val (.string ⟨#[99,109]⟩), .val (.int .i64 10), .val (.int .i64 1), .val (.string ⟨#[102,116]⟩), .val (.int .i64 1524), .val (.int .i64 5), .val (.string ⟨#[105,110]⟩), .val (.int .i64 127), .val (.int .i64 5), .val (.string ⟨#[109]⟩), .val (.int .i64 1000), .val (.int .i64 1), .val (.string ⟨#[109,109]⟩), .val (.int .i64 1), .val (.int .i64 1)]
def vQ (s:List UInt8):RV:=match PK s with
 |some q=> .tup [uw q 1,dB true]
 |none=> .tup [Ar,dB false]
theorem wy (s:List UInt8):aa Tryz.prog 184 [dL s] (vQ s):=by
 refine kV func184 ?_;refine rD 6 ?_;refine bI ⟨[(0, .d (dL s)),(2, .box 0 0),(3, .d (dB false)),(6, .d (.leaf (.sl 5 gc))),(7, .d (dN .i64 5)),(8, .d (dN .i64 0))],[(0,some ie)]⟩ kw ?_;refine kW ?_;refine aP (i:=0) (cs':=[.val (vL [99,109]), .val (.int .i64 10), .val (.int .i64 1)]) (by decide) (rA (k:=3) rfl) (by decide) rfl rfl rfl rfl rfl rfl rfl rfl ?_;refine yk ?_
 by_cases h0:s=[99,109]
 ·refine aD rfl rfl rfl rfl rfl rfl rfl (bf (a:=[99,109]) (b:=s) h0.symm) ?_
  refine kW ?_;refine am (ir 10 1 (by decide) (by decide) (by decide) (by decide) (q:=((10:Int):Rat)) (by first|rfl|exact divInt_one _)) rfl rfl rfl rfl rfl rfl rfl ?_;refine kW ?_;have:vQ s= .tup [uw (((10:Int):Rat)) 1,dB true]:=by subst h0;rfl
  exact tf
 refine aD rfl rfl rfl rfl rfl rfl rfl (bT (a:=[99,109]) (b:=s) (fun e=>h0 e.symm)) ?_;refine kW ?_;refine bI ⟨[(0, .d (dL s)),(2, .box 0 0),(3, .d (dB false)),(6, .d (.leaf (.sl 5 gc))),(7, .d (dN .i64 5)),(8, .d (dN .i64 1))],[(0,some ie)]⟩ kw ?_;refine kW ?_;refine aP (i:=1) (cs':=[.val (vL [102,116]), .val (.int .i64 1524), .val (.int .i64 5)]) (by decide) (rA (k:=3) rfl) (by decide) rfl rfl rfl rfl rfl rfl rfl rfl ?_;refine yk ?_
 by_cases h1:s=[102,116]
 ·refine aD rfl rfl rfl rfl rfl rfl rfl (bf (a:=[102,116]) (b:=s) h1.symm) ?_
  refine kW ?_;refine am (ir 1524 5 (by decide) (by decide) (by decide) (by decide) (q:=Rat.divInt 1524 5) (by first|rfl|exact divInt_one _)) rfl rfl rfl rfl rfl rfl rfl ?_;refine kW ?_;have:vQ s= .tup [uw (Rat.divInt 1524 5) 1,dB true]:=by subst h1;rfl
  exact tf
 refine aD rfl rfl rfl rfl rfl rfl rfl (bT (a:=[102,116]) (b:=s) (fun e=>h1 e.symm)) ?_;refine kW ?_;refine bI ⟨[(0, .d (dL s)),(2, .box 0 0),(3, .d (dB false)),(6, .d (.leaf (.sl 5 gc))),(7, .d (dN .i64 5)),(8, .d (dN .i64 2))],[(0,some ie)]⟩ kw ?_;refine kW ?_;refine aP (i:=2) (cs':=[.val (vL [105,110]), .val (.int .i64 127), .val (.int .i64 5)]) (by decide) (rA (k:=3) rfl) (by decide) rfl rfl rfl rfl rfl rfl rfl rfl ?_;refine yk ?_
 by_cases h2:s=[105,110]
 ·refine aD rfl rfl rfl rfl rfl rfl rfl (bf (a:=[105,110]) (b:=s) h2.symm) ?_
  refine kW ?_;refine am (ir 127 5 (by decide) (by decide) (by decide) (by decide) (q:=Rat.divInt 127 5) (by first|rfl|exact divInt_one _)) rfl rfl rfl rfl rfl rfl rfl ?_;refine kW ?_;have:vQ s= .tup [uw (Rat.divInt 127 5) 1,dB true]:=by subst h2;rfl
  exact tf
 refine aD rfl rfl rfl rfl rfl rfl rfl (bT (a:=[105,110]) (b:=s) (fun e=>h2 e.symm)) ?_;refine kW ?_;refine bI ⟨[(0, .d (dL s)),(2, .box 0 0),(3, .d (dB false)),(6, .d (.leaf (.sl 5 gc))),(7, .d (dN .i64 5)),(8, .d (dN .i64 3))],[(0,some ie)]⟩ kw ?_;refine kW ?_;refine aP (i:=3) (cs':=[.val (vL [109]), .val (.int .i64 1000), .val (.int .i64 1)]) (by decide) (rA (k:=3) rfl) (by decide) rfl rfl rfl rfl rfl rfl rfl rfl ?_;refine yk ?_
 by_cases h3:s=[109]
 ·refine aD rfl rfl rfl rfl rfl rfl rfl (bf (a:=[109]) (b:=s) h3.symm) ?_
  refine kW ?_;refine am (ir 1000 1 (by decide) (by decide) (by decide) (by decide) (q:=((1000:Int):Rat)) (by first|rfl|exact divInt_one _)) rfl rfl rfl rfl rfl rfl rfl ?_;refine kW ?_;have:vQ s= .tup [uw (((1000:Int):Rat)) 1,dB true]:=by subst h3;rfl
  exact tf
 refine aD rfl rfl rfl rfl rfl rfl rfl (bT (a:=[109]) (b:=s) (fun e=>h3 e.symm)) ?_;refine kW ?_;refine bI ⟨[(0, .d (dL s)),(2, .box 0 0),(3, .d (dB false)),(6, .d (.leaf (.sl 5 gc))),(7, .d (dN .i64 5)),(8, .d (dN .i64 4))],[(0,some ie)]⟩ kw ?_;refine kW ?_;refine aP (i:=4) (cs':=[.val (vL [109,109]), .val (.int .i64 1), .val (.int .i64 1)]) (by decide) (rA (k:=3) rfl) (by decide) rfl rfl rfl rfl rfl rfl rfl rfl ?_;refine yk ?_
 by_cases h4:s=[109,109]
 ·refine aD rfl rfl rfl rfl rfl rfl rfl (bf (a:=[109,109]) (b:=s) h4.symm) ?_
  refine kW ?_;refine am (ir 1 1 (by decide) (by decide) (by decide) (by decide) (q:=((1:Int):Rat)) (by first|rfl|exact divInt_one _)) rfl rfl rfl rfl rfl rfl rfl ?_;refine kW ?_;have:vQ s= .tup [uw (((1:Int):Rat)) 1,dB true]:=by subst h4;rfl
  exact tf
 refine aD rfl rfl rfl rfl rfl rfl rfl (bT (a:=[109,109]) (b:=s) (fun e=>h4 e.symm)) ?_;refine kW ?_;refine bI ⟨[(0, .d (dL s)),(2, .box 0 0),(3, .d (dB false)),(6, .d (.leaf (.sl 5 gc))),(7, .d (dN .i64 5)),(8, .d (dN .i64 5))],[(0,some ie)]⟩ kw ?_;refine kW ?_
 have:vQ s= .tup [Ar,dB false]:=by
  unfold vQ PK JQ
  simp only[Fq,h0,h1,h2,h3,h4,if_false]
 exact tf
theorem lV {q:Rat} {p:Int} (h:o9 p=true):aa Tryz.prog 255 [dQ q,dN .i64 p] (.tup [uw q p,dN .i64 0]):=by
 simp only[o9,Bool.and_eq_true,decide_eq_true_eq]at h
 refine kU func255 ?_;refine S8 ?_;refine kE ?_;exact L5
theorem qQ {q:Rat} {p:Int} (h:o9 p=false):aa Tryz.prog 255 [dQ q,dN .i64 p] (.tup [Ar,dN .i64 8]):=by
 simp only[o9,Bool.and_eq_false_iff,decide_eq_false_iff_not]at h
 by_cases h1:p< -4
 ·refine kU func255 ?_
  refine S8 ?_;refine kB true ?_ ?_
  ·exact decide_eq_true h1
  exact ar
 ·refine kU func255 ?_
  refine S8 ?_;refine kB false ?_ ?_
  ·exact decide_eq_false h1
  refine kO2 ?_
  refine kT ?_;exact ar
abbrev QR:=Except Int (Rat × Int)
def d9:QR->RV
 | .ok x=> .tup [uw x.1 x.2,dN .i64 0]
 | .error e=> .tup [Ar,dN .i64 e]
def su (a:Rat) (p:Int) (b:Rat) (p':Int):QR:=if p=p' then .ok (a+b,p)else .error 8
def Ak (a:Rat) (p:Int) (b:Rat) (p':Int):QR:=if o9 (p+p')then .ok (a*b,p+p')else .error 8
def zr (a:Rat) (p:Int) (b:Rat) (p':Int):QR:=if b=0 then .error 6 else if o9 (p-p')then .ok (a/b,p-p')else .error 8
theorem x3 {j k:Nat} {a b:Rat} {p p':Int} (h:dJ j a) (h':dJ k b) (hk:j+k+1<=2147483648) (hp:o9 p=true):aa Tryz.prog 186 [uw a p,uw b p'] (d9 (su a p b p')):=by
 unfold su
 by_cases e:p=p'
 ·rw[if_pos e]
  refine kU func186 ?_;refine gm ?_;refine kB false ?_ ?_
  ·exact(by rw[e];simp)
  refine kW ?_;refine kQ (l8 h h' hk rfl) ?_;refine kC (lV hp) ?_;exact ar
 ·rw[if_neg e]
  refine kU func186 ?_;refine gm ?_;refine kB true ?_ ?_
  ·exact(by simpa using e)
  exact ar
theorem BZ {p p':Int} (h:o9 p=true) (h':o9 p'=true): -8<=p+p'/\p+p'<=8/\ -8<=p-p'/\p-p'<=8:=by
 simp only[o9,Bool.and_eq_true,decide_eq_true_eq]at h h'
 omega
theorem GV {j k:Nat} {a b:Rat} {p p':Int} (h:dJ j a) (h':dJ k b) (hk:j+k<=2147483648) (hp:o9 p=true) (hp':o9 p'=true):aa Tryz.prog 187 [uw a p,uw b p'] (d9 (Ak a p b p')):=by
 have hr:=BZ hp hp';unfold Ak;cases e:o9 (p+p')
 ·rw[if_neg (by simp)]
  refine MR ?_;refine kC (qQ e) ?_;exact ar
 ·rw[if_pos rfl]
  refine MR ?_;refine kC (lV e) ?_;exact ar
theorem Hk {j k:Nat} {a b:Rat} {p p':Int} (h:dJ j a) (h':dJ k b) (hk:j+k<=2147483648) (hp:o9 p=true) (hp':o9 p'=true):aa Tryz.prog 188 [uw a p,uw b p'] (d9 (zr a p b p')):=by
 have hr:=BZ hp hp';have hw:IntKind.i64.wrap (p-p')=p-p':=IntWalk.i64_in _ (by omega);unfold zr
 by_cases hb:b=0
 ·rw[if_pos hb]
  refine kV func188 ?_;refine kC (Dm hb) ?_;exact ar
 ·rw[if_neg hb]
  cases e:o9 (p-p')
  ·rw[if_neg (by simp)]
   rw[<- hw]at e;refine kV func188 ?_;refine kQ (wL h h' hk hb rfl) ?_;refine kC (qQ e) ?_;exact ar
  ·rw[if_pos rfl]
   rw[<- hw]at e;refine kV func188 ?_;refine kQ (wL h h' hk hb rfl) ?_;refine kC (lV e) ?_;refine SW ?_;rw[hw];rfl
theorem ll {k:Nat} {a:Rat} {p:Int} (h:dJ k a) (hk:k<=2147483648):aa Tryz.prog 185 [uw a p] (.one (uw (-a) p)):=by
 refine kV func185 ?_;refine kC (xt h hk rfl) ?_;exact ar
theorem xV {n d:Int} (hd:d≠0):Rat.divInt n d=0↔n=0:=by
 have h0:(0:Rat)=Rat.divInt 0 1:=by rfl
 rw[h0,Rat.divInt_eq_divInt_iff hd (by decide)]
 simp
theorem ls {k:Nat} {a:Rat} {p:Int} (h:dJ k a) (hk:k<=2147483640) (hp:p=0∨p=1):aa Tryz.prog 96 [uw a p] (.tup [dQ a,dN .i64 0]):=by
 have e0:a+((0:Int):Rat)=a:=Rat.add_zero a;have s0:dJ 1 ((0:Int):Rat):=⟨.small (by decide), .small (by decide)⟩;rcases hp with rfl|rfl
 ·exact Lx
 ·exact Lx
theorem mA {a:Rat} {p:Int} (hp:¬(p=0∨p=1)):aa Tryz.prog 96 [uw a p] (.tup [F9,dN .i64 8]):=by
 have h0:p≠0:=fun e=>hp (.inl e)
 have h1:p≠1:=fun e=>hp (.inr e)
 refine kU func96 ?_;refine qE ?_;refine kB true ?_ ?_
 ·exact(by simpa using h0)
 refine kO3 ?_
 refine kB true ?_ ?_
 ·exact(by simpa using h1)
 exact ar
theorem Fb {s:List UInt8} {q:Rat} (h:PK s=some q):dJ 1 q/\q≠0:=by
 have key:∀(l:List (List UInt8 × Rat)),(∀x∈l,dJ 1 x.2/\x.2≠0)-> ∀q,Fq s l=some q->dJ 1 q/\q≠0:=by
  intro l
  induction l with
  |nil=>intro _ q h;cases h
  |cons x l ih=>
   intro hl q h;obtain⟨n,r⟩:=x
   simp only[Fq]at h
   split at h
   ·cases h;exact hl (n,q) (by simp)
   ·exact ih (fun x hx=>hl x (by simp[hx])) q h
 refine key JQ (fun x hx=>?_) q h;have i1:∀n:Int,n.natAbs<4294967296->n≠0->dJ 1 (n:Rat)/\(n:Rat)≠0:=fun n h0 h1=>⟨⟨.small h0, .small (z:=1) (by decide)⟩,fun e=>h1 (by exact_mod_cast e)⟩
 have i2:∀n d:Int,n.natAbs<4294967296->d.natAbs<4294967296->n≠0->d≠0->dJ 1 (Rat.divInt n d)/\Rat.divInt n d≠0:=fun n d h0 h1 h2 h3=>⟨.divInt (.small h0) (.small h1) h3,fun e=>h2 ((xV h3).1 e)⟩
 simp only[JQ,List.mem_cons,List.not_mem_nil,or_false]at hx
 rcases hx with rfl|rfl|rfl|rfl|rfl
 ·exact i1 10 (by decide) (by decide)
 ·exact i2 1524 5 (by decide) (by decide) (by decide) (by decide)
 ·exact i2 127 5 (by decide) (by decide) (by decide) (by decide)
 ·exact i1 1000 (by decide) (by decide)
 ·exact i1 1 (by decide) (by decide)
end Go.Proofs.YtnchbpoopnjghaaGreatDoor
