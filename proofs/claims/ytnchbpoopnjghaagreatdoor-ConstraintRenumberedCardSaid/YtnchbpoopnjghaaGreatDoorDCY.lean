/- Constraints with more points, and with points under other numbers: plain law. -/
import Derived.Test.YtnchbpoopnjghaaGreatDoorDZ10
set_option maxHeartbeats 100000000
set_option linter.all false
namespace Go.Proofs.YtnchbpoopnjghaaGreatDoor
open Go.RowKit
theorem gM {m z:Int}:kM m z=true↔0<=z/\z<m:=by
 unfold kM
 simp
theorem wE {l:List Int} {m m':Int} (h:l.all (kM m)=true) (hm:m<=m'):l.all (kM m')=true:=
 List.all_eq_true.2 fun z hz=>by
  have:=gM.1 (List.all_eq_true.1 h z hz);exact gM.2 (by omega)
theorem IM {c:Cn} {P Q P' Q':Int} (h:vA c P Q=true) (hp:P<=P') (hq:Q<=Q'):vA c P' Q'=true:=by
 cases hk:oq c.k with
 |none=>rw[iI hk]at h;cases h
 |some r=>
  rw[fF hk]at h ⊢
  simp only[Bool.and_eq_true]at h ⊢
  obtain⟨⟨h1,h2⟩,⟨h3,h4⟩,h5⟩:=h;exact⟨⟨h1,wE h2 hp⟩,⟨h3,wE h4 hq⟩,h5⟩
def oK (b z:Int):Int:=(z+b).tmod 8
def SJ (b:Int) (c:Cn):Cn:=⟨c.k,c.ps.map (oK b),c.cs.map (oK b),c.vs,c.s⟩
theorem P2 {b z:Int} (hb:0<=b) (hz:kM 8 z=true):kM 8 (oK b z)=true:=by
 have:=gM.1 hz;refine gM.2 ?_;unfold oK;rw[Int.tmod_eq_emod_of_nonneg (by omega)];omega
theorem CS {b x y:Int} (hb:0<=b) (hx:kM 8 x=true) (hy:kM 8 y=true) (h:oK b x=oK b y):x=y:=by
 have h1:=gM.1 hx;have h2:=gM.1 hy;unfold oK at h;rw[Int.tmod_eq_emod_of_nonneg (by omega),Int.tmod_eq_emod_of_nonneg (by omega)]at h;omega
theorem Gn {f:Int->Int} {l:List Int} (hf:∀x∈l,∀y∈l,f x=f y->x=y) (h:l.Nodup):(l.map f).Nodup:=
 List.pairwise_map.2 (List.Pairwise.imp_of_mem (fun {a b} ha hb hab e=>hab (hf a ha b hb e)) h)
theorem LR {f:Int->Int} {l:List Int} (hf:∀x∈l,∀y∈l,f x=f y->x=y) (h:Ih l=true):Ih (l.map f)=true:=by
 obtain⟨p,q,r,s,rfl⟩:∃p q r s,l=[p,q,r,s]:=by
  unfold Ih at h
  split at h
  ·exact⟨_,_,_,_,rfl⟩
  ·cases h
 have e:∀x∈[p,q,r,s],∀y∈[p,q,r,s],decide (f x=f y)=decide (x=y):=fun x hx y hy=>decide_eq_decide.2 ⟨hf x hx y hy,congrArg f⟩
 have h:(!decide (p=q) && (!decide (r=s) && (!(decide (p=r) && decide (q=s)) && !(decide (p=s) && decide (q=r)))))=true:=h;show(!decide (f p=f q) && (!decide (f r=f s) && (!(decide (f p=f r) && decide (f q=f s)) && !(decide (f p=f s) && decide (f q=f r)))))=true;rw[e p (by simp) q (by simp),e r (by simp) s (by simp),e p (by simp) r (by simp),e q (by simp) s (by simp),e p (by simp) s (by simp),e q (by simp) r (by simp)];exact h
theorem GR {l:List Int} {b:Int} (hb:0<=b) (h:l.all (kM 8)=true):(l.map (oK b)).all (kM 8)=true:=
 List.all_eq_true.2 fun z hz=>by
  obtain⟨x,hx,rfl⟩:=List.mem_map.1 hz;exact P2 hb (List.all_eq_true.1 h x hx)
theorem ES {c:Cn} {b:Int} (hb:0<=b) (h:vA c 8 8=true):vA (SJ b c) 8 8=true:=by
 cases hk:oq c.k with
 |none=>rw[iI hk]at h;cases h
 |some r=>
  rw[fF hk]at h;rw[fF (c:=SJ b c) hk]
  simp only[Bool.and_eq_true]at h ⊢
  obtain⟨⟨h1,h2⟩,⟨h3,h4⟩,h5,h6,h7,h8⟩:=h;have ip:∀x∈c.ps,∀y∈c.ps,oK b x=oK b y->x=y:=fun x hx y hy=>CS hb (List.all_eq_true.1 h2 x hx) (List.all_eq_true.1 h2 y hy)
  have iq:∀x∈c.cs,∀y∈c.cs,oK b x=oK b y->x=y:=fun x hx y hy=>CS hb (List.all_eq_true.1 h4 x hx) (List.all_eq_true.1 h4 y hy)
  refine⟨⟨by show decide (((c.ps.map (oK b)).length:Int)=r.p)=true;rw[List.length_map];exact h1,GR hb h2⟩,⟨by show decide (((c.cs.map (oK b)).length:Int)=r.c)=true;rw[List.length_map];exact h3,GR hb h4⟩,h5,h6,h7,?_⟩;show(if 5<=c.k/\c.k<=8 then Ih (c.ps.map (oK b))else decide (c.ps.map (oK b)).Nodup && decide (c.cs.map (oK b)).Nodup)=true
  by_cases hc:5<=c.k/\c.k<=8
  ·rw[if_pos hc]at h8 ⊢
   exact LR ip h8
  ·rw[if_neg hc]at h8 ⊢
   rw[Bool.and_eq_true]at h8 ⊢;exact⟨decide_eq_true (Gn ip (of_decide_eq_true h8.1)),decide_eq_true (Gn iq (of_decide_eq_true h8.2))⟩
theorem Py {c:Cn} {P Q:Int} (h:vA c P Q=true):(∀z∈c.ps,0<=z/\z<P)/\ ∀z∈c.cs,0<=z/\z<Q:=by
 cases hk:oq c.k with
 |none=>rw[iI hk]at h;cases h
 |some r=>
  rw[fF hk]at h
  simp only[Bool.and_eq_true]at h
  obtain⟨⟨_,h2⟩,⟨_,h4⟩,_⟩:=h;exact⟨fun z hz=>gM.1 (List.all_eq_true.1 h2 z hz),fun z hz=>gM.1 (List.all_eq_true.1 h4 z hz)⟩
def pD (b:Int):Nat->List Int->List Int
 |0,l=>l
 |_+1,[]=>[]
 |i+1,z::l=>oK b z::pD b i l
theorem rX (b:Int):∀(i:Nat) (l:List Int),pD b i l=(l.take i).map (oK b)++l.drop i
 |0,l=>by simp[pD]
 |i+1,[]=>by simp[pD]
 |i+1,z::l=>by rw[pD,rX b i l];simp
theorem BG (b:Int) (i:Nat) (l:List Int):(pD b i l).length=l.length:=by
 rw[rX]
 simp
 omega
theorem CZ {b:Int} {l:List Int} {i:Nat} (h:l.length<=i):pD b i l=l.map (oK b):=by
 rw[rX,List.take_of_length_le h,List.drop_eq_nil_of_le h,List.append_nil]
theorem uJ {b:Int} {l:List Int} {i:Nat} {z:Int} (h:l[i]? =some z):pD b i l=(l.take i).map (oK b)++z::l.drop (i+1)/\pD b (i+1) l=(l.take i).map (oK b)++oK b z::l.drop (i+1):=by
 obtain⟨hl,he⟩:=List.getElem?_eq_some_iff.1 h;rw[rX,rX];refine⟨by rw[List.drop_eq_getElem_cons hl,he],?_⟩;rw[List.take_add_one,h]
 simp
theorem IG {b:Int} {l:List Int} {i:Nat} {z:Int} (h:l[i]? =some z):(dr (pD b i l))[i*1]? =some (.val (.int .i64 z)):=by
 have hl:=(List.getElem?_eq_some_iff.1 h).1;refine Di ?_;rw[(uJ h).1,List.getElem?_append_right (by simp;omega)]
 simp
 rw[show i-min i l.length=0 by omega];rfl
theorem CO {b:Int} {l:List Int} {i:Nat} {z:Int} (h:l[i]? =some z):bl (dr (pD b i l)) (i*1) [AV.val (.int .i64 (oK b z))]=dr (pD b (i+1) l):=by
 have hl:=(List.getElem?_eq_some_iff.1 h).1;obtain⟨e1,e2⟩:=uJ (b:=b) h;have hlen:(((l.take i).map (oK b)).map fun z=>AV.val (.int .i64 z)).length=i:=by simp;omega
 rw[e1,e2];unfold dr;rw[List.map_append,List.map_append,List.map_cons,List.map_cons];generalize(((l.take i).map (oK b)).map fun z=>AV.val (.int .i64 z))=u at *;unfold bl;rw[Nat.mul_one,<- hlen]
 simp
end Go.Proofs.YtnchbpoopnjghaaGreatDoor
