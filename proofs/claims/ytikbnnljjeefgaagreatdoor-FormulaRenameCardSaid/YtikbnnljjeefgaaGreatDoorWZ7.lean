/- Parts of a proof: contracts of the functions that the laws reach. -/
import Derived.Test.YtikbnnljjeefgaaGreatDoorWZ6
import Derived.Test.YtikbnnljjeefgaaGreatDoorWZ2
import Derived.Test.YtikbnnljjeefgaaGreatDoorWZ1
import Derived.Lib.AppendStr
import Derived.MapKept
import Derived.Defers
import Derived.Test.YtikbnnljjeefgaaGreatDoorWZ4
import Derived.Test.YtikbnnljjeefgaaGreatDoorWZ3
set_option maxHeartbeats 100000000
set_option linter.all false
open Go.Proofs.Tryz
namespace Go.Proofs.YtikbnnljjeefgaaGreatDoor
open Go.RowKit
abbrev gR:=Except (Nat × Int) (Ex × List Tk)
inductive Md where
 |sum
 |prod
 |un
 |prim
 |more (two:Bool) (e:Ex)
def lT:Bool→List UInt8→Option B4
 |false,[c]=>if c=43 then some .add else if c=45 then some .sub else none
 |true,[c]=>if c=42 then some .mul else if c=47 then some .div else none
 |_,_=>none
def fy (two:Bool):List Tk→Option (B4 × List Tk)
 |t::r=>if t.1=4 then(match lT two t.2.1 with|some k=>some (k,r)|none=>none)else none
 | []=>none
def bh (c:UInt8):List Tk→Option (List Tk)
 |t::r=>if t.1=4∧t.2.1=[c]then some r else none
 | []=>none
def C0:List Tk→Nat
 |t::_=>t.2.2
 | []=>0
noncomputable def el (t:Tk) (r:List Tk):gR:=match bJ t.2.1 with
 |none=> .error (t.2.2,2)
 |some q=>match fx q with
  |none=> .error (t.2.2,3)
  |some _=>match r with
   |u::r'=>if u.1=1 then .ok (.num q u.2.1,r')else .ok (.num q [],r)
   | []=> .ok (.num q [],r)
def eC:Bool→Md
 |false=> .prod
 |true=> .un
noncomputable def pP:Nat→Md→List Tk→Option gR
 |0,_,_=>none
 |f+1, .sum,ts=>match pP f .prod ts with
  |some (.ok (e,r))=>pP f (.more false e) r
  |x=>x
 |f+1, .prod,ts=>match pP f .un ts with
  |some (.ok (e,r))=>pP f (.more true e) r
  |x=>x
 |f+1, .more two e,ts=>match fy two ts with
  |some (k,r)=>match pP f (eC two) r with
   |some (.ok (e2,r2))=>pP f (.more two (.bin k e e2)) r2
   |x=>x
  |none=>some (.ok (e,ts))
 |f+1, .un,ts=>match bh 45 ts with
  |some r=>match pP f .un r with
   |some (.ok (e,r2))=>some (.ok (.neg e,r2))
   |x=>x
  |none=>pP f .prim ts
 |f+1, .prim,ts=>match bh 40 ts with
  |some r=>match pP f .sum r with
   |some (.ok (e,r2))=>match bh 41 r2 with
    |some r3=>some (.ok (e,r3))
    |none=>some (.error (C0 r2,2))
   |x=>x
  |none=>match ts with
   |t::r=>if t.1=2 then some (el t r)else if t.1=1 then some (.ok (.nam t.2.1,r))else some (.error (t.2.2,2))
   | []=>some (.error (0,2))
theorem fW (f:Nat) (ts:List Tk):pP (f+1) .sum ts=match pP f .prod ts with
 |some (.ok (e,r))=>pP f (.more false e) r
 |x=>x:=rfl
theorem eX (f:Nat) (ts:List Tk):pP (f+1) .prod ts=match pP f .un ts with
 |some (.ok (e,r))=>pP f (.more true e) r
 |x=>x:=rfl
theorem cU (f:Nat) (two:Bool) (e:Ex) (ts:List Tk):pP (f+1) (.more two e) ts=match fy two ts with
 |some (k,r)=>match pP f (eC two) r with
  |some (.ok (e2,r2))=>pP f (.more two (.bin k e e2)) r2
  |x=>x
 |none=>some (.ok (e,ts)):=rfl
theorem gA (f:Nat) (ts:List Tk):pP (f+1) .un ts=match bh 45 ts with
 |some r=>match pP f .un r with
  |some (.ok (e,r2))=>some (.ok (.neg e,r2))
  |x=>x
 |none=>pP f .prim ts:=rfl
theorem dG (f:Nat) (ts:List Tk):pP (f+1) .prim ts=match bh 40 ts with
 |some r=>match pP f .sum r with
  |some (.ok (e,r2))=>match bh 41 r2 with
   |some r3=>some (.ok (e,r3))
   |none=>some (.error (C0 r2,2))
  |x=>x
 |none=>match ts with
  |t::r=>if t.1=2 then some (el t r)else if t.1=1 then some (.ok (.nam t.2.1,r))else some (.error (t.2.2,2))
  | []=>some (.error (0,2)):=rfl
theorem qM {two:Bool} {ts r:List Tk} {k:B4} (h:fy two ts=some (k,r)):r.length<ts.length:=by
 cases ts with
 |nil=>cases h
 |cons t r'=>
  simp only[fy]at h
  split at h
  ·split at h
   ·cases h;simp
   ·cases h
  ·cases h
theorem fG {c:UInt8} {ts r:List Tk} (h:bh c ts=some r):r.length<ts.length:=by
 cases ts with
 |nil=>cases h
 |cons t r'=>
  simp only[bh]at h
  split at h
  ·cases h;simp
  ·cases h
theorem wH {t:Tk} {r r2:List Tk} {e:Ex} (h:el t r= .ok (e,r2)):r2.length≤r.length:=by
 unfold el at h
 split at h
 ·cases h
 ·split at h
  ·cases h
  ·split at h
   ·split at h
    ·cases h;simp
    ·cases h;exact Nat.le_refl _
   ·cases h;exact Nat.le_refl _
theorem gr:∀(f:Nat) (m:Md) (ts:List Tk) (x:gR),pP f m ts=some x→pP (f+1) m ts=some x
 |0,_,_,_,h=>by cases h
 |f+1, .sum,ts,x,h=>by
  rw[fW]at h ⊢;cases h1:pP f .prod ts with
  |none=>rw[h1]at h;cases h
  |some y=>
   rw[h1]at h;rw[gr f _ _ _ h1];cases y with
   |error e=>exact h
   |ok y=>exact gr f _ _ _ h
 |f+1, .prod,ts,x,h=>by
  rw[eX]at h ⊢;cases h1:pP f .un ts with
  |none=>rw[h1]at h;cases h
  |some y=>
   rw[h1]at h;rw[gr f _ _ _ h1];cases y with
   |error e=>exact h
   |ok y=>exact gr f _ _ _ h
 |f+1, .more two e,ts,x,h=>by
  rw[cU]at h ⊢;cases h0:fy two ts with
  |none=>rw[h0]at h;exact h
  |some p=>
   obtain⟨k,r⟩:=p;rw[h0]at h;dsimp only at h ⊢;cases h1:pP f (eC two) r with
   |none=>rw[h1]at h;cases h
   |some y=>
    rw[h1]at h;rw[gr f _ _ _ h1];cases y with
    |error e=>exact h
    |ok y=>exact gr f _ _ _ h
 |f+1, .un,ts,x,h=>by
  rw[gA]at h ⊢;cases h0:bh 45 ts with
  |none=>rw[h0]at h;exact gr f _ _ _ h
  |some r=>
   rw[h0]at h;dsimp only at h ⊢;cases h1:pP f .un r with
   |none=>rw[h1]at h;cases h
   |some y=>
    rw[h1]at h;rw[gr f _ _ _ h1];exact h
 |f+1, .prim,ts,x,h=>by
  rw[dG]at h ⊢;cases h0:bh 40 ts with
  |none=>rw[h0]at h;exact h
  |some r=>
   rw[h0]at h;dsimp only at h ⊢;cases h1:pP f .sum r with
   |none=>rw[h1]at h;cases h
   |some y=>
    rw[h1]at h;rw[gr f _ _ _ h1];exact h
theorem kz {f f':Nat} (hf:f≤f') {m:Md} {ts:List Tk} {x:gR} (h:pP f m ts=some x):pP f' m ts=some x:=by
 induction hf with
 |refl=>exact h
 |step _ ih=>exact gr _ _ _ _ ih
theorem gb:∀(f:Nat) (m:Md) (ts:List Tk) (e:Ex) (r:List Tk),pP f m ts=some (.ok (e,r))→r.length≤ts.length∧((∀two x,m≠ .more two x)→r.length<ts.length)
 |0,_,_,_,_,h=>by cases h
 |f+1, .sum,ts,e,r,h=>by
  rw[fW]at h
  split at h
  ·rename_i e1 r1 h1
   have a:=(gb f _ _ _ _ h1).2 (fun _ _ h=>by cases h);have b:=(gb f _ _ _ _ h).1;exact⟨by omega,fun _=>by omega⟩
  ·rename_i hn;exact absurd h (hn e r)
 |f+1, .prod,ts,e,r,h=>by
  rw[eX]at h
  split at h
  ·rename_i e1 r1 h1
   have a:=(gb f _ _ _ _ h1).2 (fun _ _ h=>by cases h);have b:=(gb f _ _ _ _ h).1;exact⟨by omega,fun _=>by omega⟩
  ·rename_i hn;exact absurd h (hn e r)
 |f+1, .more two e0,ts,e,r,h=>by
  rw[cU]at h;refine⟨?_,fun hm=>absurd rfl (hm two e0)⟩
  split at h
  ·rename_i k r1 h0
   have hl:=qM h0
   split at h
   ·rename_i e1 r2 h1
    have a:=(gb f _ _ _ _ h1).1;have b:=(gb f _ _ _ _ h).1;omega
   ·rename_i hn;exact absurd h (hn e r)
  ·cases h;exact Nat.le_refl _
 |f+1, .un,ts,e,r,h=>by
  rw[gA]at h
  split at h
  ·rename_i r1 h0
   have hl:=fG h0
   split at h
   ·rename_i e1 r2 h1
    have a:=(gb f _ _ _ _ h1).1;cases h;exact⟨by omega,fun _=>by omega⟩
   ·rename_i hn;exact absurd h (hn e r)
  ·exact⟨(gb f _ _ _ _ h).1,fun _=>(gb f _ _ _ _ h).2 (fun _ _ h=>by cases h)⟩
 |f+1, .prim,ts,e,r,h=>by
  rw[dG]at h
  split at h
  ·rename_i r1 h0
   have hl:=fG h0
   split at h
   ·rename_i e1 r2 h1
    have a:=(gb f _ _ _ _ h1).1
    split at h
    ·rename_i r3 h2
     have b:=fG h2;cases h;exact⟨by omega,fun _=>by omega⟩
    ·cases h
   ·rename_i hn;exact absurd h (hn e r)
  ·split at h
   ·rename_i t r1 _
    split at h
    ·injection h with h
     have:=wH h;exact⟨by simp;omega,fun _=>by simp;omega⟩
    ·split at h
     ·cases h;exact⟨by simp,fun _=>by simp⟩
     ·cases h
   ·cases h
def rk:Md→Nat
 | .sum=>4
 | .prod=>3
 | .un=>2
 | .prim=>1
 | .more _ _=>0
theorem Ib:∀(n:Nat) (m:Md) (ts:List Tk),5*ts.length+rk m+1≤n→ ∃x,pP n m ts=some x:=by
 intro n
 induction n using Nat.strongRecOn with
 |_ n ih=>
  intro m ts hn;cases n with
  |zero=>omega
  |succ f=>
   cases m with
   |sum=>
    obtain⟨y,hy⟩:=ih f (by omega) .prod ts (by simp only[rk]at hn ⊢;omega);rw[fW,hy];cases y with
    |error e=>exact⟨_,rfl⟩
    |ok y=>
     obtain⟨e,r⟩:=y;have:=(gb f _ _ _ _ hy).1;exact ih f (by omega) (.more false e) r (by simp only[rk]at hn ⊢;omega)
   |prod=>
    obtain⟨y,hy⟩:=ih f (by omega) .un ts (by simp only[rk]at hn ⊢;omega);rw[eX,hy];cases y with
    |error e=>exact⟨_,rfl⟩
    |ok y=>
     obtain⟨e,r⟩:=y;have:=(gb f _ _ _ _ hy).1;exact ih f (by omega) (.more true e) r (by simp only[rk]at hn ⊢;omega)
   |un=>
    rw[gA];cases h0:bh 45 ts with
    |none=>exact ih f (by omega) .prim ts (by simp only[rk]at hn ⊢;omega)
    |some r=>
     have hl:=fG h0;obtain⟨y,hy⟩:=ih f (by omega) .un r (by simp only[rk]at hn ⊢;omega);dsimp only;rw[hy];cases y with
     |error e=>exact⟨_,rfl⟩
     |ok y=>exact⟨_,rfl⟩
   |prim=>
    rw[dG];cases h0:bh 40 ts with
    |none=>
     cases ts with
     |nil=>exact⟨_,rfl⟩
     |cons t r=>
      dsimp only
      split
      ·exact⟨_,rfl⟩
      ·split
       ·exact⟨_,rfl⟩
       ·exact⟨_,rfl⟩
    |some r=>
     have hl:=fG h0;obtain⟨y,hy⟩:=ih f (by omega) .sum r (by simp only[rk]at hn ⊢;omega);dsimp only;rw[hy];cases y with
     |error e=>exact⟨_,rfl⟩
     |ok y=>
      obtain⟨e,r2⟩:=y;dsimp only
      split
      ·exact⟨_,rfl⟩
      ·exact⟨_,rfl⟩
   |more two e0=>
    rw[cU];cases h0:fy two ts with
    |none=>exact⟨_,rfl⟩
    |some p=>
     obtain⟨k,r⟩:=p;have hl:=qM h0;dsimp only;obtain⟨y,hy⟩:=ih f (by omega) (eC two) r (by cases two<;>(simp only[eC,rk]at hn ⊢;omega));rw[hy];cases y with
     |error e=>exact⟨_,rfl⟩
     |ok y=>
      obtain⟨e,r2⟩:=y;have h2:r2.length<r.length:=(gb f _ _ _ _ hy).2 (by cases two<;>(intro _ _ h;cases h))
      exact ih f (by omega) (.more two (.bin k e0 e)) r2 (by simp only[rk]at hn ⊢;omega)
section
variable {P:Program} {T:TypeId→Option Ty} {n:Nat} {ops:Array Oper} {id:Nat} {draw:Bool} {K:AS→Prop} {s:AS} {k:Nat} {o:Oper} {os:List Oper} {fps:List FP}
theorem tc (hT:∀t d,T t=some d→bG P t d) {t:TypeId} {ty:Ty} {x y:Operand} {et q m i:Nat} {ik:IntKind} {cs:List AV} (hcs:cs.length≤m*q) (hi:i≤m) (h1:gd ops s o=some true) (h2:o.op= .slice t x (some y) none none) (h5:T t=some ty) (h6:ty.elem=some (et,q)) (h7:s.ev x= .d (.leaf (.sl m cs))) (h8:s.ev y= .d (.leaf (.val (.int ik (i:Nat)))))
 (h3:bd n o.dst=true) (h4:gN draw ops (aM ops o ⟨.d (.leaf (.sl (m-i) (cs.drop (i*q)))),none⟩ []) k fps=true) (h:aw P T n ops id draw K (k+1) os (s.eff o.dst ⟨.d (.leaf (.sl (m-i) (cs.drop (i*q)))),none⟩) (aM ops o ⟨.d (.leaf (.sl (m-i) (cs.drop (i*q)))),none⟩ []::fps)):aw P T n ops id draw K k (o::os) s fps:=by
 refine .run h1 (.gen fun s2 ht _=>?_) h3 h4 h;have hx:=(aL ht (x:=x) (by simp[h2,Op.operands])).trans h7;have hy:=(aL ht (x:=y) (by simp[h2,Op.operands])).trans h8;obtain⟨u,hu,_,hel,_⟩:=(hT _ _ h5).und;obtain⟨rfl,hks⟩:=hel et q h6;refine aj fun n S0 w0 g a w hM=>?_
 have hm:=hM.ev x;rw[hx]at hm;have hm:AV.M (Own S0 g s2) w (.sl m cs) (a.eval x):=hm;have hiv:=bw hM hy
 have key:∃v,(Instr.sliceAt t (a.eval x) (some (.int ik (i:Nat))) none none).run P w= .ok v w∧AV.M (Own S0 g s2) w (.sl (m-i) (cs.drop (i*q))) v:=by
  generalize a.eval x=v at hm;have hib:(0:Int)≤(i:Int)∧(i:Int)≤(m:Nat):=⟨by omega,by omega⟩
  have run:∀(A:Option Addr) (c:Nat),(Instr.sliceAt t (.slice A m c) (some (.int ik (i:Nat))) none none).run P w= .ok (.slice (if c=i then A else A.map (·.add (i*q))) (m-i) (c-i)) w:=fun A c=>by
   unfold Instr.sliceAt
   simp only[Sem.run_bind,run_underlying hu w,Result.andThen_ok]
   unfold Instr.slice
   simp only[Sem.run_bind,run_underlying hu w,Result.andThen_ok,Instr.sliceBounds,Instr.sliceBound,Sem.run_pure,asIntOf]
   rw[if_pos hib]
   simp only[Sem.run_pure,Result.andThen_ok,Int.toNat_natCast]
   rw[cg hks w];rfl
  cases hm with
  |emp e1 e2 e3=>
   rename_i A c
   refine⟨_,run A c,?_⟩;rw[List.drop_nil];refine .emp (by omega) (by omega) (fun hA=>?_)
   split at hA
   ·rename_i hci;omega
   ·have:A=none:=by cases A<;>simp_all
    have:=e3 this;omega
  |sl f e1 e2 e3 e4 e5 e6=>
   rename_i b off c
   refine⟨_,run _ c,?_⟩
   by_cases hci:c=i
   ·rw[if_pos hci]
    have hd:cs.drop (i*q)=[]:=List.drop_eq_nil_of_le (by rw[show i=m by omega];exact hcs);rw[hd];exact .emp (by omega) (by omega) (fun h=>by cases h)
   ·rw[if_neg hci]
    show AV.M _ _ _ (.slice (some ((⟨b,off,none⟩:Addr).add (i*q))) (m-i) (c-i));rw[dP];refine .sl (fun j=>f (i*q+j)) (by omega) (by omega) e3 e4 (fun j x hj=>?_) (fun j x hj=>?_)
    ·rw[List.getElem?_drop]at hj
     rw[Nat.add_assoc];exact e5 _ _ hj
    ·rw[List.getElem?_drop]at hj
     exact e6 _ _ hj
 obtain⟨v,hr,hv⟩:=key;refine⟨v,w,?_,Below.refl _ _,hv⟩;unfold execOp;rw[h2]
 simp only[hiv,Option.map_some,Option.map_none,Sem.run_bind,hr,Result.andThen_ok]
 rfl
theorem oO {w:World} {t kt et:TypeId} {r:Nat} {es:Array MapEntry} {clk:Nat} {key:ByteArray} {v:Value} (hm:P.underlying t=some (.map kt et)) (hk:P.underlying kt=some .string) (hb:w.heap[r]? =some (.map es clk)) (hf:Instr.findNow .string (.string key) es.toList 0=some none):
 (Instr.mapUpdate t (.map (some r)) (.string key) v).run P w= .ok () { w with heap:=w.heap.setIfInBounds r (.map (es.push { key:= .string key,val:=v,born:=clk }) (clk+1)) }:=by
 have hc:(Instr.checkKey false 10000 kt (.string key)).run P w= .ok () w:=MapKept.run_checkKey hk (by simp[MapKept.IsKey]) false 9999
 simp[Instr.mapUpdate,run_underlying hm,MapKept.run_getObj_map hb,hc,MapKept.run_findKey hk hf,MapKept.run_setObj_map _ hb,Result.andThen]
theorem ua {o1 o2 o3:Oper} {d:Nat} {t kt et:TypeId} {k1 k2:ByteArray} {v1 v2:Value} (hm:P.underlying t=some (.map kt et)) (hk:P.underlying kt=some .string) (h0:draw=false) (h1:o1.op= .makeMap t none) (h2:o2.op= .insert t (.tmp d) (.const (.string k1)) (.const v1)) (h3:o3.op= .insert t (.tmp d) (.const (.string k2)) (.const v2)) (hd:o1.dst=some d) (hg:o1.guard=none∧o2.guard=none∧o3.guard=none) (hd2:o2.dst=none) (hd3:o3.dst=none) (hdn:bd n o1.dst=true) (hne:(k2 == k1)=false)
 (h:aw P T n ops id draw K (k+3) os ⟨(d, .mp [(.string k1,v1),(.string k2,v2)])::s.t,s.b⟩ fps):aw P T n ops id draw K k (o1::o2::o3::os) s fps:=by
 refine .snd3 h0 hg (fun S0 w0 g a w K' Q hM hK=>?_) h;have hdl:d<n:=fm hdn d hd
 generalize hr:w.heap.size=r
 have hev:((a.put (some d) (.map (some r))).eval (.tmp d))= .map (some r):=by
  have:d<a.tmps.size:=by rw[hM.sz];exact hdl
  simp[Act.eval,Act.put,this]
 have b1:(w.alloc (.map #[] 0)).heap[r]? =some (.map #[] 0):=by rw[← hr];exact heap_alloc_new w _
 have r1:=oO (P:=P) (w:=w.alloc (.map #[] 0)) (key:=k1) (v:=v1) hm hk b1 rfl;generalize he1:({ key:= .string k1,val:=v1,born:=0 }:MapEntry)=e1 at r1;have hk1:e1.key= .string k1:=by rw[← he1]
 have hv1:e1.val=v1:=by rw[← he1]
 generalize hw2:({ (w.alloc (.map #[] 0))with heap:=(w.alloc (.map #[] 0)).heap.setIfInBounds r (.map (#[].push e1) (0+1)) }:World)=w2 at r1
 have b2:w2.heap[r]? =some (.map #[e1] 1):=by
  rw[← hw2];have:r<(w.alloc (.map #[] 0)).heap.size:=(Array.getElem?_eq_some_iff.1 b1).1
  show(Array.setIfInBounds _ r _)[r]? =_;rw[Array.getElem?_setIfInBounds,if_pos rfl,if_pos this];rfl
 have r2:=oO (P:=P) (w:=w2) (key:=k2) (v:=v2) hm hk b2 (by simp[Instr.findNow,Instr.sameNow,hk1,hne]);generalize he2:({ key:= .string k2,val:=v2,born:=1 }:MapEntry)=e2 at r2;have hk2:e2.key= .string k2:=by rw[← he2]
 have hv2:e2.val=v2:=by rw[← he2]
 have hfin:({ w2 with heap:=w2.heap.setIfInBounds r (.map (#[e1].push e2) (1+1)) }:World)=w.alloc (.map #[e1,e2] 2):=by
  have hA:∀o:Obj,w.alloc o={ w with heap:=w.heap.push o }:=fun _=>rfl
  rw[← hw2,← hr,hA,hA];show({ w with heap:=Array.setIfInBounds (Array.setIfInBounds (w.heap.push _) w.heap.size _) w.heap.size _ }:World)={ w with heap:=w.heap.push _ }
  congr 1
  apply Array.ext_getElem?
  intro i
  simp only[Array.getElem?_setIfInBounds,Array.getElem?_push,Array.size_setIfInBounds,Array.size_push]
  by_cases hi:i=w.heap.size
  ·subst hi;simp
  ·have:¬w.heap.size=i:=fun e=>hi e.symm
   simp[this,hi]
 have q1:(execOp a.eval o1).run P w= .ok (.value (.map (some r))) (w.alloc (.map #[] 0)):=by
  unfold execOp;rw[h1,← hr];rfl
 generalize ha1:a.put (some d) (.map (some r))=a1 at hev;have hev:a1.tmps.getD d Go.undef= .map (some r):=hev
 have q2:(execOp a1.eval o2).run P (w.alloc (.map #[] 0))= .ok .skip w2:=by
  unfold execOp;rw[h2]
  simp only[Act.eval,hev,Sem.run_bind,r1,Result.andThen_ok,Sem.run_pure]
 have q3:(execOp a1.eval o3).run P w2= .ok .skip (w.alloc (.map #[e1,e2] 2)):=by
  unfold execOp;rw[h3]
  simp only[Act.eval,hev,Sem.run_bind,r2,hfin,Result.andThen_ok,Sem.run_pure]
 have fin:MG n S0 w0 g ⟨(d, .mp [(.string k1,v1),(.string k2,v2)])::s.t,s.b⟩ a1 (w.alloc (.map #[e1,e2] 2)):=by
  rw[← ha1];refine hM.put hdl ((Below.refl _ _).alloc (Nat.le_refl _) _) ⟨r,#[e1,e2],2,rfl,by rw[← hr];exact heap_alloc_new w _,fun hS=>?_,by simp[hk1,hv1,hk2,hv2]⟩;have:=hM.own_lt hS;omega
 unfold Oper.wp;rw[q1,Oper.upon_value,hd,ha1];show o2.upon P a1 _ Q ((execOp a1.eval o2).run P (w.alloc (.map #[] 0)));rw[q2,Oper.upon_skip,hd2];show o3.upon P a1 _ Q ((execOp a1.eval o3).run P w2);rw[q3,Oper.upon_skip,hd3];exact hK g _ _ fin
def I1 (k:ByteArray):List (Value × Value)→Option Value
 | []=>none
 |(.string a,v)::r=>match k == a with
  |true=>some v
  |false=>I1 k r
 |_::_=>none
theorem oR {k:ByteArray} {v:Value}:∀(l:List MapEntry) (i:Nat),I1 k (l.map fun e=>(e.key,e.val))=some v→ ∃j,Instr.findNow .string (.string k) l i=some (some (j,v))
 | [],_,h=>by cases h
 |e::r,i,h=>by
  simp only[List.map_cons]at h
  cases hk:e.key<;>rw[hk]at h<;>try(cases h)
  rename_i a
  simp only[I1]at h
  simp only[Instr.findNow,hk,Instr.sameNow]
  cases hb:k == a
  ·rw[hb]at h
   exact oR r (i+1) h
  ·rw[hb]at h
   cases h;exact⟨i,rfl⟩
theorem vZ {t kt et:TypeId} {x y:Operand} {es:List (Value × Value)} {key:ByteArray} {v:Value} (hm:P.underlying t=some (.map kt et)) (hk:P.underlying kt=some .string) (hl:I1 key es=some v) (hp:v.oneCell'=true) (h1:gd ops s o=some true) (h2:o.op= .lookup t x y false) (h7:s.ev x= .mp es) (h8:s.ev y= .d (.leaf (.val (.string key))))
 (h3:bd n o.dst=true) (h4:gN draw ops (aM ops o ⟨.d (.leaf (.val v)),none⟩ []) k fps=true) (h:aw P T n ops id draw K (k+1) os (s.eff o.dst ⟨.d (.leaf (.val v)),none⟩) (aM ops o ⟨.d (.leaf (.val v)),none⟩ []::fps)):aw P T n ops id draw K k (o::os) s fps:=by
 refine .run h1 (.gen fun s2 ht _=>?_) h3 h4 h;have hx:=(aL ht (x:=x) (by simp[h2,Op.operands])).trans h7;have hy:=(aL ht (x:=y) (by simp[h2,Op.operands])).trans h8;refine aj fun n S0 w0 g a w hM=>⟨v,w,?_,Below.refl _ _,AV.M.val hp⟩
 have hmx:=hM.ev x;rw[hx]at hmx;obtain⟨r,ents,clk,e1,e2,_,e4⟩:=hmx;obtain⟨j,hj⟩:=oR ents.toList 0 (by rw[e4];exact hl);have hc:(Instr.checkKey ents.isEmpty 10000 kt (.string key)).run P w= .ok () w:=MapKept.run_checkKey hk (by simp[MapKept.IsKey]) _ 9999;unfold execOp;rw[h2]
 simp[e1,bw hM hy,Instr.lookup,run_underlying hm,MapKept.run_getObj_map e2,hc,MapKept.run_findKey hk hj,Result.andThen]
def J9 (s:AS):Bool:=rZ (s.tv DK)
theorem AC {f:Operand} {fid:FuncId} {args:Array Operand} {ts:Array TypeId} {cs:List CV} (h0:draw=false) (h1:gd ops s o=some true) (ho:o.op= .defer ⟨.value f,args,ts⟩) (hdst:o.dst=none) (hf:s.ev f= .d (.leaf (.val (.func (.func fid) #[] #[])))) (ha:mo s args.toList=some cs) (hd:J9 s=true)
 (h:aw P T n ops id draw K (k+1) os ⟨(DK, .dfr fid cs)::s.t,s.b⟩ (aM ops o ⟨.junk,none⟩ []::fps)):aw P T n ops id draw K k (o::os) s fps:=by
 refine .snd h0 h1 (fun S0 w0 g a w K' Q hM hK=>?_) h;have hv:=bw hM hf;have hc:=mw hM ha;have e:(List.map a.eval args.toList).toArray=args.map a.eval:=Array.ext' (by simp)
 have hr:(execOp a.eval o).run P w= .ok (.defer ⟨.fn (.func fid) #[],(args.toList.map a.eval).toArray⟩) w:=by
  unfold execOp;rw[ho]
  simp only[resolve,hv,Deferred.ofValue,Sem.run_bind,Sem.run_pure,Result.andThen_ok,e,Array.empty_append]
 unfold Oper.wp;rw[hr,Oper.upon_defer,hdst];refine hK g _ w ⟨fun i=>?_,fun i ci hi=>?_,hM.inj,hM.grow,?_,hM.sz,hM.cl,hM.tg,fun k cs hk=>(hM.gl k cs hk).sameB rfl,hM.gp,hM.nk⟩
 ·by_cases hi:DK=i
  ·subst hi
   have e0:(AS.mk ((DK, .dfr fid cs)::s.t) s.b).tv DK= .dfr fid cs:=by simp[AS.tv,am]
   rw[e0]
   trivial
  ·have e0:(AS.mk ((DK, .dfr fid cs)::s.t) s.b).tv i=s.tv i:=by simp[AS.tv,aD _ _ hi]
   rw[e0];exact(hM.tm i).sameB rfl
 ·obtain⟨h2,h3⟩:=hM.bm i ci hi
  exact⟨h2,h3.sameB rfl⟩
 ·have e0:(AS.mk ((DK, .dfr fid cs)::s.t) s.b).tv DK= .dfr fid cs:=by simp[AS.tv,am]
  rw[e0];refine⟨args.toList.map a.eval,?_,o5.sameB (s:=s) (s':=⟨(DK, .dfr fid cs)::s.t,s.b⟩) rfl hc⟩;have h2:=(xT.no hd).1 hM.df;show _::a.defers=_;rw[h2]
end
section
variable {P:Program} {T:TypeId→Option Ty}
structure Kh (P:Program) (s:AS) (b':BL) (fid:FuncId) (cs:List CV) (b1:BL) (r1:RT) (b2:BL):Prop where
 dk:s.tv DK= .dfr fid cs
 one:p8 cs=true
 body:ic P fid (cs.map JL) b1 r1 b2
 kn:(Cv (aF b1) ((cs.map JL).flatMap fh) && tM (aF b1) (aF b1))=true
 bx:rR s (aF b1)
 cl:eB (b1.map (·.1)) s.b=true
 new:nB s b1 b2=true
 fin:rR ⟨s.t,aF b2++eI b2 b1++s.b⟩ (aF b')
def Jb (P:Program) (T:TypeId→Option Ty) (s:AS) (rs:List ResultVar) (b':BL):Prop:=Ga T s rs (.v (.tup [])) b'∨ ∃fid cs b1 r1 b2,Kh P s b' fid cs b1 r1 b2
theorem CallsD.mono {f:FuncId} {args:Array Value} {u:FrameMode} {w:World} {R R':Ending→FrameMode→World→Prop} (h:CallsD P f args u w R) (hR:∀e u' w',R e u' w'→R' e u' w'):CallsD P f args u w R':=fun c cs hu=>by
 obtain⟨e,u',w',fr,h1,h2⟩:=h c cs hu;exact⟨e,u',w',fr,hR _ _ _ h1,h2⟩
theorem db (hT:∀t d,T t=some d→bG P t d) (hmix:P.follows .mixedOrders=true) {f:FuncId} {fn:Func} {c:Code} {ts:List TV} {b b':BL} (hf:P.funcs[f]? =some fn) (hb:fn.body=some c) (hn:(fn.name == "runtime.NumGoroutine")=false) (hsz:(Nat.ble ts.length fn.ntmps && Nat.ble fn.ntmps DK)=true) (hrs:fn.results= #[])
 (hrv:pH b' b=true) (hkn:wX (.v (.tup [])) b'=true) (hlen:fk b b')
 (h:fU P T fn.ntmps c (fun e s=>match e with| .exit _=>False|_=>Jb P T s fn.results.toList b') ⟨rE 0 ts,aF b⟩):az P f ts b (.v (.tup [])) b':=by
 unfold wX at hkn;rw[Bool.and_eq_true]at hkn hsz;obtain⟨hwfc,_⟩:=hkn;obtain⟨hsz,hnk⟩:=hsz;have hsz:=Nat.le_of_ble_eq_true hsz;have hnk:=Nat.le_of_ble_eq_true hnk
 have hres:∀(t:Array Value) (w:World),(results fn t).run P w= .ok (.tuple #[]) w:=fun t w=>by
  unfold results;rw[hrs]
  simp
 refine⟨fun args w=>?_,fun S g w vs hS hv=>?_⟩
 ·have hn':¬fn.name= "runtime.NumGoroutine" :=by simpa using hn
  simp[callFunc,Sem.run_bind,hf,hn',hb]
 ·refine calls_of_wp_defers hf hb (wp_mono (ob (S0:=S) (w0:=oS g w b) hT hmix c _ _ _ w h (xe hS hv hsz hnk)) fun e a w1 hq=>?_)
  have nil:∀g1 w2,TV.M (Own S g1 (sB b')) g1 (sB b') w2 (RT.v (.tup [])).tv (.tuple #[]):=fun g1 w2=>⟨[],rfl,rfl,fun i x u h1 _=>by simp at h1⟩
  have fin:∀s,Jb P T s fn.results.toList b'→M fn.ntmps S (oS g w b) s a w1→Leaves P fn a.tmps (uA S g b (.v (.tup [])) b' w) a.defers .returning w1:=by
   rintro s (⟨⟨l,h1,_⟩,hwk⟩| ⟨fid,cs,b1,r1,b2,hD⟩) ⟨g1,hm⟩
   ·rw[(xT.no (jg h1)).1 hm.df]
    exact⟨_,hres _ _,yF hrv hwfc hlen hwk hm (nil _ _)⟩
   ·have hdf:=hm.df
    rw[hD.dk]at hdf;obtain⟨us,e1,hcv⟩:=hdf;rw[e1];have hkw:=hD.kn;rw[Bool.and_eq_true]at hkw;obtain⟨S1,hpre,hO,hpost⟩:=hm.callT (b:=b1) (b':=b2) hD.bx hkw.2 (yO hD.cl) (fun j cs hj hn=>vd hD.new (dy.1 hj) hn);have inb:∀j cs,(sB b1).bx j=some cs→s.bx j=some cs:=fun j cs hj=>hD.bx.at (dy.1 hj)
    obtain⟨fn1,c1,hf1,hb1,hw1⟩:=hD.body.body;refine⟨(by simp), .func fid,#[],fid,us.toArray,rfl,?_,?_⟩
    ·have:=hD.body.enter us.toArray w1
     simp only[invoke]
     simpa using this
    ·refine CallsD.mono (callsD_of_wp hf1 hb1 (hw1 S1 g1 w1 us hpre (by rw[hO];exact tO inb (E2 hkw.1) (qY hD.one hcv)))) fun e u' w2 hq=>?_
     obtain⟨rfl,v,g2,rfl,k2,k3,k4,k5,k6⟩:=hq;obtain⟨g3,hm3⟩:=hpost r1 v g2 w2 k2 k3 k4 k5 k6 none (fun d h=>by cases h);exact⟨_,hres _ _,yF hrv hwfc hlen hD.fin hm3 (nil _ _)⟩
  cases e with
  |normal=>obtain⟨s,h1,h2⟩:=hq;exact fin s h1 h2
  |ret=>obtain⟨s,h1,h2⟩:=hq;exact fin s h1 h2
  |exit i=>obtain⟨s,h1,h2⟩:=hq;exact h1.elim
  |goto l=>exact hq.elim
  |panic c=>exact hq.elim
  |outgrown=>exact hq.elim
end
theorem o7 (s:List UInt8) (c:UInt8):aa Tryz.prog 151 [dL s,dL [c]] (.one (dB (decide (0≤Lib.indexByte s c)))):=
 ⟨ay func151 rfl rfl,fun S w vs hS hv=>by
  match vs,hv with
  | [v,u],⟨h1,h2,_⟩=>
   obtain rfl:=bP h1;obtain rfl:=bP h2;refine(Tryz.strings_Contains_one (Bs s) c w).mono ?_;rintro e w' ⟨rfl,rfl⟩;exact⟨_,rfl,AV.M.val rfl,Below.refl _ _⟩⟩
def gv (ts:List Tk) (a e:Int):List AV:=[.sl ts.length (co ts), .val (.int .i64 a), .val (.int .i64 e)]
theorem cu {ts ts':List Tk} {a e a' e':Int}:fk [(900,gv ts a e)] [(900,gv ts' a' e')]:=fk.one (Nat.le_refl 3)
theorem bA (t:Tk) (r:List Tk) (a e:Int):az Tryz.prog 40 [.box 900 0] [(900,gv (t::r) a e)] (.v (.one (.agg (iB t)))) [(900,gv (t::r) a e)]:=by
 refine ai ab bn func40 rfl rfl rfl rfl rfl (cu) ?_;refine kR ?_;refine kI ?_
 refine kO4 ?_
 refine bl (i:=0) (cs':=iB t) (Nat.zero_lt_succ _) (fun j a h=>by
  rw[Nat.zero_mul,Nat.zero_add];show(iB t++co r)[j]? =some a;rw[List.getElem?_append_left (List.getElem?_eq_some_iff.1 h).1];exact h) (Nat.zero_lt_succ 2) rfl rfl rfl rfl rfl rfl rfl rfl ?_
 refine kW ?_;exact⟨⟨_,rfl,rfl⟩,⟨rfl,trivial⟩⟩
theorem ft (t:Tk) (r:List Tk) (a e:Int):az Tryz.prog 110 [.box 900 0] [(900,gv (t::r) a e)] (.v (.one (.agg (iB t)))) [(900,gv r a e)]:=by
 refine ai ab bn func110 rfl rfl rfl rfl rfl (cu) ?_;refine kR ?_;refine kI ?_;refine kO ?_;refine kD (bA t r a e) ?_;refine kG ?_
 refine kO5 ?_
 refine tc (m:=(t::r).length) (i:=1) (q:=3) ab (by rw[ig];exact Nat.le_refl _) (by simp) rfl rfl rfl rfl rfl rfl rfl rfl ?_;refine kW ?_;exact⟨⟨_,rfl,rfl⟩,⟨rfl,trivial⟩⟩
def ym (ip:List UInt8) (t:Tk):Bool:=match t.2.1 with
 | [c]=>decide (0≤Lib.indexByte ip c)
 |_=>false
theorem qr (ip:List UInt8) (t:Tk) (r:List Tk) (a e:Int) (hk:t.1=4→ ∃c,t.2.1=[c]):az Tryz.prog 109 [.box 900 0, .d (dL ip)] [(900,gv (t::r) a e)] (.v (.one (dB (decide (e=0) && (decide (t.1=4) && ym ip t))))) [(900,gv (t::r) a e)]:=by
 obtain⟨k,x,p⟩:=t;dsimp only at hk ⊢
 by_cases he:e=0
 ·by_cases h4:k=4
  ·obtain⟨c,rfl⟩:=hk h4
   have hc:=o7 ip c;rw[decide_eq_true he,decide_eq_true h4,Bool.true_and,Bool.true_and,show ym ip (k,[c],p)=decide (0≤Lib.indexByte ip c) from rfl];generalize decide (0≤Lib.indexByte ip c)=b at *;refine ai ab bn func109 rfl rfl rfl rfl rfl (cu) ?_;refine kR ?_;refine kI ?_;refine kO ?_;refine kD (bA (k,[c],p) r a e) ?_;refine kG ?_
   refine kO4 ?_
   refine kT ?_
   refine kO3 ?_
   refine kT ?_
   refine kO5 ?_
   refine kQ (hc) ?_;exact⟨⟨_,rfl,rfl⟩,⟨rfl,trivial⟩⟩
  ·rw[decide_eq_true he,decide_eq_false h4,Bool.true_and,Bool.false_and]
   refine ai ab bn func109 rfl rfl rfl rfl rfl (cu) ?_;refine kR ?_;refine kI ?_;refine kO ?_;refine kD (bA (k,x,p) r a e) ?_;refine kG ?_
   refine kO4 ?_
   refine kT ?_
   refine kO3 ?_
   refine kY ?_;exact⟨⟨_,rfl,rfl⟩,⟨rfl,trivial⟩⟩
 ·rw[decide_eq_false he,Bool.false_and]
  refine ai ab bn func109 rfl rfl rfl rfl rfl (cu) ?_;refine kR ?_;refine kI ?_;refine kO ?_;refine kD (bA (k,x,p) r a e) ?_;refine kG ?_
  refine kO4 ?_
  refine kB false ?_ ?_
  ·exact decide_eq_false he
  refine kW ?_;exact⟨⟨_,rfl,rfl⟩,⟨rfl,trivial⟩⟩
theorem ji (t:Tk) (r:List Tk) (a c:Int):az Tryz.prog 41 [.box 900 0, .d (dN .i64 c)] [(900,gv (t::r) a 0)] (.v (.tup [])) [(900,gv (t::r) t.2.2 c)]:=by
 refine ai ab bn func41 rfl rfl rfl rfl rfl (cu) ?_;refine kW ?_;refine kZ (bA t r a 0) ?_;exact⟨⟨_,rfl,rfl⟩,⟨rfl,trivial⟩⟩
theorem pZ (t:Tk) (r:List Tk) (a e c:Int) (he:e≠0):az Tryz.prog 41 [.box 900 0, .d (dN .i64 c)] [(900,gv (t::r) a e)] (.v (.tup [])) [(900,gv (t::r) a e)]:=by
 refine ai ab bn func41 rfl rfl rfl rfl rfl (cu) ?_;refine kI ?_
 refine kO4 ?_
 refine kB false ?_ ?_
 ·exact decide_eq_false he
 refine kW ?_;exact⟨⟨_,rfl,rfl⟩,⟨rfl,trivial⟩⟩
def cR:List Tk→Prop
 | []=>False
 | [t]=>t.1=0
 |t::u::r=>(t.1≠0∧(t.1=4→ ∃c,t.2.1=[c])∧(t.1=2→t.2.1.length≤500))∧cR (u::r)
theorem cR.head {t:Tk} {r:List Tk} (h:cR (t::r)):(t.1=4→ ∃c,t.2.1=[c])∧(t.1=2→t.2.1.length≤500):=by
 cases r with
 |nil=>have h:t.1=0:=h;exact⟨fun e=>by omega,fun e=>by omega⟩
 |cons u r=>exact h.1.2
theorem cR.tail {t:Tk} {r:List Tk} (h:cR (t::r)) (h0:t.1≠0):cR r:=by
 cases r with
 |nil=>exact absurd h h0
 |cons u r=>exact h.2
theorem cR.ne {ts:List Tk} (h:cR ts):∃t r,ts=t::r:=by
 cases ts with
 |nil=>exact h.elim
 |cons t r=>exact⟨t,r,rfl⟩
def Rd (fid:FuncId) (ts:List Tk) (a:Int):gR→Prop
 | .ok (e,r)=>az Tryz.prog fid [.box 900 0] [(900,gv ts a 0)] (.v (.one (dE e))) [(900,gv r a 0)]∧cR r
 | .error (p,c)=>c≠0∧ ∃y ts',az Tryz.prog fid [.box 900 0] [(900,gv ts a 0)] (.v (.one (dR y))) [(900,gv ts' p c)]∧cR ts'
theorem It (n:Nat):Lib.repeatL [48] n=List.replicate n 48:=by
 induction n with
 |zero=>rfl
 |succ n ih=>
  simp[Lib.repeatL,List.replicate_succ]at ih ⊢
  exact ih
theorem E5 (z:Int):0<(fmt z).length:=by
 rw[BC]
 have:0<(lF z.natAbs).length:=by
  unfold lF
  split
  ·simp
  ·rename_i h
   obtain⟨c,r,e,_⟩:=mN h;rw[e]
   simp
 simp
 omega
theorem zq (n:Nat) (hn:n≤1000000):aa Tryz.prog 93 [dL [48],dN .i64 n] (.one (dL (List.replicate n 48))):=
 ⟨ay func93 rfl rfl,fun S w vs hS hv=>by
  match vs,hv with
  | [v,u],⟨h1,h2,_⟩=>
   obtain rfl:=bP h1;obtain rfl:=bP h2;refine(Tryz.strings_Repeat (Bs [48]) n w (by omega) (by rw[aB];simp;omega)).mono ?_;rintro e w' ⟨rfl,hb⟩;exact⟨_,rfl,by rw[show(Bs [48]).data.toList=[48] from rfl,It];exact AV.M.val rfl,hb⟩⟩
theorem lh {q:Rat} {n:Nat} (sq:jb n q) (hn:n≤900):∃t,aa Tryz.prog 58 [dQ q] (.tup [dL t,dB (fx q).isSome])∧ ∀u,fx q=some u→t=u:=by
 have cv:aa Tryz.prog 86 [dQ q] (.one (dB true)):=xB q sq (by omega)
 by_cases hneg:Cw q<0
 ·have h0:fx q=none:=by rw[fx,if_pos hneg]
  refine⟨[],?_,fun u h=>by rw[h0]at h;cases h⟩;rw[h0];refine kV func58 ?_;refine kQ (cv) ?_;refine kC (sG q) ?_;refine kB true ?_ ?_
  ·exact decide_eq_true hneg
  exact kF
 ·obtain⟨K,k1,k2,k3⟩:=l9 hneg
  have main:∀t b,(40≤K→t=[]∧b=false)→(K<40→t=iZ K (fmt (pw q K).num)∧b=decide (t.length≤40))→aa Tryz.prog 58 [dQ q] (.tup [dL t,dB b]):=by
   intro t b g1 g2;refine kV func58 ?_;refine kQ (cv) ?_;refine kC (sG q) ?_;refine kB false ?_ ?_
   ·exact decide_eq_false hneg
   refine kW ?_;refine ae (uE 10 (by decide) (by decide) (q:=((10:Int):Rat)) rfl) rfl rfl rfl rfl rfl rfl rfl ?_;refine kW ?_;refine ae (fS 1 (by decide) (by decide)) rfl rfl rfl rfl rfl rfl rfl ?_;refine kW ?_
   refine aS Nat (fun k=>k≤K) (fun k=>⟨[(1, .box 0 0),(2, .d (dL [])),(3, .d (dB false)),(4, .box 3001 0),(5, .box 4001 0),(6, .d (dN .i64 k))],[(0,some (aQ (pw q k))),(3001,some (aQ ((10:Int):Rat))),(4001,some (aZ 1))]⟩) (fun k=>41-k) 0 (Nat.zero_le _)
    (weak ⟨rfl,rfl,rfl,rfl,rfl,rfl,trivial⟩ ⟨rfl,rfl,rfl,trivial⟩ rfl) ?_
   intro k hk;have sk:=Dh sq k;refine kI ?_;refine kO ?_
   by_cases h40:k<40
   ·refine kT ?_
    refine kG ?_
    refine kO3 ?_
    have hcs:=BO ((pw q k).den:Int) 1
    by_cases hd1:((pw q k).den:Int)=1
    ·have hkK:k=K:=by
      rcases Nat.lt_or_ge k K with h|h
      ·exact absurd hd1 (k2 k h)
      ·omega
     rw[show bQ ((pw q k).den:Int) 1=0 by rw[hd1];exact zA 1]at hcs;obtain⟨rfl,rfl⟩:=g2 (by omega);subst hkK;refine kQ (hcs) ?_;have hlen:(fmt (pw q k).num).length≤10*(n+k)+2:=zU sk.1;refine ae (uT (Nat.le_trans sk.1.digs (by omega))) rfl rfl rfl rfl rfl rfl rfl ?_;refine kG ?_;refine kO ?_;unfold iZ dY;have hpos:0<(fmt (pw q k).num).length:=E5 _
     generalize fmt (pw q k).num=u at *;have hB:=aB u
     by_cases hk0:0<k
     ·rw[if_pos hk0]
      refine kT ?_;refine kG ?_
      refine kO4 ?_
      refine fo (v':= .int .i64 ((k:Int)+1-u.length)) rfl rfl rfl rfl ?_ ?_
      ·exact congrArg (Value.int .i64) (by rw[IntWalk.i64_in ((k:Int)+1) (by omega),IntWalk.i64_in _ (by omega)];omega)
      refine kG ?_;refine kO ?_
      by_cases hp:u.length<k+1
      ·refine kT ?_
       refine kG ?_;refine kO ?_;have cr:=zq (k+1-u.length) (by omega);rw[show(((k+1-u.length:Nat)):Int)=(k:Int)+1-u.length by omega]at cr;refine kC (cr) ?_;refine kO ?_;refine aP rfl rfl rfl rfl rfl rfl rfl (ej (a:=List.replicate (k+1-u.length) 48) (b:=u) (by simp;omega)) ?_;have hwl:(List.replicate (k+1-u.length) 48++u).length=k+1-u.length+u.length:=by simp
       generalize hwd:List.replicate (k+1-u.length) 48++u=w at *;have hwB:=aB w;refine kG ?_
       refine kO4 ?_
       refine kJ ((w.length-k:Nat)) ?_;refine wW ab (l:=w) (i:=w.length-k) (by omega) rfl rfl rfl rfl rfl rfl rfl rfl ?_;refine aP rfl rfl rfl rfl rfl rfl rfl (ej (a:=w.take (w.length-k)) (b:=[46]) (by simp;omega)) ?_
       refine kO4 ?_
       refine kJ ((w.length-k:Nat)) ?_;refine iN ab (l:=w) (i:=w.length-k) (by omega) rfl rfl rfl rfl rfl rfl rfl rfl ?_;refine aP rfl rfl rfl rfl rfl rfl rfl (ej (a:=w.take (w.length-k)++[46]) (b:=w.drop (w.length-k)) (by simp;omega)) ?_;generalize hz:w.take (w.length-k)++[46]++w.drop (w.length-k)=z;have hzB:=aB z;refine kG ?_
       refine kO3 ?_
       refine fo (v':= .bool (decide (z.length≤40))) rfl rfl rfl rfl ?_ ?_
       ·exact congrArg Value.bool (decide_eq_decide.2 (by omega))
       exact kF
      ·refine kE ?_
       rw[show k+1-u.length=0 by omega,List.replicate_zero,List.nil_append];have hwl:u.length=u.length:=rfl;generalize hwd:u=w at *;refine kG ?_
       refine kO4 ?_
       refine kJ ((w.length-k:Nat)) ?_;refine wW ab (l:=w) (i:=w.length-k) (by omega) rfl rfl rfl rfl rfl rfl rfl rfl ?_;refine aP rfl rfl rfl rfl rfl rfl rfl (ej (a:=w.take (w.length-k)) (b:=[46]) (by simp;omega)) ?_
       refine kO4 ?_
       refine kJ ((w.length-k:Nat)) ?_;refine iN ab (l:=w) (i:=w.length-k) (by omega) rfl rfl rfl rfl rfl rfl rfl rfl ?_;refine aP rfl rfl rfl rfl rfl rfl rfl (ej (a:=w.take (w.length-k)++[46]) (b:=w.drop (w.length-k)) (by simp;omega)) ?_;generalize hz:w.take (w.length-k)++[46]++w.drop (w.length-k)=z;have hzB:=aB z;refine kG ?_
       refine kO3 ?_
       refine fo (v':= .bool (decide (z.length≤40))) rfl rfl rfl rfl ?_ ?_
       ·exact congrArg Value.bool (decide_eq_decide.2 (by omega))
       exact kF
     ·obtain rfl:k=0:=by omega
      rw[if_neg hk0];have hu1:0+1-u.length=0:=by omega
      rw[hu1,List.replicate_zero,List.nil_append];refine kE ?_;refine kG ?_
      refine kO3 ?_
      refine fo (v':= .bool (decide (u.length≤40))) rfl rfl rfl rfl ?_ ?_
      ·exact congrArg Value.bool (decide_eq_decide.2 (by omega))
      exact kF
    ·have hne:bQ ((pw q k).den:Int) 1≠0:=by
      rcases Int.lt_trichotomy ((pw q k).den:Int) 1 with h|h|h
      ·rw[fv h];decide
      ·exact absurd h hd1
      ·rw[jz h];decide
     refine kC (hcs) ?_;refine kB true ?_ ?_
     ·exact(by simpa using hne)
     refine kW ?_;refine ae (CW sk (vl (n:=10) (by decide)) (by omega) (q:=pw q (k+1)) rfl) rfl rfl rfl rfl rfl rfl rfl ?_;refine kW ?_
     exact⟨k+1,by
      rcases Nat.lt_or_ge k K with h|h
      ·exact h
      ·obtain rfl:k=K:=by omega
       rcases k3 with⟨e,_⟩| ⟨_,k3,_⟩
       ·omega
       ·exact absurd k3 hd1,by omega,weak ⟨rfl,rfl,rfl,rfl,rfl,aG (by omega) (by omega),trivial⟩ ⟨rfl,rfl,rfl,trivial⟩ rfl⟩
   ·refine kE ?_
    obtain⟨rfl,rfl⟩:=g1 (by omega);exact kF
  rcases k3 with⟨e,h0⟩| ⟨e,h1,h2⟩
  ·refine⟨[],?_,fun u h=>by rw[h0]at h;cases h⟩
   rw[h0];exact main _ _ (fun _=>⟨rfl,rfl⟩) (fun h=>by omega)
  ·by_cases h40:K=40
   ·have h0:fx q=none:=by
     rw[h2,if_neg];have:=DM K (fmt (pw q K).num) (by omega);omega
    refine⟨[],?_,fun u h=>by rw[h0]at h;cases h⟩;rw[h0];exact main _ _ (fun _=>⟨rfl,rfl⟩) (fun h=>by omega)
   ·refine⟨iZ K (fmt (pw q K).num),?_,fun u h=>?_⟩
    ·have:(fx q).isSome=decide ((iZ K (fmt (pw q K).num)).length≤40):=by
      rw[h2]
      split
      ·rename_i h;simp[h]
      ·rename_i h;simp[h]
     rw[this];exact main _ _ (fun h=>by omega) (fun _=>⟨rfl,rfl⟩)
    ·rw[h2]at h
     split at h
     ·cases h;rfl
     ·cases h
theorem D2 {l:List UInt8} {i:Nat} (h:i<l.length):num (l.take (i+1))=10*num (l.take i)+dv l[i]:=by
 rw[List.take_succ_eq_append_getElem h,gy]
theorem ns (s:List UInt8):aa Tryz.prog 204 [dL s] (.tup [dZ (pz s).1,dN .i64 (pz s).2]):=by
 have z0:dZ 0= .agg [.val (.bool false), .sl 0 []]:=by unfold dZ;rw[e0]
 have hsz:=aB s
 by_cases hl:s.length≤65536
 ·have hdl:=lA s
  refine kV func204 ?_;refine dD (T:=TT) rfl ?_ ?_
  ·exact decide_eq_false (by omega)
  refine bM ?_;refine kR ?_;refine mq ⟨[(0, .d (dL s)),(2, .box 0 0),(3, .d (dN .i64 0)),(4, .d (dL (dA s)))],[(0,some [.val (.bool false), .sl 0 []])]⟩ (fun s' hw=>?_) (fun R hR hret=>?_)
  ·refine av ?_
   refine ee hw rfl ?_;refine kW ?_;refine aS Nat (fun i=>i≤(dA s).length∧ ∀c∈(dA s).take i,da c) (fun i=>⟨[(0, .d (dL s)),(2, .box 0 0),(3, .d (dN .i64 0)),(4, .d (dL (dA s))),(5, .box 6001 0),(6, .d (dN .i64 i))],[(0,some [.val (.bool false), .sl 0 []]),(6001,some (aZ (num ((dA s).take i):Nat)))]⟩) (fun i=>(dA s).length-i) 0 ⟨by omega,by simp⟩ (weak ⟨rfl,rfl,rfl,rfl,rfl,rfl,trivial⟩ ⟨rfl,congrArg some e0.symm,trivial⟩ rfl) ?_;rintro i ⟨hi,hd⟩;have hsd:=aB (dA s);refine kR ?_;refine f6 rfl (fun h=>?_) (fun h=>?_)
   ·have h:=of_decide_eq_true h
    have hi:i<(dA s).length:=by omega
    refine bM ?_;refine kR ?_;refine ap ab (i:=i) (c:=(dA s)[i]) (List.getElem?_eq_getElem hi) rfl rfl rfl rfl rfl rfl rfl rfl ?_
    by_cases h48:(dA s)[i].toNat<48
    ·have hbad:¬GZ s:=fun hp=>by have:=(hp.2.2.1 _ (List.getElem_mem hi)).1;omega
     rw[jn hbad,z0];refine kT ?_;exact kF
    ·refine kE ?_
     refine kO3 ?_
     refine ap ab (i:=i) (c:=(dA s)[i]) (List.getElem?_eq_getElem hi) rfl rfl rfl rfl rfl rfl rfl rfl ?_
     by_cases h57:(dA s)[i].toNat > 57
     ·have hbad:¬GZ s:=fun hp=>by have:=(hp.2.2.1 _ (List.getElem_mem hi)).2;omega
      rw[jn hbad,z0];refine kT ?_;exact kF
     ·refine kE ?_
      have hD:da (dA s)[i]:=⟨by omega,by omega⟩;have hl1:((dA s).take i).length≤65536:=by rw[List.length_take];omega
      have hn0:=zS hd;have hdv:=zZ hD;have hs:=D2 hi
      have hcv:(Value.int .i64 (IntKind.i64.wrap (IntKind.u8.wrap (((dA s)[i].toNat:Int)-48))):Value)= .int .i64 (dv (dA s)[i]:Nat):=by
       rw[IntWalk.u8_in _ (by omega),IntWalk.i64_in _ (by omega)];unfold dv
       congr 1
       omega
      have hf10:eD ((num ((dA s).take i):Nat)*10:Int):=by
       have:=yM (Nat.le_trans hn0 hl1) (m:=10*num ((dA s).take i)) (by omega);unfold eD;rw[show((num ((dA s).take i):Nat)*10:Int).natAbs=10*num ((dA s).take i) by omega];omega
      refine kW ?_;refine ae (cX 10 (by decide) (by decide)) rfl rfl rfl rfl rfl rfl rfl ?_;refine kW ?_;refine ae (eL (a:=(num ((dA s).take i):Nat)) (b:=10) (Nat.le_trans hn0 (Nat.le_trans hl1 (by decide))) (.small (by decide))) rfl rfl rfl rfl rfl rfl rfl ?_
      refine kO2 ?_
      refine ap ab (i:=i) (c:=(dA s)[i]) (List.getElem?_eq_getElem hi) rfl rfl rfl rfl rfl rfl rfl rfl ?_;refine kO ?_;refine fo rfl rfl rfl rfl hcv ?_;refine ae (cX (dv (dA s)[i]:Nat) (by omega) (by omega)) rfl rfl rfl rfl rfl rfl rfl ?_;refine ae (rl (a:=(num ((dA s).take i):Nat)*10) (b:=(dv (dA s)[i]:Nat)) hf10 (.small (by omega))) rfl rfl rfl rfl rfl rfl rfl ?_;refine kW ?_;have hnum:((num ((dA s).take i):Nat)*10+(dv (dA s)[i]:Nat):Int)=(num ((dA s).take (i+1)):Nat):=by rw[hs];omega
      refine⟨i+1,⟨hi,fun c hc=>?_⟩,by omega,weak ⟨rfl,rfl,rfl,rfl,rfl,aG rfl (by omega),trivial⟩ ⟨rfl,congrArg (fun z=>some (aZ z)) hnum,trivial⟩ rfl⟩;rw[List.take_succ_eq_append_getElem hi,List.mem_append]at hc;rcases hc with hc|hc
      ·exact hd c hc
      ·rw[List.mem_singleton]at hc;rw[hc];exact hD
   ·have h:=of_decide_eq_false h
    have hi:i=(dA s).length:=by omega
    subst hi;rw[List.take_length]at hd ⊢;refine cV ?_
    have hfz:eD (kA (bV s) (num (dA s))):=by
     have:=zS hd;unfold eD;rw[show(kA (bV s) (num (dA s))).natAbs=num (dA s) by unfold kA;split <;>omega];omega
    refine mq ⟨[(0, .d (dL s)),(2, .box 0 0),(3, .d (dN .i64 0)),(5, .box 6001 0)],[(0,some [.val (.bool false), .sl 0 []]),(6001,some (aZ (kA (bV s) (num (dA s)))))]⟩ (fun s' hw=>?_) (fun R hR hret=>?_)
    ·refine av ?_
     refine av ?_;refine ee hw rfl ?_;refine kO ?_;refine kC (lM hfz) ?_;refine kO ?_;refine aP rfl rfl rfl rfl rfl rfl rfl m7 ?_;refine .done ?_
     by_cases hok:il (bV s) (dA s)
     ·have:=Hi hok
      rw[Fw]at this;refine dD (T:=TT) rfl ?_ ?_
      ·exact(by rw[this];simp)
      rw[C9 ⟨hl,hok⟩];refine bM ?_;exact kF
     ·have:fmt (kA (bV s) (num (dA s)))≠s:=fun e=>hok (Cp hd (by rw[Fw];exact e))
      refine eY (T:=TT) rfl ?_ ?_
      ·exact(by simp[this])
      rw[jn (fun h=>hok h.2),z0];exact kF
    ·have hlt:=H2 s
     refine kR ?_;cases hp:bV s
     ·rw[hp]at hlt
      refine dD (T:=TT) rfl ?_ ?_
      ·exact(by rw[← hlt];congr 1;simp;omega)
      refine bM ?_;exact hR _ (weak ⟨rfl,rfl,rfl,rfl,trivial⟩ ⟨rfl,congrArg (fun z=>some (aZ z)) (show((num (dA s):Nat):Int)=kA (bV s) (num (dA s)) by rw[hp];rfl),trivial⟩ rfl)
     ·rw[hp]at hlt
      refine eY (T:=TT) rfl ?_ ?_
      ·exact(by rw[← hlt];congr 1;simp;omega)
      refine kW ?_;refine kQ (lY (num (dA s):Nat)) ?_;exact hR _ (weak ⟨rfl,rfl,rfl,rfl,trivial⟩ ⟨rfl,congrArg (fun z=>some (aZ z)) (show -((num (dA s):Nat):Int)=kA (bV s) (num (dA s)) by rw[hp];rfl),trivial⟩ rfl)
  ·clear hret
   match s with
   | []=>
    refine av ?_;refine an rfl ?_
    refine kO2 ?_
    refine kB false ?_ ?_
    ·exact rfl
    refine kW ?_;refine bM ?_;exact hR _ (weak ⟨rfl,rfl,rfl,rfl,trivial⟩ ⟨rfl,trivial⟩ rfl)
   |c::r=>
    refine av ?_;refine an rfl ?_
    refine kO2 ?_
    refine kB true ?_ ?_
    ·exact decide_eq_true (by rw[hsz];simp)
    refine kO2 ?_
    refine ap ab (i:=0) (c:=c) rfl rfl rfl rfl rfl rfl rfl rfl rfl ?_
    by_cases h:c=45
    ·subst h
     refine kW ?_;refine iN ab (i:=1) (by simp) rfl rfl rfl rfl rfl rfl rfl rfl ?_;refine kW ?_;exact hR _ (weak ⟨rfl,rfl,rfl,rfl,trivial⟩ ⟨rfl,trivial⟩ rfl)
    ·have h45:(c == 45)=false:=beq_eq_false_iff_ne.2 h
     have hn:c.toNat≠45:=fun e=>h (UInt8.toNat_inj.1 e)
     refine kB false ?_ ?_
     ·exact beq_eq_false_iff_ne.2 (by omega)
     refine kW ?_;refine bM ?_;exact hR _ (weak ⟨rfl,rfl,rfl,congrArg (fun x=>TV.d (dL x)) (show c::r=dA (c::r) by simp[dA,h45]),trivial⟩ ⟨rfl,trivial⟩ rfl)
 ·rw[jn (fun h=>hl h.1),z0]
  refine kV func204 ?_;refine eY (T:=TT) rfl ?_ ?_
  ·exact decide_eq_true (by omega)
  exact kF
end Go.Proofs.YtikbnnljjeefgaaGreatDoor
