/- Plain data over the model's memory: what a value reads as, kept while memory grows. The operations of the model over plain data, one at a time. The operations of the model over plain data: what each does to what is known. One operation, as a function of what is known; calls by what is known of the callee. A region whose operations may come in any order: its operations one behind the other, where those that meet at a place are ordered. Code over plain data, and the contract of a function out of it. -/
import Derived.Test.YtnchbpoopnjghaaGreatDoorQAmG
set_option maxHeartbeats 100000000
set_option linter.all false
namespace Go.Proofs.YtnchbpoopnjghaaGreatDoor
open Go.RowKit
inductive AV where
 |val (v:Value)
 |sl (n:Nat) (cs:List AV)
 |ow (j n k e:Nat)
 |bp (j o:Nat)
 |nl
def gb:Value->Bool
 | .int .u32 _=>false
 |_=>true
structure bY (S:Nat->Prop) (w w':World):Prop where
 size:w.heap.size<=w'.heap.size
 blk:∀b,b<w.heap.size-> ¬S b->w'.heap[b]? =w.heap[b]?
theorem bY.of_below {S:Nat->Prop} {w w':World} (h:Below w.heap.size w w'):bY S w w':=⟨h.size,fun b hb _=>h.block b hb⟩
theorem bY.refl (S:Nat->Prop) (w:World):bY S w w:=⟨l_ _,fun _ _ _=>rfl⟩
inductive AV.M (S:Nat->Prop) (w:World):AV->Value->Prop
 |val {v:Value}:v.oneCell'=true->AV.M S w (.val v) v
 |emp {A:Option Addr} {n c:Nat}:n<=c->c<=9223372036854775807->(A=none->c=0)->AV.M S w (.sl n []) (.slice A n c)
 |sl {b off n c:Nat} {cs:List AV} (f:Nat->Value):n<=c->c<=9223372036854775807-> ¬S b->b<w.heap.size->(∀i a,cs[i]? =some a->w.cell? ⟨b,off+i,none⟩=some (f i))->(∀i a,cs[i]? =some a->AV.M S w a (f i)) ->
  AV.M S w (.sl n cs) (.slice (some ⟨b,off,none⟩) n c)
 |ow {v:Value} {j n k e:Nat}:v.oneCell'=true->AV.M S w (.ow j n k e) v
 |bp {v:Value} {j o:Nat}:v.oneCell'=true->AV.M S w (.bp j o) v
 |nl:AV.M S w .nl (.slice none 0 0)
theorem AV.M.agree {S S':Nat->Prop} {w w':World} {a:AV} {v:Value} (h:AV.M S w a v) (hb:bY S w w') (hS:∀b,b<w.heap.size->S' b->S b):AV.M S' w' a v:=by
 induction h with
 |val h=>exact .val h
 |emp h1 h2 h3=>exact .emp h1 h2 h3
 |sl f h1 h2 hn hl hc _ ih=>exact .sl f h1 h2 (fun h=>hn (hS _ hl h)) (k_ hl hb.size) (fun i a hi=>(World.cell?_of_block (hb.blk _ hl hn)).trans (hc i a hi)) ih
 |ow h=>exact .ow h
 |bp h=>exact .bp h
 |nl=>exact .nl
theorem AV.M.plain {S:Nat->Prop} {w:World} {a:AV} {v:Value} (h:AV.M S w a v):v.oneCell'=true:=by
 cases h with
 |val h=>exact h
 |emp=>rfl
 |sl=>rfl
 |ow h=>exact h
 |bp h=>exact h
 |nl=>rfl
theorem pC {v:Value} (h:v.oneCell'=true):v.cells= #[v]:=by
 cases v<;>first|rfl|(simp[Value.oneCell']at h)
inductive DV where
 |leaf (a:AV)
 |agg (cs:List AV)
def DV.cells:DV->List AV
 | .leaf a=>[a]
 | .agg cs=>cs
def CM (S:Nat->Prop) (w:World) (cs:List AV) (vs:List Value):Prop:=cs.length=vs.length/\ ∀(i:Nat) (a:AV) (v:Value),cs[i]? =some a->vs[i]? =some v->AV.M S w a v
def DV.M (S:Nat->Prop) (w:World):DV->Value->Prop
 | .leaf a,v=>AV.M S w a v
 | .agg cs,v=>∃vs:List Value,v= .agg vs.toArray/\CM S w cs vs
theorem CM.nil (S:Nat->Prop) (w:World):CM S w [] []:=⟨rfl,fun i a v h=>by simp at h⟩
theorem CM.cons {S:Nat->Prop} {w:World} {a:AV} {v:Value} {cs:List AV} {vs:List Value} (h:AV.M S w a v) (hs:CM S w cs vs):CM S w (a::cs) (v::vs):=by
 refine⟨by simp[hs.1],fun i b u h1 h2=>?_⟩;cases i with
 |zero=>simp at h1 h2;subst h1 h2;exact h
 |succ i=>exact hs.2 i b u (by simpa using h1) (by simpa using h2)
theorem CM.agree {S S':Nat->Prop} {w w':World} {cs:List AV} {vs:List Value} (h:CM S w cs vs) (hb:bY S w w') (hS:∀b,b<w.heap.size->S' b->S b):CM S' w' cs vs:=
 ⟨h.1,fun i a v h1 h2=>(h.2 i a v h1 h2).agree hb hS⟩
theorem CM.drop {S:Nat->Prop} {w:World} {cs:List AV} {vs:List Value} (h:CM S w cs vs) (o:Nat):CM S w (cs.drop o) (vs.drop o):=
 ⟨by simp[h.1],fun i a v h1 h2=>h.2 (o+i) a v (by simpa using h1) (by simpa using h2)⟩
theorem CM.take {S:Nat->Prop} {w:World} {cs:List AV} {vs:List Value} (h:CM S w cs vs) (k:Nat):CM S w (cs.take k) (vs.take k):=
 ⟨by simp[h.1],fun i a v h1 h2=>by
  rw[List.getElem?_take]at h1 h2
  split at h1
  ·rw[if_pos (by assumption)]at h2;exact h.2 i a v h1 h2
  ·cases h1⟩
theorem CM.append {S:Nat->Prop} {w:World} {cs ds:List AV} {vs us:List Value} (h:CM S w cs vs) (k:CM S w ds us):CM S w (cs++ds) (vs++us):=by
 refine⟨by simp[h.1,k.1],fun i a v h1 h2=>?_⟩;rw[List.getElem?_append]at h1 h2;have:=h.1
 split at h1
 ·rw[if_pos O_]at h2;exact h.2 i a v h1 h2
 ·rw[if_neg O_,<- this]at h2;exact k.2 _ a v h1 h2
theorem CM.plain {S:Nat->Prop} {w:World} {cs:List AV} {vs:List Value} (h:CM S w cs vs):∀v∈vs,v.oneCell'=true:=by
 intro v hv;obtain⟨i,hi⟩:=W_ hv;have hl:i<cs.length:=by rw[h.1];exact(G_.1 hi).1
 exact(h.2 i cs[i] v (by simp[hl]) hi).plain
def fK (S:Nat->Prop) (w:World) (cs:List AV) (vs:List Value):Prop:=cs.length<=vs.length/\ ∀(i:Nat) (a:AV) (v:Value),cs[i]? =some a->vs[i]? =some v->AV.M S w a v
theorem CM.cp {S:Nat->Prop} {w:World} {cs:List AV} {vs:List Value} (h:CM S w cs vs):fK S w cs vs:=⟨Nat.le_of_eq h.1,h.2⟩
theorem fK.agree {S S':Nat->Prop} {w w':World} {cs:List AV} {vs:List Value} (h:fK S w cs vs) (hb:bY S w w') (hS:∀b,b<w.heap.size->S' b->S b):fK S' w' cs vs:=
 ⟨h.1,fun i a v h1 h2=>(h.2 i a v h1 h2).agree hb hS⟩
theorem fK.cm {S:Nat->Prop} {w:World} {cs:List AV} {vs:List Value} (h:fK S w cs vs):CM S w cs (vs.take cs.length):=
 ⟨by have:=h.1;simp;omega,fun i a v h1 h2=>by
  rw[List.getElem?_take]at h2
  split at h2
  ·exact h.2 i a v h1 h2
  ·cases h2⟩
theorem fK.sub {S:Nat->Prop} {w:World} {cs:List AV} {vs:List Value} (h:fK S w cs vs) {off k:Nat} (hk:off+k<=cs.length):CM S w ((cs.drop off).take k) ((vs.drop off).take k):=by
 have:=(h.cm.drop off).take k
 have e:((vs.take cs.length).drop off).take k=(vs.drop off).take k:=by
  rw[List.drop_take,List.take_take]
  congr 1
  omega
 rwa[e]at this
theorem fK.append {S:Nat->Prop} {w:World} {cs:List AV} {vs us:List Value} (h:CM S w cs vs):fK S w cs (vs++us):=
 ⟨by have:=h.1;simp;omega,fun i a v h1 h2=>h.2 i a v h1 (by
  have hi:i<vs.length:=by rw[<- h.1];exact(G_.1 h1).1
  rwa[List.getElem?_append_left hi]at h2)⟩
theorem DV.M.agree {S S':Nat->Prop} {w w':World} {d:DV} {v:Value} (h:DV.M S w d v) (hb:bY S w w') (hS:∀b,b<w.heap.size->S' b->S b):DV.M S' w' d v:=by
 cases d with
 |leaf a=>exact AV.M.agree h hb hS
 |agg cs=>obtain⟨vs,e,hc⟩:=h;exact⟨vs,e,hc.agree hb hS⟩
theorem DV.M.cells {S:Nat->Prop} {w:World} {d:DV} {v:Value} (h:DV.M S w d v):CM S w d.cells v.cells.toList:=by
 cases d with
 |leaf a=>rw[pC (AV.M.plain h)];exact CM.cons h (CM.nil _ _)
 |agg cs=>obtain⟨vs,rfl,hc⟩:=h;exact hc
structure Kd where
 nm:List UInt8
 p:Nat
 c:Nat
 n:Nat
 v:Nat
 q:Nat
 s:Bool
def ov:List Kd:=[⟨[102,105,120],1,0,2,1,2,false⟩,⟨[100,105,115,116,97,110,99,101],2,0,1,2,1,false⟩,⟨[105,110,99,105,100,101,110,116],3,0,0,0,1,false⟩,⟨[111,102,102,115,101,116],3,0,1,2,1,true⟩,⟨[97,110,103,108,101],4,0,1,3,1,false⟩,⟨[112,97,114,97,108,108,101,108],4,0,0,0,1,false⟩,⟨[112,101,114,112,101,110,100,105,99,117,108,97,114],4,0,0,0,1,false⟩,⟨[101,113,117,97,108],4,0,0,0,1,false⟩,⟨[109,105,100,112,111,105,110,116],3,0,0,0,2,false⟩,⟨[115,121,109,109,101,116,114,105,99],4,0,0,0,2,false⟩,⟨[104,111,114,105,122,111,110,116,97,108],2,0,0,0,1,false⟩,⟨[118,101,114,116,105,99,97,108],2,0,0,0,1,false⟩,⟨[111,110,99,105,114,99,108,101],1,1,0,0,1,false⟩,⟨[114,97,100,105,117,115],0,1,1,2,1,false⟩,⟨[115,97,109,101,114,97,100,105,117,115],0,2,0,0,1,false⟩,⟨[116,97,110,103,101,110,116,108,105,110,101],2,1,0,0,1,true⟩,⟨[116,97,110,103,101,110,116,99,105,114,99,108,101],0,2,0,0,1,true⟩]
def Sm (r:Kd):List AV:=[.val (.string ⟨r.nm.toArray⟩), .val (.int .i64 r.p), .val (.int .i64 r.c), .val (.int .i64 r.n), .val (.int .i64 r.q), .val (.bool r.s), .val (.bool (Nat.beq r.v 1 || Nat.beq r.v 2)), .val (.bool (Nat.beq r.v 2))]
def GT:List (Nat × List AV):=
 (4,[.sl 5 [.val (.string ⟨#[99,109]⟩), .val (.int .i64 10), .val (.int .i64 1), .val (.string ⟨#[102,116]⟩), .val (.int .i64 1524), .val (.int .i64 5), .val (.string ⟨#[105,110]⟩), .val (.int .i64 127), .val (.int .i64 5), .val (.string ⟨#[109]⟩), .val (.int .i64 1000), .val (.int .i64 1), .val (.string ⟨#[109,109]⟩), .val (.int .i64 1), .val (.int .i64 1)]]) ::
 (2,[.val (.string ⟨#[]⟩), .val (.string ⟨#[]⟩), .val (.string ⟨#[]⟩), .val (.string ⟨#[45]⟩), .val (.string ⟨#[32,43,32]⟩), .val (.string ⟨#[32,45,32]⟩), .val (.string ⟨#[32,42,32]⟩), .val (.string ⟨#[32,47,32]⟩)]) ::
 (0,Sm ⟨[],0,0,0,0,0,false⟩++ov.flatMap Sm) ::
 (1,[.val (.int .i64 0), .val (.int .i64 0), .val (.int .i64 0), .val (.int .i64 1), .val (.int .i64 2), .val (.int .i64 2), .val (.int .i64 2), .val (.int .i64 2)]) ::
 []
def iF (j:Nat):Bool:=Nat.beq (j%1000000/100) 9
structure eR where
 w:World
 x:Nat->Prop
 d:List Deferred
 p:Nat->Option Nat
abbrev eR.heap (b:eR):Array Obj:=b.w.heap
structure cR (x:Nat->Prop) (w w':World):Prop where
 os:w'.os=w.os
 tape:w'.tape=w.tape
 output:w'.output=w.output
 size:w.heap.size<=w'.heap.size
 block:∀k,k<w.heap.size-> ¬x k->w'.heap[k]? =w.heap[k]?
 shp:∀k,k<w.heap.size->x k-> ∀arr e fz,w.heap[k]? =some (.cells arr e fz)-> ∃arr' fz',w'.heap[k]? =some (.cells arr' e fz')/\arr'.size=arr.size
theorem cR.refl (x:Nat->Prop) (w:World):cR x w w:=⟨rfl,rfl,rfl,l_ _,fun _ _ _=>rfl,fun _ _ _ arr _ fz h=>⟨arr,fz,h,rfl⟩⟩
theorem cR.go {x y:Nat->Prop} {w w' w'':World} (h:cR x w w') (k:cR y w' w'') (hy:∀b,y b->w.heap.size<=b∨x b):cR x w w'':=by
 refine⟨k.os.trans h.os,k.tape.trans h.tape,k.output.trans h.output,V_ h.size k.size,fun b hb hx=>?_,fun b hb hx arr e fz he=>?_⟩
 ·rw[k.block b (k_ hb h.size) (fun hyb=>by rcases hy b hyb with h1|h1;exact absurd hb (Nat.not_lt.2 h1);exact hx h1)]
  exact h.block b hb hx
 ·obtain⟨a1,f1,h1,h2⟩:=h.shp b hb hx arr e fz he
  by_cases hyb:y b
  ·obtain⟨a2,f2,h3,h4⟩:=k.shp b (k_ hb h.size) hyb a1 e f1 h1
   exact⟨a2,f2,h3,h4.trans h2⟩
  ·exact⟨a1,f1,(k.block b (k_ hb h.size) hyb).trans h1,h2⟩
theorem cR.of_below {w w':World} (h:Below w.heap.size w w'):cR (fun _=>False) w w':=⟨h.os,h.tape,h.output,h.size,fun k hk _=>h.block k hk,fun _ _ h=>h.elim⟩
theorem cR.below {w w':World} (h:cR (fun _=>False) w w'):Below w.heap.size w w':=⟨h.os,h.tape,h.output,h.size,fun k hk=>h.block k hk (fun h=>h)⟩
theorem cR.step {x:Nat->Prop} {w w' w'':World} (h:cR x w w') (k:Below w'.heap.size w' w''):cR x w w'':=h.go (.of_below k) (fun _ h=>h.elim)
def Nc (b:eR):Prop:=∀w',cR b.x b.w w'->KW w'
theorem Nc.here {b:eR} (h:Nc b) {w:World} (hb:cR b.x b.w w):m0 w:=fun w' hw=>h w' (hb.step hw)
theorem m0.base {w:World} (h:m0 w) (d:List Deferred) (p:Nat->Option Nat):Nc ⟨w,fun _=>False,d,p⟩:=fun w' hw=>h w' hw.below
inductive CV where
 |val (v:Value)
 |box (j o:Nat)
inductive TV where
 |d (x:DV)
 |tup (ts:List DV)
 |box (j o:Nat)
 |rp (cs:List AV)
 |own (j n k e:Nat)
 |clo (fn:Fn) (fs cs:List CV)
 |dfr (f:FuncId) (cs:List CV)
 |vw (j o n k:Nat)
 |vs (j o n c k e:Nat)
 |mp (es:List (Value × Value))
 |nil
 |und
 |junk
def ap {α:Type}:List (Nat × α)->Nat->Option α
 | [],_=>none
 |(k,v)::r,i=>match Nat.beq k i with
  |true=>some v
  |false=>ap r i
structure AS where
 t:List (Nat × TV)
 b:List (Nat × Option (List AV))
def AS.tv (s:AS) (k:Nat):TV:=match ap s.t k with
 |some v=>v
 |none=> .junk
def AS.bx (s:AS) (j:Nat):Option (List AV):=match ap s.b j with
 |some (some cs)=>some cs
 |_=>none
def AS.kn (s:AS) (j:Nat):Prop:=∃x,ap s.b j=some x
def bL (j:Nat):Bool:=Nat.ble 1000000 j
def cM (j:Nat):Bool:=Nat.beq (j/50) 16 || Nat.beq (j/50) 17 || Nat.beq (j/50) 19
def ib (j:Nat):Bool:=Nat.beq (j/10) 85 || Nat.beq (j/10) 95
theorem nB {j:Nat} (h:ib j=true):cM j=true:=by
 unfold ib at h;unfold cM
 simp only[Bool.or_eq_true,Nat.beq_eq]at h ⊢
 omega
def ww:TypeId:=139
def Fq:AV->Bool
 | .ow _ _ _ _=>false
 | .bp _ _=>false
 |_=>true
theorem am {α:Type} (k:Nat) (v:α) (r:List (Nat × α)):ap ((k,v)::r) k=some v:=by simp[ap]
theorem au {α:Type} {k i:Nat} (v:α) (r:List (Nat × α)) (h:k≠i):ap ((k,v)::r) i=ap r i:=by
 simp only[ap]
 cases hb:Nat.beq k i
 ·rfl
 ·exact absurd (Nat.eq_of_beq_eq_true hb) h
theorem AS.bx_same (t:List (Nat × TV)) (b:List (Nat × Option (List AV))) (j:Nat) (cs:List AV):(AS.mk t ((j,some cs)::b)).bx j=some cs:=by simp only[AS.bx,am]
theorem AS.bx_dead (t:List (Nat × TV)) (b:List (Nat × Option (List AV))) (j:Nat):(AS.mk t ((j,none)::b)).bx j=none:=by simp only[AS.bx,am]
theorem AS.bx_ne (t t':List (Nat × TV)) (b:List (Nat × Option (List AV))) {j i:Nat} (x:Option (List AV)) (h:i≠j):(AS.mk t ((j,x)::b)).bx i=(AS.mk t' b).bx i:=by simp only[AS.bx,au x b (fun e=>h e.symm)]
theorem AS.kn_cons {t t':List (Nat × TV)} {b:List (Nat × Option (List AV))} {j i:Nat} (x:Option (List AV)) (h:(AS.mk t b).kn i):(AS.mk t' ((j,x)::b)).kn i:=by
 by_cases e:j=i
 ·subst e;exact⟨x,am _ _ _⟩
 ·obtain⟨y,hy⟩:=h;exact⟨y,by simp only[au x b e];exact hy⟩
theorem AS.kn_of {s:AS} {j:Nat} {cs:List AV} (h:s.bx j=some cs):s.kn j:=by
 unfold AS.bx at h
 split at h
 ·rename_i x hx;exact⟨_,hx⟩
 ·cases h
def Own (S0:Nat->Prop) (g:Nat->Nat) (s:AS) (b:Nat):Prop:=S0 b∨ ∃j cs,s.bx j=some cs/\g j=b
def CV.M (g:Nat->Nat) (s:AS):CV->Value->Prop
 | .val u,v=>v=u
 | .box j o,v=>s.kn j/\ ∀cs,s.bx j=some cs->v= .pointer (some ⟨g j,o,none⟩)
def qm (g:Nat->Nat) (s:AS):List CV->List Value->Prop
 | [],[]=>True
 |c::cs,v::vs=>CV.M g s c v/\qm g s cs vs
 |_,_=>False
def TV.M (S:Nat->Prop) (g:Nat->Nat) (s:AS) (w:World):TV->Value->Prop
 | .d x,v=>DV.M S w x v
 | .tup ts,v=>∃vs:List Value,v= .tuple vs.toArray/\ts.length=vs.length/\ ∀(i:Nat) (x:DV) (u:Value),ts[i]? =some x->vs[i]? =some u->DV.M S w x u
 | .box j o,v=>s.kn j/\ ∀cs,s.bx j=some cs->v= .pointer (some ⟨g j,o,none⟩)
 | .rp cs,v=>∃(b off:Nat) (f:Nat->Value),v= .pointer (some ⟨b,off,none⟩)/\ ¬S b/\b<w.heap.size/\(∀i a,cs[i]? =some a->w.cell? ⟨b,off+i,none⟩=some (f i))/\ ∀i a,cs[i]? =some a->AV.M S w a (f i)
 | .own j n k e,v=>s.kn j/\ ∀cs,s.bx j=some cs-> ∃c,v= .slice (some ⟨g j,0,none⟩) n c/\n<=c/\c<=9223372036854775807/\n*k<=cs.length/\ ∃arr,w.heap[g j]? =some (.cells arr e (0,0))/\arr.size=c*k
 | .clo fn fs cs,v=>∃us vs:List Value,v= .func fn us.toArray vs.toArray/\qm g s fs us/\qm g s cs vs
 | .mp es,v=>∃(r:Nat) (ents:Array MapEntry) (clk:Nat),v= .map (some r)/\w.heap[r]? =some (.map ents clk)/\ ¬S r/\ents.toList.map (fun e=>(e.key,e.val))=es
 | .nil,v=>v= .slice none 0 0
 | .und,v=>v=undef
 | .junk,_=>True
 | .dfr _ _,_=>True
 | .vw j o n k,v=>s.kn j/\ ∀cs,s.bx j=some cs-> ∃c,v= .slice (some ⟨g j,o*k,none⟩) n c/\n<=c/\c<=9223372036854775807/\(o+n)*k<=cs.length
 | .vs j o n c k e,v=>s.kn j/\ ∀cs,s.bx j=some cs->v= .slice (some ⟨g j,o*k,none⟩) n c/\n<=c/\c<=9223372036854775807/\ ∃arr,w.heap[g j]? =some (.cells arr e (0,0))/\arr.size=(o+c)*k
def xY (S:Nat->Prop) (g:Nat->Nat) (s:AS) (w:World):AV->Value->Prop
 | .ow j n k e,v=>TV.M S g s w (.own j n k e) v
 | .bp j o,v=>TV.M S g s w (.box j o) v
 |_,_=>True
theorem II {S:Nat->Prop} {g:Nat->Nat} {s:AS} {w:World} {a:AV} {v:Value} (h:Fq a=true):xY S g s w a v:=by
 cases a with
 |ow=>cases h
 |bp=>cases h
 |val=>trivial
 |sl=>trivial
 |nl=>trivial
def mb (S:Nat->Prop) (g:Nat->Nat) (s:AS) (w:World) (j:Nat) (cs:List AV) (B:Nat):Prop:=∃(arr:Array Value) (e:TypeId),w.heap[B]? =some (.cells arr e (0,0))/\fK S w cs arr.toList/\(bL j=false-> ∀v∈arr.toList,gb v=true)/\(cM j=true-> ∀(i:Nat) (a:AV) (v:Value),cs[i]? =some a->arr.toList[i]? =some v->xY S g s w a v)/\(ib j=true->e=ww/\arr.size=2)
structure iX (s s':AS) (g g':Nat->Nat) (w w':World):Prop where
 kn:∀j,s.kn j->s'.kn j
 al:∀j cs',s.kn j->s'.bx j=some cs'-> ∃cs,s.bx j=some cs/\cs.length<=cs'.length/\g' j=g j/\ ∀arr e,w.heap[g j]? =some (.cells arr e (0,0))-> ∃arr',w'.heap[g j]? =some (.cells arr' e (0,0))/\arr'.size=arr.size
theorem CV.M.agree {g g':Nat->Nat} {s s':AS} {w w':World} {x:CV} {v:Value} (h:CV.M g s x v) (hg:iX s s' g g' w w'):CV.M g' s' x v:=by
 cases x with
 |val u=>exact h
 |box j o=>
  exact Ur
theorem qm.agree {g g':Nat->Nat} {s s':AS} {w w':World} (hg:iX s s' g g' w w'):∀{xs:List CV} {vs:List Value},qm g s xs vs->qm g' s' xs vs
 | [],[],_=>trivial
 |_::_,_::_,h=>⟨CV.M.agree h.1 hg,qm.agree hg h.2⟩
 | [],_::_,h=>h.elim
 |_::_,[],h=>h.elim
theorem TV.M.agree {S S':Nat->Prop} {g g':Nat->Nat} {s s':AS} {w w':World} {x:TV} {v:Value} (h:TV.M S g s w x v) (hb:bY S w w') (hS:∀b,b<w.heap.size->S' b->S b)
 (hg:iX s s' g g' w w'):TV.M S' g' s' w' x v:=by
 cases x with
 |d x=>exact DV.M.agree h hb hS
 |tup ts=>obtain⟨vs,e,hl,hc⟩:=h;exact⟨vs,e,hl,fun i x u h1 h2=>(hc i x u h1 h2).agree hb hS⟩
 |box j o=>
  exact Ur
 |rp cs=>obtain⟨b,off,f,e,hn,hl,h1,h2⟩:=h;exact⟨b,off,f,e,fun h=>hn (hS _ hl h),k_ hl hb.size,fun i a hi=>(World.cell?_of_block (hb.blk _ hl hn)).trans (h1 i a hi),fun i a hi=>(h2 i a hi).agree hb hS⟩
 |own j n k e=>
  obtain⟨hk,h⟩:=h;refine⟨hg.kn j hk,fun cs' hc=>?_⟩;obtain⟨cs,h1,h2,h3,h4⟩:=hg.al j cs' hk hc;obtain⟨c,e1,e2,e3,e4,arr,e5,e6⟩:=h cs h1;obtain⟨arr',e7,e8⟩:=h4 arr e e5;exact⟨c,by rw[e1,h3],e2,e3,V_ e4 h2,arr',by rw[h3];exact e7,e8.trans e6⟩
 |clo fn fs cs=>obtain⟨us,vs,e,h1,h2⟩:=h;exact⟨us,vs,e,h1.agree hg,h2.agree hg⟩
 |mp es=>
  obtain⟨r,ents,clk,e,h1,h2,h3⟩:=h;have hr:r<w.heap.size:=(A_.1 h1).1
  exact⟨r,ents,clk,e,(hb.blk r hr h2).trans h1,fun h=>h2 (hS r hr h),h3⟩
 |nil=>exact h
 |und=>exact h
 |junk=>trivial
 |dfr=>trivial
 |vw j o n k=>
  obtain⟨hk,h⟩:=h;refine⟨hg.kn j hk,fun cs' hc=>?_⟩;obtain⟨cs,h1,h2,h3,_⟩:=hg.al j cs' hk hc;obtain⟨c,e1,e2,e3,e4⟩:=h cs h1;exact⟨c,by rw[e1,h3],e2,e3,V_ e4 h2⟩
 |vs j o n c k e=>
  obtain⟨hk,h⟩:=h;refine⟨hg.kn j hk,fun cs' hc=>?_⟩;obtain⟨cs,h1,_,h3,h4⟩:=hg.al j cs' hk hc;obtain⟨e1,e2,e3,arr,e5,e6⟩:=h cs h1;obtain⟨arr',e7,e8⟩:=h4 arr e e5;exact⟨by rw[e1,h3],e2,e3,arr',by rw[h3];exact e7,e8.trans e6⟩
theorem xY.agree {S S':Nat->Prop} {g g':Nat->Nat} {s s':AS} {w w':World} {x:AV} {v:Value} (h:xY S g s w x v) (hb:bY S w w') (hS:∀b,b<w.heap.size->S' b->S b)
 (hg:iX s s' g g' w w'):xY S' g' s' w' x v:=by
 cases x with
 |ow=>exact TV.M.agree (x:= .own _ _ _ _) h hb hS hg
 |bp=>exact TV.M.agree (x:= .box _ _) h hb hS hg
 |val=>trivial
 |sl=>trivial
 |nl=>trivial
theorem qm.sameB {g:Nat->Nat} {s s':AS} (hb:s'.b=s.b):∀{xs:List CV} {vs:List Value},qm g s xs vs->qm g s' xs vs
 | [],[],_=>trivial
 | .val u::xs,v::vs,h=>⟨h.1,qm.sameB hb h.2⟩
 | .box j o::xs,v::vs,h=>by
  have e:∀j,s'.bx j=s.bx j:=fun j=>by unfold AS.bx;rw[hb]
  exact⟨⟨by have:=h.1.1;unfold AS.kn at *;rw[hb];exact this,fun cs hc=>h.1.2 cs (by rw[<- e];exact hc)⟩,qm.sameB hb h.2⟩
 | [],_::_,h=>h.elim
 |_::_,[],h=>h.elim
theorem TV.M.sameB {S:Nat->Prop} {g:Nat->Nat} {s s':AS} {w:World} {x:TV} {v:Value} (h:TV.M S g s w x v) (hb:s'.b=s.b):TV.M S g s' w x v:=by
 have e:∀j,s'.bx j=s.bx j:=fun j=>by unfold AS.bx;rw[hb]
 cases x with
 |d x=>exact h
 |tup ts=>exact h
 |box j o=>exact⟨by have:=h.1;unfold AS.kn at *;rw[hb];exact this,fun cs hc=>h.2 cs (by rw[<- e];exact hc)⟩
 |rp cs=>exact h
 |own j n k e0=>exact⟨by have:=h.1;unfold AS.kn at *;rw[hb];exact this,fun cs hc=>h.2 cs (by rw[<- e];exact hc)⟩
 |clo fn fs cs=>obtain⟨us,vs,e,h1,h2⟩:=h;exact⟨us,vs,e,h1.sameB hb,h2.sameB hb⟩
 |mp es=>exact h
 |nil=>exact h
 |und=>exact h
 |junk=>trivial
 |dfr=>trivial
 |vw j o n k=>exact⟨by have:=h.1;unfold AS.kn at *;rw[hb];exact this,fun cs hc=>h.2 cs (by rw[<- e];exact hc)⟩
 |vs j o n c k e0=>exact⟨by have:=h.1;unfold AS.kn at *;rw[hb];exact this,fun cs hc=>h.2 cs (by rw[<- e];exact hc)⟩
def DK:Nat:=1000000000
def AI (g:Nat->Nat) (s:AS):TV->List Deferred->List Deferred->Prop
 | .dfr f cs,ds,d0=>∃vs:List Value,ds=⟨.fn (.func f) #[],vs.toArray⟩::d0/\qm g s cs vs
 |_,ds,d0=>ds=d0
def pf:TV->Bool
 | .dfr _ _=>false
 |_=>true
theorem AI.agree {g g':Nat->Nat} {s s':AS} {w w':World} {x:TV} {ds d0:List Deferred} (h:AI g s x ds d0) (hg:iX s s' g g' w w'):AI g' s' x ds d0:=by
 cases x with
 |dfr f cs=>obtain⟨vs,e,h1⟩:=h;exact⟨vs,e,h1.agree hg⟩
 |_=>exact h
theorem AI.sameB {g:Nat->Nat} {s s':AS} {x:TV} {ds d0:List Deferred} (h:AI g s x ds d0) (hb:s'.b=s.b):AI g s' x ds d0:=by
 cases x with
 |dfr f cs=>obtain⟨vs,e,h1⟩:=h;exact⟨vs,e,h1.sameB hb⟩
 |_=>exact h
theorem AI.no {g:Nat->Nat} {s:AS} {x:TV} {ds d0:List Deferred} (hx:pf x=true):AI g s x ds d0↔ds=d0:=by
 cases x with
 |dfr f cs=>cases hx
 |_=>exact Iff.rfl
theorem xD (a:Act) (d:Option Nat) (v:Value):(a.put d v).defers=a.defers:=by cases d<;>rfl
theorem qP {t:List (Nat × TV)} {b b':List (Nat × Option (List AV))} {d k n:Nat} {x:TV} (hd:d<n) (hn:n<=k):(AS.mk ((d,x)::t) b).tv k=(AS.mk t b').tv k:=by
 simp only[AS.tv,au x t (show d≠k by omega)]
structure MG (n:Nat) (S0:Nat->Prop) (w0:eR) (g:Nat->Nat) (s:AS) (a:Act) (w:World):Prop where
 tm:∀k,TV.M (Own S0 g s) g s w (s.tv k) (a.tmps.getD k undef)
 bm:∀j cs,s.bx j=some cs->(w0.heap.size<=g j∨w0.x (g j))/\mb (Own S0 g s) g s w j cs (g j)
 inj:∀i j ci cj,s.bx i=some ci->s.bx j=some cj->g i=g j->i=j
 grow:cR w0.x w0.w w
 df:AI g s (s.tv DK) a.defers w0.d
 sz:a.tmps.size=n
 cl:∀b,S0 b->b<w0.heap.size/\ ¬w0.x b/\ ∀off v,w0.w.cell? ⟨b,off,none⟩=some v->gb v=true
 tg:Nc w0
 gl:∀k cs,ap GT k=some cs->TV.M (Own S0 g s) g s w (.rp cs) (.pointer (some ⟨k,0,none⟩))
 gp:∀j q cs,iF j=true->w0.p j=some q->s.bx j=some cs->g j=q
 nk:n<=DK
def M (n:Nat) (S0:Nat->Prop) (w0:eR) (s:AS) (a:Act) (w:World):Prop:=∃g,MG n S0 w0 g s a w
def jJ (s:AS):Prop:=∀j cs,s.bx j=some cs->bL j=false
def xl (x:Nat):List Nat->Bool
 | []=>false
 |y::r=>match Nat.beq y x with
  |true=>true
  |false=>xl x r
theorem jZ {x:Nat}:∀{l:List Nat},xl x l=true↔x∈l
 | []=>by simp[xl]
 |y::r=>by
  simp only[xl,f_]
  cases h:Nat.beq y x
  ·have:y≠x:=fun e=>by subst e;simp at h
   simp only[jZ (l:=r)]
   constructor
   ·exact .inr
   ·rintro(e|e)
    ·exact absurd e.symm this
    ·exact e
  ·have:=Nat.eq_of_beq_eq_true h
   simp[this]
def Qm:Option (List AV)->Bool
 |some _=>true
 |none=>false
def dY:List Nat->List (Nat × Option (List AV))->Bool
 |_,[]=>true
 |seen,(j,o)::r=>(xl j seen || !(Qm o) || !(bL j)) && dY (j::seen) r
theorem kl:∀{seen:List Nat} {b:List (Nat × Option (List AV))},dY seen b=true-> ∀j cs,j ∉ seen->ap b j=some (some cs)->bL j=false
 |_,[],_,j,cs,_,h=>by cases h
 |seen,(i,o)::r,h,j,cs,hs,hl=>by
  simp only[dY,B_]at h
  by_cases e:i=j
  ·subst e
   rw[am]at hl;cases hl;have h1:=h.1
   have h2:xl i seen=false:=by
    cases hq:xl i seen
    ·rfl
    ·exact absurd (jZ.1 hq) hs
   rw[h2]at h1
   simpa[Qm]using h1
  ·rw[au _ _ e]at hl
   exact kl h.2 j cs (by simp[hs];exact fun h=>e h.symm) hl
theorem iZ {s:AS} (h:dY [] s.b=true):jJ s:=by
 intro j cs hj;unfold AS.bx at hj
 split at hj
 ·rename_i x hx
  cases hj;exact kl h j _ S_ hx
 ·cases hj
theorem mb.lt {S:Nat->Prop} {g:Nat->Nat} {s:AS} {w:World} {j:Nat} {cs:List AV} {B:Nat} (h:mb S g s w j cs B):B<w.heap.size:=by
 obtain⟨arr,e,h,_⟩:=h;exact(A_.1 h).1
theorem mb.agree {S S':Nat->Prop} {g g':Nat->Nat} {s s':AS} {w w':World} {j:Nat} {cs:List AV} {B:Nat} (h:mb S g s w j cs B) (hB:w'.heap[B]? =w.heap[B]?) (hb:bY S w w') (hS:∀b,b<w.heap.size->S' b->S b) (hg:iX s s' g g' w w'):mb S' g' s' w' j cs B:=by
 obtain⟨arr,e,h1,h2,h3,h4,h5⟩:=h;exact⟨arr,e,hB.trans h1,h2.agree hb hS,h3,fun hl i a v ha hv=>(h4 hl i a v ha hv).agree hb hS hg,h5⟩
section
variable {n:Nat} {S0:Nat->Prop} {w0:eR} {g:Nat->Nat} {s:AS} {a:Act} {w w':World}
theorem iX.same (hb:Below w.heap.size w w') {s':AS} (hs:s'.b=s.b):iX s s' g g w w':=by
 have e1:∀j,s'.bx j=s.bx j:=fun j=>by unfold AS.bx;rw[hs]
 refine⟨fun j hj=>by unfold AS.kn at *;rw[hs];exact hj,fun j cs' _ hc=>?_⟩;rw[e1]at hc;exact⟨cs',hc,l_ _,rfl,fun arr e he=>⟨arr,(hb.block _ (A_.1 he).1).trans he,rfl⟩⟩
theorem MG.put (h:MG n S0 w0 g s a w) {d:Nat} (hd:d<n) {x:TV} {v:Value} (hb:Below w.heap.size w w') (hx:TV.M (Own S0 g s) g s w' x v):MG n S0 w0 g { s with t:=(d,x)::s.t } (a.put (some d) v) w':=by
 have e:Own S0 g { s with t:=(d,x)::s.t }=Own S0 g s:=rfl;refine⟨fun k=>?_,fun j cs hj=>?_,h.inj,h.grow.step hb,by rw[xD,qP (b':=s.b) hd h.nk];exact h.df.sameB rfl,by simpa[Act.put]using h.sz,h.cl,h.tg,fun k cs hk=>(h.gl k cs hk).agree (.of_below hb) (fun _ _ h=>h) (iX.same hb rfl),h.gp,h.nk⟩
 ·by_cases hk:d=k
  ·subst hk
   have h1:(AS.mk ((d,x)::s.t) s.b).tv d=x:=by simp[AS.tv,am]
   rw[h1];have h2:(a.put (some d) v).tmps.getD d undef=v:=by simp[Act.put,h.sz,hd]
   rw[h2];exact hx.sameB rfl
  ·have h1:(AS.mk ((d,x)::s.t) s.b).tv k=s.tv k:=by simp[AS.tv,au _ _ hk]
   rw[h1];have h2:(a.put (some d) v).tmps.getD k undef=a.tmps.getD k undef:=by simp[Act.put,Array.getElem?_setIfInBounds_ne hk]
   rw[h2];exact(h.tm k).agree (.of_below hb) (fun _ _ h=>h) (iX.same hb rfl)
 ·exact UZ
theorem MG.grow' (h:MG n S0 w0 g s a w) (hb:Below w.heap.size w w'):MG n S0 w0 g s a w':=by
 refine⟨fun k=>(h.tm k).agree (.of_below hb) (fun _ _ h=>h) (iX.same hb rfl),fun j cs hj=>?_,h.inj,h.grow.step hb,h.df,h.sz,h.cl,h.tg,fun k cs hk=>(h.gl k cs hk).agree (.of_below hb) (fun _ _ h=>h) (iX.same hb rfl),h.gp,h.nk⟩;exact UZ
theorem MG.clean (h:MG n S0 w0 g s a w) (hcl:jJ s):∀b,Own S0 g s b->b<w.heap.size/\ ∀off v,w.cell? ⟨b,off,none⟩=some v->gb v=true:=by
 rintro b (hb| ⟨j,cs,hj,rfl⟩)
 ·obtain⟨h1,hx,h2⟩:=h.cl b hb
  exact⟨k_ h1 h.grow.size,fun off v hv=>h2 off v (by rw[show w.cell? ⟨b,off,none⟩=w0.w.cell? ⟨b,off,none⟩ from World.cell?_of_block (h.grow.block b h1 hx)]at hv;exact hv)⟩
 ·obtain⟨_,hB⟩:=h.bm j cs hj
  refine⟨hB.lt,fun off v hv=>?_⟩;obtain⟨arr,e,h1,_,h3,_⟩:=hB
  simp only[World.cell?,h1]at hv
  simp only[Option.isSome_none,Bool.false_eq_true,if_false]at hv
  exact h3 (hcl j cs hj) v (Array.mem_toList_iff.2 (Array.mem_of_getElem? hv))
theorem MG.own_lt (h:MG n S0 w0 g s a w) {b:Nat} (hb:Own S0 g s b):b<w.heap.size:=by
 rcases hb with hb| ⟨j,cs,hj,rfl⟩
 ·exact k_ (h.cl b hb).1 h.grow.size
 ·exact(h.bm j cs hj).2.lt
theorem MG.alloc (h:MG n S0 w0 g s a w) {d:Nat} (hd:d<n) {j:Nat} (hj:ap s.b j=none) (hrv:iF j=false) {cs:List AV} {arr:Array Value} {e:TypeId} (hc:fK (Own S0 g s) w cs arr.toList) (hw:bL j=false-> ∀v∈arr.toList,gb v=true) (hl:∀a∈cs,Fq a=true) (htb:ib j=true->e=ww/\arr.size=2) {x:TV} {v:Value}
 (hx:∀(g':Nat->Nat) (s':AS),g' j=w.heap.size->s'.bx j=some cs->TV.M (Own S0 g' s') g' s' (w.alloc (.cells arr e)) x v):
 MG n S0 w0 (fun i=>if i=j then w.heap.size else g i) { t:=(d,x)::s.t,b:=(j,some cs)::s.b } (a.put (some d) v) (w.alloc (.cells arr e)):=by
 have hb:Below w.heap.size w (w.alloc (.cells arr e)):=(Below.refl _ _).alloc (l_ _) _;generalize hs':(AS.mk ((d,x)::s.t) ((j,some cs)::s.b))=s';generalize hg':(fun i=>if i=j then w.heap.size else g i)=g';have gj:g' j=w.heap.size:=by rw[<- hg'];simp
 have kj:∀i,s.kn i->i≠j:=fun i hi e=>by obtain⟨y,hy⟩:=hi;rw[e,hj]at hy;cases hy
 have go:∀i,i≠j->g' i=g i:=fun i hi=>by rw[<- hg'];simp[hi]
 have bj:s'.bx j=some cs:=by rw[<- hs'];exact AS.bx_same _ _ _ _
 have bo:∀i,i≠j->s'.bx i=s.bx i:=fun i hi=>by rw[<- hs'];exact AS.bx_ne _ s.t _ _ hi
 have hS:∀b,b<w.heap.size->Own S0 g' s' b->Own S0 g s b:=by
  rintro b hlt (h0| ⟨i,ci,hi,e⟩)
  ·exact .inl h0
  ·by_cases hij:i=j
   ·subst hij;rw[gj]at e;omega
   ·rw[go i hij]at e;exact .inr ⟨i,ci,by rw[<- bo i hij];exact hi,e⟩
 have hgr:iX s s' g g' w (w.alloc (.cells arr e)):=by
  refine⟨fun i hi=>by rw[<- hs'];exact AS.kn_cons (t:=s.t) _ hi,fun i cs' hi hc'=>?_⟩;rw[bo i (kj i hi)]at hc';exact⟨cs',hc',l_ _,go i (kj i hi),fun arr' e' he=>⟨arr',(hb.block _ (A_.1 he).1).trans he,rfl⟩⟩
 refine⟨fun k=>?_,fun i ci hi=>?_,fun i k ci ck hi hk e=>?_,h.grow.step hb,by rw[xD,<- hs',qP (b':=s.b) hd h.nk,hs'];exact h.df.agree hgr,by simpa[Act.put]using h.sz,h.cl,h.tg,fun k cs hk=>(h.gl k cs hk).agree (.of_below hb) hS hgr,fun i q ci h1 h2 hi=>by
  have hij:i≠j:=fun e=>by subst e;rw[hrv]at h1;cases h1
  rw[go i hij];exact h.gp i q ci h1 h2 (by rw[<- bo i hij];exact hi),h.nk⟩
 ·by_cases hk:d=k
  ·subst hk
   have h1:s'.tv d=x:=by rw[<- hs'];simp[AS.tv,am]
   rw[h1];have h2:(a.put (some d) v).tmps.getD d undef=v:=by simp[Act.put,h.sz,hd]
   rw[h2];exact hx g' s' gj bj
  ·have h1:s'.tv k=s.tv k:=by rw[<- hs'];simp[AS.tv,au _ _ hk]
   rw[h1];have h2:(a.put (some d) v).tmps.getD k undef=a.tmps.getD k undef:=by simp[Act.put,Array.getElem?_setIfInBounds_ne hk]
   rw[h2];exact(h.tm k).agree (.of_below hb) hS hgr
 ·by_cases hij:i=j
  ·subst hij
   rw[bj]at hi;cases hi;rw[gj];refine⟨.inl h.grow.size,arr,e,?_,hc.agree (.of_below hb) hS,hw,fun _ i a v ha _=>II (hl a (M_ ha)),htb⟩;show(w.heap.push _)[w.heap.size]? =_
   simp
  ·rw[bo i hij]at hi
   rw[go i hij];obtain⟨h1,h2⟩:=h.bm i ci hi;exact⟨h1,h2.agree (hb.block _ h2.lt) (.of_below hb) hS hgr⟩
 ·by_cases hij:i=j
  ·by_cases hkj:k=j
   ·rw[hij,hkj]
   ·rw[hij,gj,go k hkj]at e
    rw[bo k hkj]at hk;have:=(h.bm k ck hk).2.lt;omega
  ·rw[go i hij]at e
   rw[bo i hij]at hi
   by_cases hkj:k=j
   ·rw[hkj,gj]at e
    have:=(h.bm i ci hi).2.lt;omega
   ·rw[go k hkj]at e
    rw[bo k hkj]at hk;exact h.inj i k ci ck hi hk e
theorem MG.store (h:MG n S0 w0 g s a w) {j:Nat} {cs cs':List AV} (hj:s.bx j=some cs) {arr0 arr:Array Value} {e:TypeId} (hsz:w'.heap.size=w.heap.size) (ho:w'.os=w.os/\w'.tape=w.tape/\w'.output=w.output) (hB0:w.heap[g j]? =some (.cells arr0 e (0,0)))
 (hB:w'.heap[g j]? =some (.cells arr e (0,0))) (hle:arr.size=arr0.size) (hoth:∀b,b≠g j->w'.heap[b]? =w.heap[b]?) (hlc:cs.length<=cs'.length) (hc:fK (Own S0 g s) w cs' arr.toList) (hw:bL j=false-> ∀v∈arr.toList,gb v=true) (hl:cM j=true-> ∀(i:Nat) (a:AV) (v:Value),cs'[i]? =some a->arr.toList[i]? =some v->xY (Own S0 g s) g s w a v):
 MG n S0 w0 g { s with b:=(j,some cs')::s.b } a w':=by
 have own:Own S0 g s (g j):= .inr ⟨j,cs,hj,rfl⟩;have hA:bY (Own S0 g s) w w':=⟨by omega,fun b _ hn=>hoth b (fun e=>hn (by rw[e];exact own))⟩;generalize hs':(AS.mk s.t ((j,some cs')::s.b))=s';have bj:s'.bx j=some cs':=by rw[<- hs'];exact AS.bx_same _ _ _ _
 have bo:∀i,i≠j->s'.bx i=s.bx i:=fun i hi=>by rw[<- hs'];exact AS.bx_ne _ s.t _ _ hi
 have st:∀k,s'.tv k=s.tv k:=fun k=>by rw[<- hs'];rfl
 have hS:∀b,b<w.heap.size->Own S0 g s' b->Own S0 g s b:=by
  rintro b hlt (h0| ⟨i,ci,hi,e⟩)
  ·exact .inl h0
  ·by_cases hij:i=j
   ·subst hij;rw[<- e];exact own
   ·exact .inr ⟨i,ci,by rw[<- bo i hij];exact hi,e⟩
 have hgr:iX s s' g g w w':=by
  refine⟨fun i hi=>by rw[<- hs'];exact AS.kn_cons (t:=s.t) _ hi,fun i ci hi hc'=>?_⟩
  by_cases hij:i=j
  ·subst hij
   rw[bj]at hc';cases hc';exact⟨cs,hj,hlc,rfl,fun a1 e1 h1=>by rw[hB0]at h1;cases h1;exact⟨arr,hB,hle⟩⟩
  ·rw[bo i hij]at hc'
   exact⟨ci,hc',l_ _,rfl,fun a1 e1 h1=>⟨a1,(hoth _ (fun e=>hij (h.inj i j ci cs hc' hj e))).trans h1,rfl⟩⟩
 obtain⟨hjN,hjB⟩:=h.bm j cs hj
 refine⟨fun k=>by rw[st];exact(h.tm k).agree hA hS hgr,fun i ci hi=>?_,fun i k ci ck hi hk e=>?_,?_,by rw[st];exact h.df.agree hgr,h.sz,h.cl,h.tg,fun k cs hk=>(h.gl k cs hk).agree hA hS hgr,fun i q ci h1 h2 hi=>by
  by_cases hij:i=j
  ·subst hij;exact h.gp i q cs h1 h2 hj
  ·exact h.gp i q ci h1 h2 (by rw[<- bo i hij];exact hi),h.nk⟩
 ·by_cases hij:i=j
  ·subst hij
   rw[bj]at hi;cases hi;obtain⟨arr1,e1,k1,_,_,_,k5⟩:=hjB;rw[hB0]at k1;cases k1;exact⟨hjN,arr,e,hB,hc.agree hA hS,hw,fun hlb i a v ha hv=>(hl hlb i a v ha hv).agree hA hS hgr,fun ht=>⟨(k5 ht).1,hle.trans (k5 ht).2⟩⟩
  ·rw[bo i hij]at hi
   obtain⟨h1,h2⟩:=h.bm i ci hi;exact⟨h1,h2.agree (hoth _ (fun e=>hij (h.inj i j ci cs hi hj e))) hA hS hgr⟩
 ·have hi':∃c,s.bx i=some c:=by
   by_cases hij:i=j
   ·exact⟨cs,by rw[hij];exact hj⟩
   ·exact⟨ci,by rw[<- bo i hij];exact hi⟩
  have hk':∃c,s.bx k=some c:=by
   by_cases hkj:k=j
   ·exact⟨cs,by rw[hkj];exact hj⟩
   ·exact⟨ck,by rw[<- bo k hkj];exact hk⟩
  obtain⟨c1,hi'⟩:=hi';obtain⟨c2,hk'⟩:=hk';exact h.inj i k c1 c2 hi' hk' e
 ·refine h.grow.go (y:=fun b=>b=g j) ⟨ho.1,ho.2.1,ho.2.2,by omega,fun k _ hk=>hoth k hk,fun k _ hk a1 e1 f1 h1=>?_⟩ (fun b hb=>by subst hb;exact hjN)
  have hk:k=g j:=by assumption
  subst hk;rw[hB0]at h1;cases h1;exact⟨arr,_,hB,hle⟩
theorem MG.kill (h:MG n S0 w0 g s a w) (j:Nat):MG n S0 w0 g { s with b:=(j,none)::s.b } a w:=by
 generalize hs':(AS.mk s.t ((j,none)::s.b))=s';have bj:s'.bx j=none:=by rw[<- hs'];exact AS.bx_dead _ _ _
 have bo:∀i cs,s'.bx i=some cs->s.bx i=some cs:=fun i cs hi=>by
  by_cases hij:i=j
  ·rw[hij,bj]at hi;cases hi
  ·rw[<- hs',AS.bx_ne _ s.t _ _ hij]at hi;exact hi
 have st:∀k,s'.tv k=s.tv k:=fun k=>by rw[<- hs'];rfl
 have hS:∀b,b<w.heap.size->Own S0 g s' b->Own S0 g s b:=by
  rintro b _ (h0| ⟨i,ci,hi,e⟩)
  ·exact .inl h0
  ·exact .inr ⟨i,ci,bo i ci hi,e⟩
 refine⟨fun k=>by rw[st];exact(h.tm k).agree (bY.refl _ _) hS ⟨fun i hi=>by rw[<- hs'];exact AS.kn_cons (t:=s.t) _ hi,fun i ci _ hc=>⟨ci,bo i ci hc,l_ _,rfl,fun a1 e1 h1=>⟨a1,h1,rfl⟩⟩⟩,fun i ci hi=>?_,fun i k ci ck hi hk e=>h.inj i k ci ck (bo i ci hi) (bo k ck hk) e,h.grow,by rw[st];exact h.df.agree (w:=w) (w':=w) ⟨fun i hi=>by rw[<- hs'];exact AS.kn_cons (t:=s.t) _ hi,fun i ci _ hc=>⟨ci,bo i ci hc,l_ _,rfl,fun a1 e1 h1=>⟨a1,h1,rfl⟩⟩⟩,h.sz,h.cl,h.tg,fun k cs hk=>(h.gl k cs hk).agree (bY.refl _ _) hS ⟨fun i hi=>by rw[<- hs'];exact AS.kn_cons (t:=s.t) _ hi,fun i ci _ hc=>⟨ci,bo i ci hc,l_ _,rfl,fun a1 e1 h1=>⟨a1,h1,rfl⟩⟩⟩,fun i q ci h1 h2 hi=>h.gp i q ci h1 h2 (bo i ci hi),h.nk⟩;obtain⟨h1,h2⟩:=h.bm i ci (bo i ci hi)
 exact⟨h1,h2.agree rfl (bY.refl _ _) hS ⟨fun i hi=>by rw[<- hs'];exact AS.kn_cons (t:=s.t) _ hi,fun i ci _ hc=>⟨ci,bo i ci hc,l_ _,rfl,fun a1 e1 h1=>⟨a1,h1,rfl⟩⟩⟩⟩
def fB:Option Nat->List (Nat × Option (List AV))->List (Nat × Option (List AV))
 |some j,b=>(j,none)::b
 |none,b=>b
theorem MG.append (h:MG n S0 w0 g s a w) {d:Nat} (hd:d<n) {j':Nat} (hj':ap s.b j'=none) (hrv:iF j'=false) (hlb:cM j'=false) {dead:Option Nat} {B:Nat} {cs:List AV} {arr:Array Value} {e m k c:Nat}
 (hdead:∀j,dead=some j-> ∃cj,s.bx j=some cj) (hsz:w.heap.size<=w'.heap.size) (ho:w'.os=w.os/\w'.tape=w.tape/\w'.output=w.output)
 (hoth:∀b,b<w.heap.size->(∀j,dead=some j->b≠g j)->w'.heap[b]? =w.heap[b]?) (hshp:∀j,dead=some j-> ∀a1 e1,w.heap[g j]? =some (.cells a1 e1 (0,0))-> ∃a2,w'.heap[g j]? =some (.cells a2 e1 (0,0))/\a2.size=a1.size) (hB:w'.heap[B]? =some (.cells arr e (0,0))) (hwb:bL j'=false-> ∀v∈arr.toList,gb v=true) (hBB:(∃j,dead=some j/\B=g j)∨w.heap.size<=B) (hc:fK (Own S0 g s) w cs arr.toList)
 (h1:m<=c) (h2:c<=9223372036854775807) (h3:m*k<=cs.length) (h4:arr.size=c*k):
 MG n S0 w0 (fun i=>if i=j' then B else g i) { t:=(d, .own j' m k e)::s.t,b:=(j',some cs)::fB dead s.b } (a.put (some d) (.slice (some ⟨B,0,none⟩) m c)) w':=by
 have hA:bY (Own S0 g s) w w':=⟨hsz,fun b hb hn=>hoth b hb (fun j hj e=>by obtain⟨cj,hcj⟩:=hdead j hj;exact hn (.inr ⟨j,cj,hcj,e.symm⟩))⟩;generalize hbb:fB dead s.b=bb;generalize hs':(AS.mk ((d,TV.own j' m k e)::s.t) ((j',some cs)::bb))=s';generalize hg':(fun i=>if i=j' then B else g i)=g';have gj:g' j'=B:=by rw[<- hg'];simp
 have kj:∀i,s.kn i->i≠j':=fun i hi e=>by obtain⟨y,hy⟩:=hi;rw[e,hj']at hy;cases hy
 have go:∀i,i≠j'->g' i=g i:=fun i hi=>by rw[<- hg'];simp[hi]
 have bj:s'.bx j'=some cs:=by rw[<- hs'];exact AS.bx_same _ _ _ _
 have bo:∀i ci,i≠j'->s'.bx i=some ci->s.bx i=some ci/\dead≠some i:=by
  intro i ci hi hc;rw[<- hs',AS.bx_ne _ s.t _ _ hi,<- hbb]at hc;cases dead with
  |none=>exact⟨hc,by simp⟩
  |some j=>
   simp only[fB]at hc
   by_cases e:i=j
   ·subst e;rw[AS.bx_dead]at hc;cases hc
   ·rw[AS.bx_ne _ s.t _ _ e]at hc;exact⟨hc,by simpa using fun h=>e h.symm⟩
 have hS:∀b,b<w.heap.size->Own S0 g' s' b->Own S0 g s b:=by
  rintro b hlt (h0| ⟨i,ci,hi,e⟩)
  ·exact .inl h0
  ·by_cases hij:i=j'
   ·subst hij
    rw[gj]at e;rcases hBB with⟨j,hj,hBj⟩|hBB
    ·obtain⟨cj,hcj⟩:=hdead j hj;exact .inr ⟨j,cj,hcj,by rw[<- hBj,e]⟩
    ·omega
   ·rw[go i hij]at e;exact .inr ⟨i,ci,(bo i ci hij hi).1,e⟩
 have far:∀i ci,s.bx i=some ci->dead≠some i-> ∀j,dead=some j->g i≠g j:=fun i ci hi hne j hj e=>by
  obtain⟨cj,hcj⟩:=hdead j hj;have:=h.inj i j ci cj hi hcj e;exact hne (by rw[hj,this])
 have hgr:iX s s' g g' w w':=by
  refine⟨fun i hi=>?_,fun i ci hi hc'=>?_⟩
  ·rw[<- hs',<- hbb]
   cases dead with
   |none=>exact AS.kn_cons (t:=s.t) _ hi
   |some j=>exact AS.kn_cons (t:=s.t) _ (AS.kn_cons (t:=s.t) _ hi)
  ·obtain⟨h5,h6⟩:=bo i ci (kj i hi) hc'
   exact⟨ci,h5,l_ _,go i (kj i hi),fun a1 e1 hh=>⟨a1,(hoth _ (A_.1 hh).1 (far i ci h5 h6)).trans hh,rfl⟩⟩
 refine⟨fun q=>?_,fun i ci hi=>?_,fun i q ci cq hi hq e=>?_,?_,by rw[xD,<- hs',qP (b':=s.b) hd h.nk,hs'];exact h.df.agree hgr,by simpa[Act.put]using h.sz,h.cl,h.tg,fun k cs hk=>(h.gl k cs hk).agree hA hS hgr,fun i q ci h1 h2 hi=>by
  have hij:i≠j':=fun e=>by subst e;rw[hrv]at h1;cases h1
  rw[go i hij];exact h.gp i q ci h1 h2 (bo i ci hij hi).1,h.nk⟩
 ·by_cases hk:d=q
  ·subst hk
   have h5:s'.tv d= .own j' m k e:=by rw[<- hs'];simp[AS.tv,am]
   rw[h5];have h6:(a.put (some d) (.slice (some ⟨B,0,none⟩) m c)).tmps.getD d undef= .slice (some ⟨B,0,none⟩) m c:=by simp[Act.put,h.sz,hd]
   rw[h6];exact⟨AS.kn_of bj,fun cs' hcs'=>by rw[bj]at hcs';cases hcs';exact⟨c,by rw[gj],h1,h2,h3,arr,by rw[gj];exact hB,h4⟩⟩
  ·have h5:s'.tv q=s.tv q:=by rw[<- hs'];simp[AS.tv,au _ _ hk]
   rw[h5];have h6:(a.put (some d) (.slice (some ⟨B,0,none⟩) m c)).tmps.getD q undef=a.tmps.getD q undef:=by simp[Act.put,Array.getElem?_setIfInBounds_ne hk]
   rw[h6];exact(h.tm q).agree hA hS hgr
 ·by_cases hij:i=j'
  ·subst hij
   rw[bj]at hi;cases hi;rw[gj];refine⟨?_,arr,e,hB,hc.agree hA hS,hwb,fun hl=>absurd hl (by rw[hlb];decide),fun ht=>absurd (nB ht) (by rw[hlb];decide)⟩;rcases hBB with⟨j,hj,hBj⟩|hBB
   ·obtain⟨cj,hcj⟩:=hdead j hj;rw[hBj];exact(h.bm j cj hcj).1
   ·exact .inl (V_ h.grow.size hBB)
  ·obtain⟨h5,h6⟩:=bo i ci hij hi
   rw[go i hij];obtain⟨h7,h8⟩:=h.bm i ci h5;exact⟨h7,h8.agree (hoth _ h8.lt (far i ci h5 h6)) hA hS hgr⟩
 ·have other:∀i ci,i≠j'->s'.bx i=some ci->g i≠B:=by
   intro i ci hij hi e;obtain⟨h5,h6⟩:=bo i ci hij hi;rcases hBB with⟨j,hj,hBj⟩|hBB
   ·exact far i ci h5 h6 j hj (by rw[e,hBj])
   ·have:=(h.bm i ci h5).2.lt;omega
  by_cases hij:i=j'
  ·by_cases hqj:q=j'
   ·rw[hij,hqj]
   ·rw[hij,gj,go q hqj]at e
    exact absurd e.symm (other q cq hqj hq)
  ·rw[go i hij]at e
   by_cases hqj:q=j'
   ·rw[hqj,gj]at e
    exact absurd e (other i ci hij hi)
   ·rw[go q hqj]at e
    exact h.inj i q ci cq (bo i ci hij hi).1 (bo q cq hqj hq).1 e
 ·refine h.grow.go (y:=fun b=>∃j,dead=some j/\b=g j) ⟨ho.1,ho.2.1,ho.2.2,hsz,fun b hb hn=>hoth b hb (fun j hj e=>hn ⟨j,hj,e⟩),fun b hb ⟨j,hj,e0⟩ a1 e1 f1 h1=>?_⟩ (fun b ⟨j,hj,e0⟩=>?_)
  ·obtain⟨cj,hcj⟩:=hdead j hj
   obtain⟨_,a3,e3,h3,_⟩:=h.bm j cj hcj;rw[e0]at h1;have h1':=h1;rw[h3]at h1';cases h1';obtain⟨a2,h2,h4⟩:=hshp j hj _ _ h3;exact⟨a2,_,by rw[e0];exact h2,h4⟩
  ·obtain⟨cj,hcj⟩:=hdead j hj
   rw[e0];exact(h.bm j cj hcj).1
theorem xY.sameB {S:Nat->Prop} {g:Nat->Nat} {s s':AS} {w:World} {x:AV} {v:Value} (h:xY S g s w x v) (hb:s'.b=s.b):xY S g s' w x v:=by
 cases x with
 |ow=>exact TV.M.sameB (S:=S) (w:=w) (x:= .own _ _ _ _) h hb
 |bp=>exact TV.M.sameB (S:=S) (w:=w) (x:= .box _ _) h hb
 |val=>trivial
 |sl=>trivial
 |nl=>trivial
theorem mb.sameB {S:Nat->Prop} {g:Nat->Nat} {s s':AS} {w:World} {j:Nat} {cs:List AV} {B:Nat} (h:mb S g s w j cs B) (hb:s'.b=s.b):mb S g s' w j cs B:=by
 obtain⟨arr,e,h1,h2,h3,h4,h5⟩:=h;exact⟨arr,e,h1,h2,h3,fun hl i a v ha hv=>(h4 hl i a v ha hv).sameB hb,h5⟩
theorem MG.frz (h:MG n S0 w0 g s a w) {j m k e:Nat} {cs:List AV} {v:Value} (hm:TV.M (Own S0 g s) g s w (.own j m k e) v) (hj:s.bx j=some cs):AV.M (Own S0 g ⟨s.t,(j,none)::s.b⟩) w (.sl m cs) v:=by
 generalize hs1:(AS.mk s.t ((j,none)::s.b))=s1 at *;obtain⟨c,e1,e2,e3,e4,arr,e5,e6⟩:=hm.2 cs hj
 have hn:¬Own S0 g s1 (g j):=by
  rintro(h0| ⟨i,ci,hi,e⟩)
  ·have h8:=h.cl _ h0
   rcases(h.bm j cs hj).1 with h9|h9
   ·exact absurd h8.1 (Nat.not_lt.2 h9)
   ·exact h8.2.1 h9
  ·by_cases hij:i=j
   ·subst hij;rw[<- hs1,AS.bx_dead]at hi;cases hi
   ·rw[<- hs1,AS.bx_ne _ s.t _ _ hij]at hi
    exact hij (h.inj i j ci cs hi hj e)
 rw[e1];obtain⟨_,arr',e',h7,h8,_⟩:=h.bm j cs hj
 have hO:∀b,b<w.heap.size->Own S0 g s1 b->Own S0 g s b:=by
  rintro b _ (h0| ⟨i,ci,hi,e⟩)
  ·exact .inl h0
  ·by_cases hij:i=j
   ·subst hij;rw[<- hs1,AS.bx_dead]at hi;cases hi
   ·rw[<- hs1,AS.bx_ne _ s.t _ _ hij]at hi;exact .inr ⟨i,ci,hi,e⟩
 have hl:=h8.1
 simp only[Array.length_toList]at hl
 refine AV.M.sl (fun i=>arr'.getD i undef) e2 e3 hn (h.bm j cs hj).2.lt (fun i x hi=>?_) (fun i x hi=>?_)
 ·have:i<arr'.size:=k_ (G_.1 hi).1 hl
  rw[J_]
  simp[World.cell?,h7,this]
 ·have:i<arr'.size:=k_ (G_.1 hi).1 hl
  exact(h8.2 i x _ hi (by simp[this])).agree (bY.refl _ _) hO
theorem MG.freeze (h:MG n S0 w0 g s a w) {q j m k e:Nat} {cs:List AV} (hq:s.tv q= .own j m k e) (hj:s.bx j=some cs):MG n S0 w0 g { t:=(q, .d (.leaf (.sl m cs)))::s.t,b:=(j,none)::s.b } a w:=by
 have hkill:=h.kill j;have hm:=h.tm q;rw[hq]at hm;have hx:=h.frz hm hj;generalize hs1:(AS.mk s.t ((j,none)::s.b))=s1 at *;have hsb:(AS.mk ((q, .d (.leaf (.sl m cs)))::s.t) ((j,none)::s.b)).b=s1.b:=by rw[<- hs1]
 have eO:Own S0 g (AS.mk ((q, .d (.leaf (.sl m cs)))::s.t) ((j,none)::s.b))=Own S0 g s1:=by rw[<- hs1];rfl
 refine⟨fun i=>?_,fun i ci hi=>?_,hkill.inj |> fun hb=>by rw[<- hs1]at hb;exact hb,h.grow,?_,h.sz,h.cl,h.tg,hkill.gl |> fun hb=>by rw[<- hs1]at hb;exact hb,hkill.gp |> fun hb=>by rw[<- hs1]at hb;exact hb,h.nk⟩
 ·rw[eO]
  by_cases hi:q=i
  ·subst hi
   have:(AS.mk ((q, .d (.leaf (.sl m cs)))::s.t) ((j,none)::s.b)).tv q= .d (.leaf (.sl m cs)):=by simp[AS.tv,am]
   rw[this];exact hx
  ·have:(AS.mk ((q, .d (.leaf (.sl m cs)))::s.t) ((j,none)::s.b)).tv i=s1.tv i:=by rw[<- hs1];simp[AS.tv,au _ _ hi]
   rw[this];exact(hkill.tm i).sameB hsb
 ·rw[eO]
  have hi':s1.bx i=some ci:=by rw[<- hs1];exact hi
  obtain⟨h1,h2⟩:=hkill.bm i ci hi';exact⟨h1,h2.sameB hsb⟩
 ·by_cases hd:q=DK
  ·have h0:(AS.mk ((q, .d (.leaf (.sl m cs)))::s.t) ((j,none)::s.b)).tv DK= .d (.leaf (.sl m cs)):=by rw[<- hd];simp[AS.tv,am]
   rw[h0];have h2:=h.df;rw[<- hd,hq]at h2;exact h2
  ·have h0:(AS.mk ((q, .d (.leaf (.sl m cs)))::s.t) ((j,none)::s.b)).tv DK=s1.tv DK:=by rw[<- hs1];simp[AS.tv,au _ _ hd]
   rw[h0];exact hkill.df.sameB hsb
theorem MG.recell (h:MG n S0 w0 g s a w) {i off:Nat} {cb:List AV} {b:AV} (hi:s.bx i=some cb) (hb:∀(arr:Array Value) (e:TypeId),w.heap[g i]? =some (.cells arr e (0,0))-> ∀v,off<cb.length->arr.toList[off]? =some v->AV.M (Own S0 g s) w b v/\(cM i=true->xY (Own S0 g s) g s w b v)):
 MG n S0 w0 g ⟨s.t,(i,some (cb.set off b))::s.b⟩ a w:=by
 obtain⟨_,arr,e0,h1,h2,h3,h4,_⟩:=h.bm i cb hi;refine h.store hi (w':=w) (cs':=cb.set off b) rfl ⟨rfl,rfl,rfl⟩ h1 h1 rfl (fun _ _=>rfl) S_ ⟨by simpa using h2.1,fun q x v hx hv=>?_⟩ h3 (fun hl q x v hx hv=>?_)
 ·rw[List.getElem?_set]at hx
  split at hx
  ·rename_i hoq
   subst hoq
   split at hx
   ·cases hx;exact(hb arr e0 h1 v (by assumption) hv).1
   ·cases hx
  ·exact h2.2 q x v hx hv
 ·rw[List.getElem?_set]at hx
  split at hx
  ·rename_i hoq
   subst hoq
   split at hx
   ·cases hx;exact(hb arr e0 h1 v (by assumption) hv).2 hl
   ·cases hx
  ·exact h4 hl q x v hx hv
theorem MG.freezeC (h:MG n S0 w0 g s a w) {i off j m k e:Nat} {cb cs:List AV} (hlb:cM i=true) (hi:s.bx i=some cb) (hq:cb[off]? =some (.ow j m k e)) (hj:s.bx j=some cs) (hij:i≠j):MG n S0 w0 g { s with b:=(i,some (cb.set off (.sl m cs)))::(j,none)::s.b } a w:=by
 have hkill:=h.kill j;obtain⟨_,arr,e0,h1,h2,h3,h4,_⟩:=h.bm i cb hi;refine hkill.recell (by rw[AS.bx_ne _ s.t _ _ hij];exact hi) fun arr' e1 k1 v hlt hv=>?_
 rw[h1]at k1
 injection k1 with k1
 injection k1 with k1 k1'
 subst k1 k1';exact⟨h.frz (h4 hlb off _ v hq hv) hj,fun _=>trivial⟩
end
structure Ty where
 agg:Bool
 size:Nat
 bytes:Nat
 zero:List AV
 flds:List (Nat × Nat × Bool)
 elem:Option (Nat × Nat)
 isBool:Bool
 isStr:Bool
 ik:Option IntKind
def AN:Value->Option AV
 | .bool b=>some (.val (.bool b))
 | .int k n=>some (.val (.int k n))
 | .string s=>some (.val (.string s))
 | .slice none 0 0=>some (.sl 0 [])
 |_=>none
def mv:TypeDesc->Bool
 | .struct _| .array _ _=>true
 |_=>false
def Jp (P:Program) (f:Field):Option (Nat × Nat × Bool):=
 match P.info? f.type,P.underlying f.type with
 |some i,some u=>match i.size with
  |0=>none
  |k+1=>some (f.offset,k+1,mv u)
 |_,_=>none
def iI {α β:Type} (f:α->Option β):List α->Option (List β)
 | []=>some []
 |x::xs=>match f x,iI f xs with
  |some y,some ys=>some (y::ys)
  |_,_=>none
def Db (P:Program):TypeDesc->Option (Nat × Nat)
 | .slice et=>match P.info? et with
  |some ei=>some (et,ei.size)
  |none=>none
 |_=>none
def LL (P:Program) (t:TypeId):Option Ty:=
 match P.info? t,P.underlying t with
 |some i,some u=>
  match i.zero with
  |some z=>match iI AN z.cells.toList with
   |some zs=>match Nat.beq zs.length i.size with
    |false=>none
    |true=>
     match(match u with| .struct fs=>iI (Jp P) fs.toList|_=>some [])with
     |some fl=>some ⟨mv u,i.size,i.bytes,zs,fl,Db P u,(match u with| .bool=>true|_=>false),(match u with| .string=>true|_=>false),(match u with| .int k=>some k|_=>none)⟩
     |none=>none
   |none=>none
  |none=>none
 |_,_=>none
theorem nf {α β:Type} {f:α->Option β}:∀{xs:List α} {ys:List β},iI f xs=some ys->xs.length=ys.length/\ ∀(i:Nat) (y:β),ys[i]? =some y-> ∃x,xs[i]? =some x/\f x=some y
 | [],ys,h=>by simp[iI]at h;subst h;exact⟨rfl,fun i y h=>by simp at h⟩
 |x::xs,ys,h=>by
  simp only[iI]at h
  cases h1:f x with
  |none=>rw[h1]at h;simp at h
  |some y=>
   cases h2:iI f xs with
   |none=>rw[h1,h2]at h;simp at h
   |some zs=>
    rw[h1,h2]at h
    simp at h
    subst h;obtain⟨hl,hg⟩:=nf h2;refine⟨by simp[hl],fun i u hu=>?_⟩;cases i with
    |zero=>simp at hu;subst hu;exact⟨x,rfl,h1⟩
    |succ i=>simpa using hg i u (by simpa using hu)
def Fo:AV->Bool
 | .val v=>gb v
 | .sl _ _=>true
 | .ow _ _ _ _=>false
 | .bp _ _=>false
 | .nl=>true
theorem QY {a:AV} (h:Fo a=true):Fq a=true:=by
 cases a with
 |ow=>cases h
 |bp=>cases h
 |val=>rfl
 |sl=>rfl
 |nl=>rfl
theorem Ox {S:Nat->Prop} {w:World} {a:AV} {v:Value} (h:AV.M S w a v) (hb:Fo a=true):gb v=true:=by
 cases h with
 |val h=>exact hb
 |emp=>rfl
 |sl=>rfl
 |ow=>cases hb
 |bp=>cases hb
 |nl=>rfl
def bB:List AV->Bool
 | []=>true
 |a::r=>match Fo a with
  |true=>bB r
  |false=>false
theorem lh:∀{cs:List AV},bB cs=true-> ∀a∈cs,Fq a=true
 | [],_,a,ha=>by cases ha
 |b::cs,hb,a,ha=>by
  simp only[bB]at hb
  cases h1:Fo b with
  |false=>rw[h1]at hb;cases hb
  |true=>
   rw[h1]at hb;rcases f_.1 ha with rfl|ha
   ·exact QY h1
   ·exact lh hb a ha
theorem jl {S:Nat->Prop} {w:World}:∀{cs:List AV} {vs:List Value},CM S w cs vs->bB cs=true-> ∀v∈vs,gb v=true
 | [],vs,h,_,v,hv=>by
  have:=h.1;cases vs with
  |nil=>cases hv
  |cons u us=>simp at this
 |a::cs,[],h,_,v,hv=>by cases hv
 |a::cs,u::us,h,hb,v,hv=>by
  simp only[bB]at hb
  cases h1:Fo a with
  |false=>rw[h1]at hb;cases hb
  |true=>
   rw[h1]at hb;rcases f_.1 hv with rfl|hv
   ·exact Ox (h.2 0 a v rfl rfl) h1
   ·exact jl (cs:=cs) (vs:=us) ⟨by have:=h.1;simpa using this,fun i a v h2 h3=>h.2 (i+1) a v (by simpa using h2) (by simpa using h3)⟩ hb v hv
structure a8 (P:Program) (t:TypeId) (d:Ty):Prop where
 size:(P.info? t).map (·.size)=some d.size
 bytes:(P.info? t).map (·.bytes)=some d.bytes
 und:∃u,P.underlying t=some u/\mv u=d.agg/\(∀et k,d.elem=some (et,k)->u= .slice et/\(P.info? et).map (·.size)=some k)/\(∀fs,u= .struct fs->d.flds.length=fs.size)/\(d.isBool=true->u= .bool)/\(d.isStr=true->u= .string)/\(∀k,d.ik=some k->u= .int k) /\
  (∀(f o k:Nat) (b:Bool),d.flds[f]? =some (o,k,b)-> ∃(fs:Array Field) (fd:Field) (fu:TypeDesc),u= .struct fs/\fs[f]? =some fd/\fd.offset=o/\(P.info? fd.type).map (·.size)=some k/\k≠0/\P.underlying fd.type=some fu/\mv fu=b)
 zero:∃z,(P.info? t).bind (·.zero)=some z/\ ∀S w,CM S w d.zero z.cells.toList
 zlen:d.zero.length=d.size
theorem FF {v:Value} {a:AV} (h:AN v=some a) (S:Nat->Prop) (w:World):AV.M S w a v:=by
 unfold AN at h
 split at h<;>simp at h<;>subst h
 ·exact .val rfl
 ·exact .val rfl
 ·exact .val rfl
 ·exact .emp (l_ _) O_ (fun _=>rfl)
theorem G3 {P:Program} {f:Field} {o k:Nat} {b:Bool} (h:Jp P f=some (o,k,b)):f.offset=o/\(P.info? f.type).map (·.size)=some k/\k≠0/\ ∃fu,P.underlying f.type=some fu/\mv fu=b:=by
 unfold Jp at h
 split at h
 ·rename_i i u h1 h2
  split at h
  ·cases h
  ·rename_i k' h3
   simp only[X_,Prod.mk.injEq]at h
   obtain⟨rfl,rfl,rfl⟩:=h;exact⟨rfl,by rw[h1];simp[h3],by omega,u,h2,rfl⟩
 ·cases h
theorem MB {P:Program} {t:TypeId} {d:Ty} (h:LL P t=some d):a8 P t d:=by
 unfold LL at h
 split at h
 ·rename_i i u h1 h2
  split at h
  ·rename_i z h3
   split at h
   ·rename_i zs h4
    split at h
    ·cases h
    rename_i hzl
    split at h
    ·rename_i fl h5
     simp only[X_]at h
     subst h;refine⟨by rw[h1];rfl,by rw[h1];rfl,⟨u,h2,rfl,fun et k he=>?_,fun fs hfs=>?_,fun hb=>?_,fun hb=>?_,fun k hk=>?_,fun f o k b hf=>?_⟩,⟨z,by rw[h1];exact h3,fun S w=>?_⟩,Nat.eq_of_beq_eq_true hzl⟩
     ·dsimp only at he
      unfold Db at he
      split at he
      ·rename_i et'
       split at he
       ·rename_i ei h6
        simp only[X_,Prod.mk.injEq]at he
        obtain⟨rfl,rfl⟩:=he;exact⟨rfl,by rw[h6];rfl⟩
       ·cases he
      ·cases he
     ·subst hfs
      have:=(nf h5).1
      simpa using this.symm
     ·dsimp only at hb
      split at hb
      ·rfl
      ·cases hb
     ·dsimp only at hb
      split at hb
      ·rfl
      ·cases hb
     ·dsimp only at hk
      split at hk
      ·rename_i k'
       simp only[X_]at hk
       rw[hk]
      ·cases hk
     ·dsimp only at hf
      split at h5
      ·rename_i fs
       obtain⟨x,hx,hy⟩:=(nf h5).2 f _ hf;obtain⟨e1,e2,e3,fu,e4,e5⟩:=G3 hy;exact⟨fs,x,fu,rfl,by simpa using hx,e1,e2,e3,e4,e5⟩
      ·simp only[X_]at h5
       rw[<- h5]at hf
       simp at hf
     ·obtain⟨hl,hg⟩:=nf h4
      exact⟨hl.symm,fun j a v h6 h7=>by
       obtain⟨x,hx,hy⟩:=hg j a h6;rw[h7]at hx;cases hx;exact FF hy S w⟩
    ·cases h
   ·cases h
  ·cases h
 ·cases h
structure r6 where
 tv:TV
 bx:Option (List (Nat × Option (List AV)))
def AS.eff (s:AS) (dst:Option Nat) (e:r6):AS:=
 ⟨match dst with
  |some d=>(d,e.tv)::s.t
  |none=>s.t,match e.bx with
  |some l=>l++s.b
  |none=>s.b⟩
def V3:Value->TV
 | .bool b=> .d (.leaf (.val (.bool b)))
 | .int k n=> .d (.leaf (.val (.int k n)))
 | .string s=> .d (.leaf (.val (.string s)))
 | .slice none 0 0=> .nil
 | .func f a b=> .d (.leaf (.val (.func f a b)))
 |_=> .junk
def AS.ev (s:AS):Operand->TV
 | .tmp k=>s.tv k
 | .const v=>V3 v
 | .func f=> .d (.leaf (.val (.func (.func f) #[] #[])))
 | .global k=>match ap GT k with
  |some cs=> .rp cs
  |none=> .junk
section
variable {P:Program} {n:Nat} {S0:Nat->Prop} {w0:eR} {g:Nat->Nat} {s:AS} {a:Act} {w w':World}
theorem bc {S:Nat->Prop} {u v:Value} (h:AV.M S w (.val v) u):u=v:=by cases h;rfl
theorem Tc {S:Nat->Prop} (v:Value):TV.M S g s w (V3 v) v:=by
 unfold V3
 split
 ·exact AV.M.val rfl
 ·exact AV.M.val rfl
 ·exact AV.M.val rfl
 ·rfl
 ·exact AV.M.val rfl
 ·trivial
theorem MG.ev (h:MG n S0 w0 g s a w) (x:Operand):TV.M (Own S0 g s) g s w (s.ev x) (a.eval x):=by
 cases x with
 |tmp k=>exact h.tm k
 |const v=>exact Tc v
 |func f=>exact AV.M.val rfl
 |global k=>
  simp only[AS.ev]
  cases hk:ap GT k with
  |none=>trivial
  |some cs=>exact h.gl k cs hk
def bE (P:Program) (o:Oper) (s:AS) (e:r6):Prop:=
 ∀(n:Nat) (S0:Nat->Prop) (w0:eR) (g:Nat->Nat) (a:Act) (w:World) (K:Act->World->Prop) (Q:Exit->Act->World->Prop),MG n S0 w0 g s a w->(∀d,o.dst=some d->d<n) ->
  (∀g' a' w',MG n S0 w0 g' (s.eff o.dst e) a' w'->K a' w')->o.wp P a w K Q
theorem ak {o:Oper} {tv:TV} (h:∀(n:Nat) (S0:Nat->Prop) (w0:eR) (g:Nat->Nat) (a:Act) (w:World),MG n S0 w0 g s a w ->
 ∃v w',(execOp a.eval o).run P w= .ok (.value v) w'/\Below w.heap.size w w'/\TV.M (Own S0 g s) g s w' tv v):bE P o s ⟨tv,none⟩:=by
 intro n S0 w0 g a w K Q hM hd hK;obtain⟨v,w',hr,hb,hv⟩:=h n S0 w0 g a w hM;unfold Oper.wp;rw[hr];show K (a.put o.dst v) w';cases ho:o.dst with
 |none=>exact hK g _ _ (by simp only[ho,AS.eff];exact hM.grow' hb)
 |some d=>
  have:=hM.put (hd d ho) hb hv;exact hK g _ _ (by simp only[ho,AS.eff];exact this)
theorem tT {o:Oper} {x:Operand} (ho:o.op= .move x∨o.op= .assign x):bE P o s ⟨s.ev x,none⟩:=by
 refine ak fun n S0 w0 g a w hM=>⟨a.eval x,w,?_,Below.refl _ _,hM.ev x⟩
 rcases ho with ho|ho<;>(unfold execOp;rw[ho];rfl)
def Lj:Bool->TV->TV->TV
 |true,x,_=>x
 |false,_,y=>y
theorem Bl {o:Oper} {c x y:Operand} {b:Bool} (ho:o.op= .pick c x y) (hc:s.ev c= .d (.leaf (.val (.bool b)))):bE P o s ⟨Lj b (s.ev x) (s.ev y),none⟩:=by
 refine ak fun n S0 w0 g a w hM=>⟨if b=true then a.eval x else a.eval y,w,?_,Below.refl _ _,?_⟩
 ·have hcv:=hM.ev c
  rw[hc]at hcv;have e:a.eval c= .bool b:=bc hcv;unfold execOp;rw[ho]
  simp only[e]
  rfl
 ·cases b
  ·exact hM.ev y
  ·exact hM.ev x
theorem Bp (h:MG n S0 w0 g s a w) {x:Operand} {j o:Nat} (hx:s.ev x= .box j o) {cs:List AV} (hj:s.bx j=some cs):a.eval x= .pointer (some ⟨g j,o,none⟩):=by
 have:=h.ev x;rw[hx]at this;exact this.2 cs hj
theorem a7 (h:MG n S0 w0 g s a w) {x:Operand} {v:Value} (hx:s.ev x= .d (.leaf (.val v))):a.eval x=v:=by
 have:=h.ev x;rw[hx]at this;exact bc this
def KE:TV->Option DV
 | .d dv=>some dv
 | .nil=>some (.leaf (.sl 0 []))
 |_=>none
theorem Iw {S:Nat->Prop} {tv:TV} {dv:DV} {v:Value} (h:KE tv=some dv) (hm:TV.M S g s w tv v):DV.M S w dv v:=by
 cases tv<;>simp[KE]at h
 ·subst h;exact hm
 ·subst h
  have:v= .slice none 0 0:=hm;rw[this];exact AV.M.emp (l_ _) O_ (fun _=>rfl)
theorem Av (h:MG n S0 w0 g s a w) {x:Operand} {dv:DV} (hx:KE (s.ev x)=some dv):DV.M (Own S0 g s) w dv (a.eval x):=Iw hx (h.ev x)
theorem kH {t:TypeId} {z:Value} (h:(P.info? t).bind (·.zero)=some z) (w:World):(zeroValue t).run P w= .ok z w:=by
 unfold zeroValue typeInfo;cases hq:P.info? t with
 |none=>rw[hq]at h;cases h
 |some i=>
  rw[hq]at h;have hz:i.zero=some z:=h
  simp[hq,hz]
theorem bJ {t:TypeId} {k:Nat} (h:(P.info? t).map (·.size)=some k) (w:World):(sizeOf t).run P w= .ok k w:=by
 unfold sizeOf typeInfo;cases hq:P.info? t with
 |none=>rw[hq]at h;cases h
 |some i=>
  rw[hq]at h;have hz:i.size=k:=by simpa using h
  simp[hq,hz]
theorem nM {t:TypeId} {u:TypeDesc} (h:P.underlying t=some u) (w:World):(isAgg t).run P w= .ok (mv u) w:=by
 unfold isAgg;rw[Y_,run_underlying h w];cases u<;>rfl
theorem oZ {o:Oper} {j:Nat} {cs:List AV} {d:Nat} (hd:o.dst=some d) (hj:ap s.b j=none/\iF j=false)
 (h:∀(n:Nat) (S0:Nat->Prop) (w0:eR) (g:Nat->Nat) (a:Act) (w:World),MG n S0 w0 g s a w-> ∃(arr:Array Value) (t:TypeId),(execOp a.eval o).run P w= .ok (.value (.pointer (some ⟨w.heap.size,0,none⟩))) (w.alloc (.cells arr t))/\CM (Own S0 g s) w cs arr.toList/\(ib j=true->t=ww/\arr.size=2))
 (hB:bB cs=true):bE P o s ⟨.box j 0,some [(j,some cs)]⟩:=by
 intro n S0 w0 g a w K Q hM hdn hK;obtain⟨arr,t,hr,hc,htb⟩:=h n S0 w0 g a w hM;unfold Oper.wp;rw[hr];show K (a.put o.dst _) _;have:=hM.alloc (d:=d) (hdn d hd) hj.1 hj.2 (e:=t) hc.cp (fun _=>jl hc hB) (lh hB) htb (x:= .box j 0) (v:= .pointer (some ⟨w.heap.size,0,none⟩)) (fun g' s' h1 h2=>⟨AS.kn_of h2,fun _ _=>by rw[h1]⟩);rw[hd]at hK ⊢;exact hK _ _ _ this
theorem pZ {o:Oper} {t:TypeId} {ty:Ty} {j d:Nat} (hT:a8 P t ty) (ho:o.op= .alloc t) (hd:o.dst=some d) (hj:ap s.b j=none/\iF j=false) (hB:bB ty.zero=true) (htb:ib j=true->t=ww/\ty.size=2):bE P o s ⟨.box j 0,some [(j,some ty.zero)]⟩:=by
 refine oZ hd hj (fun n S0 w0 g a w hM=>?_) hB;obtain⟨z,hz,hm⟩:=hT.zero;refine⟨z.cells,t,?_,hm _ w,fun h=>⟨(htb h).1,by have:=(hm (Own S0 g s) w).1;simp only[Array.length_toList]at this;rw[<- this,hT.zlen];exact(htb h).2⟩⟩;unfold execOp;rw[ho]
 simp only[Instr.alloc,Y_,kH hz w,R_]
 rfl
theorem Fm {o:Oper} {t:TypeId} {x:Operand} {dv:DV} {j d:Nat} (ho:o.op= .box t x) (hd:o.dst=some d) (hj:ap s.b j=none/\iF j=false) (hx:KE (s.ev x)=some dv) (hB:bB dv.cells=true) (htb:ib j=false):bE P o s ⟨.box j 0,some [(j,some dv.cells)]⟩:=by
 refine oZ hd hj (fun n S0 w0 g a w hM=>?_) hB;have h:=Av hM hx;refine⟨(a.eval x).cells,t,?_,DV.M.cells h,fun h=>by rw[htb]at h;cases h⟩;unfold execOp;rw[ho];rfl
def Ls:Bool->List AV->Option DV
 |true,l=>some (.agg l)
 |false,[a]=>some (.leaf a)
 |false,_=>none
theorem fh {t:TypeId} {ty:Ty} (hT:a8 P t ty) {b o:Nat} {vs:List Value} (hl:vs.length=ty.size) (hc:∀j v,vs[j]? =some v->w.cell? ⟨b,o+j,none⟩=some v) {dv:DV} {cs:List AV} {S:Nat->Prop} (hm:CM S w cs vs) (hd:Ls ty.agg cs=some dv):
 ∃v,(Instr.loadAt t (.pointer (some ⟨b,o,none⟩))).run P w= .ok v w/\DV.M S w dv v:=by
 obtain⟨u,hu,ha,_⟩:=hT.und;cases hag:ty.agg with
 |true=>
  rw[hag]at hd ha;cases hd;refine⟨.agg vs.toArray,?_,vs,rfl,hm⟩
  have h1:=run_loadCells_list (P:=P) w ⟨b,o,none⟩ vs (fun j v hv=>by
   have:=hc j v hv;unfold Addr.add
   split
   ·rename_i h0;subst h0;simpa using this
   ·exact this)
  simp only[Instr.loadAt,Instr.sureAddr,loadVar,Y_,a_,R_,nM hu w,ha,if_true,bJ hT.size w,<- hl,h1]
 |false=>
  rw[hag]at hd ha;cases cs with
  |nil=>cases hd
  |cons c cs=>
   cases cs with
   |cons _ _=>cases hd
   |nil=>
    cases hd;have hlen:=hm.1;cases vs with
    |nil=>simp at hlen
    |cons v us=>
     have h0:=hc 0 v rfl;refine⟨v,?_,hm.2 0 c v rfl rfl⟩
     simp only[Nat.add_zero]at h0
     simp only[Instr.loadAt,Instr.sureAddr,loadVar,Y_,a_,R_,nM hu w,ha,Bool.false_eq_true,if_false,run_load,h0]
theorem dK {arr:Array Value} {e:TypeId} {B:Nat} (h1:w.heap[B]? =some (.cells arr e (0,0))) (i:Nat):w.cell? ⟨B,i,none⟩=arr[i]?:=by
 simp[World.cell?,h1]
theorem tk {o:Oper} {t:TypeId} {ty:Ty} {x:Operand} {j off:Nat} {cs:List AV} {dv:DV} (hT:a8 P t ty) (ho:o.op= .load t x) (hx:s.ev x= .box j off) (hj:s.bx j=some cs) (hl:off+ty.size<=cs.length)
 (hd:Ls ty.agg ((cs.drop off).take ty.size)=some dv):bE P o s ⟨.d dv,none⟩:=by
 refine ak fun n S0 w0 g a w hM=>?_
 obtain⟨_,arr,e,h1,h2,_⟩:=hM.bm j cs hj;have hlen:=h2.1
 obtain⟨v,hr,hv⟩:=fh (w:=w) hT (b:=g j) (o:=off) (vs:=(arr.toList.drop off).take ty.size) (by simp at hlen ⊢;omega) (fun i v hv=>by
  rw[dK h1];rw[List.getElem?_take]at hv
  split at hv
  ·simpa using hv
  ·cases hv) (h2.sub hl) hd
 refine⟨v,w,?_,Below.refl _ _,hv⟩;unfold execOp;rw[ho]
 simp only[Bp hM hx hj,Y_,hr,R_]
 rfl
theorem uG {o:Oper} {t:TypeId} {ty:Ty} {x:Operand} {cs:List AV} {dv:DV} (hT:a8 P t ty) (ho:o.op= .load t x) (hx:s.ev x= .rp cs) (hl:ty.size<=cs.length)
 (hd:Ls ty.agg (cs.take ty.size)=some dv):bE P o s ⟨.d dv,none⟩:=by
 refine ak fun n S0 w0 g a w hM=>?_
 have h:=hM.ev x;rw[hx]at h;obtain⟨b,off,f,e,hn,hlt,h1,h2⟩:=h
 have hm:CM (Own S0 g s) w (cs.take ty.size) ((List.range ty.size).map f):=by
  refine⟨by simp;omega,fun i a v h3 h4=>?_⟩;rw[List.getElem?_take]at h3
  split at h3
  ·rename_i hi
   have:v=f i:=by simp[hi]at h4;exact h4.symm
   rw[this];exact h2 i a h3
  ·cases h3
 obtain⟨v,hr,hv⟩:=fh (w:=w) hT (b:=b) (o:=off) (vs:=(List.range ty.size).map f) S_ (fun i v hv=>by
  have hi:i<ty.size:=by have:=(G_.1 hv).1;simpa using this
  have:v=f i:=by simp[hi]at hv;exact hv.symm
  rw[this];exact h1 i (cs[i]'(by omega)) S_) hm hd
 refine⟨v,w,?_,Below.refl _ _,hv⟩;unfold execOp;rw[ho]
 simp only[e,Y_,hr,R_]
 rfl
def bz (cs:List AV) (off:Nat) (ds:List AV):List AV:=cs.take off++ds++cs.drop (off+ds.length)
theorem lW {cs ds:List AV} {off:Nat} (h:off+ds.length<=cs.length):(bz cs off ds).length=cs.length:=by unfold bz;simp;omega
theorem F5 {S:Nat->Prop} {cs ds:List AV} {vs us:List Value} {off:Nat} (h:fK S w cs vs) (hu:CM S w ds us) (hl:off+ds.length<=cs.length):fK S w (bz cs off ds) (vs.take off++us++vs.drop (off+us.length)):=by
 have h1:=h.1;have h2:=hu.1;refine⟨by rw[lW hl];simp;omega,fun i a v h3 h4=>?_⟩;unfold bz at h3
 simp only[List.getElem?_append,List.getElem?_take,List.getElem?_drop,L_,U_]at h3 h4
 by_cases c1:i<off
 ·rw[if_pos O_,if_pos O_,if_pos c1]at h3 h4
  exact h.2 i a v h3 h4
 ·by_cases c2:i<off+ds.length
  ·rw[if_pos O_,if_neg O_]at h3 h4
   rw[show i-min off cs.length=i-min off vs.length by omega]at h3;exact hu.2 _ a v h3 h4
  ·rw[if_neg O_]at h3 h4
   rw[show off+ds.length+(i-(min off cs.length+ds.length))=i by omega]at h3;rw[show off+us.length+(i-(min off vs.length+us.length))=i by omega]at h4;exact h.2 i a v h3 h4
def Vq (j:Nat) (ds:List AV):Bool:=match bL j with
 |true=>true
 |false=>bB ds
theorem Nm {j:Nat} (h:cM j=true):bL j=false:=by
 unfold cM at h
 simp only[Bool.or_eq_true,Nat.beq_eq]at h
 cases h2:bL j
 ·rfl
 ·have:=N_ h2
  omega
theorem AY {cs ds:List AV} {vs us:List Value} {off i:Nat} {x:AV} {v:Value} (hl1:cs.length<=vs.length) (hl2:ds.length=us.length) (hl:off+ds.length<=cs.length) (h3:(bz cs off ds)[i]? =some x) (h4:(vs.take off++us++vs.drop (off+us.length))[i]? =some v):
 (cs[i]? =some x/\vs[i]? =some v)∨ ∃q:Nat,ds[q]? =some x/\us[q]? =some v:=by
 unfold bz at h3
 simp only[List.getElem?_append,List.getElem?_take,List.getElem?_drop,L_,U_]at h3 h4
 by_cases c1:i<off
 ·rw[if_pos O_,if_pos O_,if_pos c1]at h3 h4
  exact .inl ⟨h3,h4⟩
 ·by_cases c2:i<off+ds.length
  ·rw[if_pos O_,if_neg O_]at h3 h4
   rw[show i-min off cs.length=i-min off vs.length by omega]at h3;exact .inr ⟨_,h3,h4⟩
  ·rw[if_neg O_]at h3 h4
   rw[show off+ds.length+(i-(min off cs.length+ds.length))=i by omega]at h3;rw[show off+us.length+(i-(min off vs.length+us.length))=i by omega]at h4;exact .inl ⟨h3,h4⟩
theorem sU {o:Oper} {t:TypeId} {ty:Ty} {x y:Operand} {j off:Nat} {cs ds:List AV} (hT:a8 P t ty) (ho:o.op= .store t x y) (hdn:o.dst=none) (hx:s.ev x= .box j off) (hj:s.bx j=some cs)
 {n:Nat} {S0:Nat->Prop} {w0:eR} {g:Nat->Nat} {a:Act} {w:World} {K:Act->World->Prop} {Q:Exit->Act->World->Prop} (hM:MG n S0 w0 g s a w) (hv:CM (Own S0 g s) w ds (a.eval y).cells.toList) (hk:ds.length=ty.size) (hl:off+ty.size<=cs.length)
 (hnw:bL j=false-> ∀u∈(a.eval y).cells.toList,gb u=true) (hlk:cM j=true-> ∀(i:Nat) (b:AV) (v:Value),ds[i]? =some b->(a.eval y).cells.toList[i]? =some v->xY (Own S0 g s) g s w b v)
 (hK:∀w',MG n S0 w0 g { s with b:=(j,some (bz cs off ds))::s.b } a w'->K a w'):o.wp P a w K Q:=by
 obtain⟨hjN,arr,e,h1,h2,h3,h4,_⟩:=hM.bm j cs hj;generalize hyv:a.eval y=v at *;have hlen:=h2.1;have hvl:=hv.1
 simp only[Array.length_toList]at hlen hvl
 have hst:=run_storeCells_at (P:=P) (g j) off e v.cells.toList 0 arr w h1 (by simp;omega) (hv.plain)
 simp only[Nat.add_zero]at hst
 generalize hAr:(arr.toList.take off++v.cells.toList++arr.toList.drop (off+v.cells.toList.length)).toArray=arr' at *
 have hrun:(execOp a.eval o).run P w= .ok .skip (w.setRow (g j) arr'):=by
  unfold execOp;rw[ho]
  simp only[Bp hM hx hj,hyv,Instr.storeAt,Instr.sureAddr,storeVar,Y_,a_,R_,bJ hT.size w]
  rw[if_neg O_]
  simp only[hst,R_]
 have hc':fK (Own S0 g s) w (bz cs off ds) arr'.toList:=by
  rw[<- hAr];exact F5 h2 hv O_
 have hw':bL j=false-> ∀u∈arr'.toList,gb u=true:=by
  intro hwb;rw[<- hAr];intro u hu
  simp only[List.mem_append]at hu
  rcases hu with(hu|hu)|hu
  ·exact h3 hwb u (List.mem_of_mem_take hu)
  ·exact hnw hwb u hu
  ·exact h3 hwb u (List.mem_of_mem_drop hu)
 have hl':cM j=true-> ∀(i:Nat) (b:AV) (v:Value),(bz cs off ds)[i]? =some b->arr'.toList[i]? =some v->xY (Own S0 g s) g s w b v:=by
  intro hlb i b u hb hu;rw[<- hAr]at hu;rcases AY (by rw[Array.length_toList];exact hlen) (by rw[Array.length_toList];exact hvl) O_ hb (by simpa using hu)with⟨p1,p2⟩| ⟨q,p1,p2⟩
  ·exact h4 hlb i b u p1 p2
  ·exact hlk hlb q b u p1 p2
 have hsz:arr'.size=arr.size:=by rw[<- hAr];simp;omega
 have:=hM.store hj (w':=w.setRow (g j) arr') (e:=e) S_ ⟨rfl,rfl,rfl⟩ h1 (setRow_heap w _ arr arr' e (0,0) h1) hsz (fun b hb=>setRow_other w _ b arr' hb) (by rw[lW O_];exact l_ _) hc' hw' hl';unfold Oper.wp;rw[hrun];show K (a.put o.dst undef) _;rw[hdn];exact hK _ this
theorem zI {o:Oper} {t:TypeId} {ty:Ty} {x y:Operand} {j off:Nat} {cs:List AV} {dv:DV} (hT:a8 P t ty) (ho:o.op= .store t x y) (hdn:o.dst=none) (hx:s.ev x= .box j off) (hj:s.bx j=some cs) (hy:KE (s.ev y)=some dv)
 (hk:dv.cells.length=ty.size) (hl:off+ty.size<=cs.length) (hB:Vq j dv.cells=true):bE P o s ⟨.junk,some [(j,some (bz cs off dv.cells))]⟩:=by
 intro n S0 w0 g a w K Q hM _ hK;have hv:=(Av hM hy).cells;have hb:bL j=false->bB dv.cells=true:=fun hwb=>by unfold Vq at hB;rw[hwb]at hB;exact hB
 refine sU hT ho hdn hx hj hM hv hk hl (fun hwb=>jl hv (hb hwb)) (fun hlb i b v hi _=>II (lh (hb (Nm hlb)) b (M_ hi))) fun w' hM'=>?_
 rw[hdn]at hK;exact hK g _ _ hM'
def AZ (s:AS):TV->Option (AV × List Nat)
 | .own j n k e=>match s.bx j with
  |some _=>some (.ow j n k e,[j])
  |none=>none
 | .box j o=>match s.bx j with
  |some _=>some (.bp j o,[j])
  |none=>none
 | .nil=>some (.nl,[])
 |_=>none
theorem sR {o:Oper} {t:TypeId} {ty:Ty} {x y:Operand} {j off:Nat} {J:List Nat} {cs:List AV} {b:AV} (hT:a8 P t ty) (ho:o.op= .store t x y) (hdn:o.dst=none) (hx:s.ev x= .box j off) (hj:s.bx j=some cs) (hy:AZ s (s.ev y)=some (b,J))
 (hk:ty.size=1) (hl:off+1<=cs.length):bE P o s ⟨.junk,some [(j,some (bz cs off [b]))]⟩:=by
 intro n S0 w0 g a w K Q hM _ hK;have hm:=hM.ev y
 have key:(a.eval y).oneCell'=true/\gb (a.eval y)=true/\AV.M (Own S0 g s) w b (a.eval y)/\xY (Own S0 g s) g s w b (a.eval y):=by
  generalize a.eval y=v at hm;unfold AZ at hy
  split at hy
  ·rename_i i n k e hev
   rw[hev]at hm
   split at hy
   ·rename_i ci hci
    cases hy;obtain⟨c,rfl,_⟩:=hm.2 ci hci;exact⟨rfl,rfl, .ow rfl,hm⟩
   ·cases hy
  ·rename_i i q hev
   rw[hev]at hm
   split at hy
   ·rename_i ci hci
    cases hy;obtain rfl:=hm.2 ci hci;exact⟨rfl,rfl, .bp rfl,hm⟩
   ·cases hy
  ·rename_i hev
   rw[hev]at hm;cases hy;obtain rfl:v= .slice none 0 0:=hm;exact⟨rfl,rfl, .nl,trivial⟩
  ·cases hy
 obtain⟨k1,k2,k3,k4⟩:=key;have hcl:=pC k1
 refine sU (ds:=[b]) hT ho hdn hx hj hM (by rw[hcl];exact CM.cons k3 (CM.nil _ _)) (by simp[hk]) O_ (fun _ u hu=>by
  rw[hcl]at hu
  simp at hu
  subst hu;exact k2) (fun _ i c v hi hv=>by
  rw[hcl]at hv
  match i,hi,hv with
  |0,hi,hv=>simp at hi hv;subst hi hv;exact k4
  |i+1,hi,hv=>simp at hi) fun w' hM'=>?_
 rw[hdn]at hK;exact hK g _ _ hM'
def TN:AV->Option TV
 | .ow j n k e=>some (.own j n k e)
 | .bp j o=>some (.box j o)
 | .nl=>some .nil
 |_=>none
theorem uz {o:Oper} {t:TypeId} {ty:Ty} {x:Operand} {j off:Nat} {cs:List AV} {b:AV} {tv:TV} (hT:a8 P t ty) (ho:o.op= .load t x) (hx:s.ev x= .box j off) (hj:s.bx j=some cs) (hlb:cM j=true) (hag:ty.agg=false) (hsz:ty.size=1) (hl:off+ty.size<=cs.length) (hc:(cs.drop off).take ty.size=[b])
 (htv:TN b=some tv):bE P o s ⟨tv,none⟩:=by
 refine ak fun n S0 w0 g a w hM=>?_
 obtain⟨_,arr,e,h1,h2,h3,h4,_⟩:=hM.bm j cs hj;have hlen:=h2.1
 have hob:cs[off]? =some b:=by
  have:=congrArg (fun l:List AV=>l[0]?) hc;rw[hsz]at this
  simpa using this
 have hlt:off<arr.toList.length:=O_
 obtain⟨v,hr,hv⟩:=fh (w:=w) hT (b:=g j) (o:=off) (vs:=(arr.toList.drop off).take ty.size) (by simp at hlen ⊢;omega) (fun i v hv=>by
  rw[dK h1];rw[List.getElem?_take]at hv
  split at hv
  ·simpa using hv
  ·cases hv) (h2.sub hl) (dv:= .leaf b) (by rw[hc,hag];rfl)
 have hva:arr.toList[off]? =some v:=by
  have hr2:(Instr.loadAt t (.pointer (some ⟨g j,off,none⟩))).run P w= .ok (arr.toList[off]) w:=by
   obtain⟨u,hu,ha,_⟩:=hT.und;have:w.cell? ⟨g j,off,none⟩=some (arr.toList[off]):=by rw[dK h1];simp at hlt ⊢
   simp only[Instr.loadAt,Instr.sureAddr,loadVar,Y_,a_,R_,nM hu w,ha,hag,Bool.false_eq_true,if_false,run_load,this]
  rw[hr]at hr2
  injection hr2 with hr2
  rw[hr2]
  simp[hlt]
 have hlk:=h4 hlb off b v hob hva;refine⟨v,w,?_,Below.refl _ _,?_⟩
 ·unfold execOp
  rw[ho]
  simp only[Bp hM hx hj,Y_,hr,R_]
  rfl
 ·cases b with
  |ow=>cases htv;exact hlk
  |bp=>cases htv;exact hlk
  |val=>cases htv
  |sl=>cases htv
  |nl=>cases htv;cases hv;rfl
theorem b7 (b o k:Nat):(⟨b,o,none⟩:Addr).add k=⟨b,o+k,none⟩:=by unfold Addr.add;split <;>simp_all
theorem pE {t:TypeId} {ty:Ty} (hT:a8 P t ty) {f o k:Nat} {ag:Bool} (hf:ty.flds[f]? =some (o,k,ag)) (b off:Nat):(Instr.fieldAt t (.pointer (some ⟨b,off,none⟩)) f).run P w= .ok (.pointer (some ⟨b,off+o,none⟩)) w:=by
 obtain⟨u,hu,_,_,_,_,_,_,hfl⟩:=hT.und;obtain⟨fs,fd,fu,rfl,h1,h2,h3,h4,_⟩:=hfl f o k ag hf
 simp only[Instr.fieldAt,Y_,run_underlying hu w,R_,h1,Instr.sureAddr,a_,fieldPlace,bJ h3 w]
 rw[if_neg h4]
 simp only[a_,R_,b7,h2]
def Qp (tv:TV) (o:Nat):TV:=match tv with
 | .box j k=> .box j (k+o)
 | .rp cs=> .rp (cs.drop o)
 |_=> .junk
def Kq:TV->Bool
 | .box _ _| .rp _=>true
 |_=>false
theorem jI {o:Oper} {t:TypeId} {ty:Ty} {x:Operand} {f off k:Nat} {ag:Bool} {tv:TV} (hT:a8 P t ty) (ho:o.op= .fieldAddr t x f) (hf:ty.flds[f]? =some (off,k,ag)) (hx:s.ev x=tv) (hp:Kq tv=true) (hal:∀j k,tv= .box j k-> ∃cs,s.bx j=some cs):bE P o s ⟨Qp tv off,none⟩:=by
 refine ak fun n S0 w0 g a w hM=>?_
 have h:=hM.ev x;rw[hx]at h;cases tv with
 |box j k=>
  obtain⟨hk,e⟩:=h;obtain⟨cs,hc⟩:=hal j k rfl;refine⟨_,w,?_,Below.refl _ _,show TV.M _ _ _ _ (.box j (k+off)) (.pointer (some ⟨g j,k+off,none⟩)) from⟨hk,fun _ _=>rfl⟩⟩;unfold execOp;rw[ho]
  simp only[e cs hc,Y_,pE hT hf,R_]
  rfl
 |rp cs=>
  obtain⟨b,o',f',e,h1,h2,h3,h4⟩:=h;refine⟨.pointer (some ⟨b,o'+off,none⟩),w,?_,Below.refl _ _,b,o'+off,fun i=>f' (off+i),rfl,h1,h2,fun i c hi=>?_,fun i c hi=>?_⟩
  ·unfold execOp
   rw[ho]
   simp only[e,Y_,pE hT hf,R_]
   rfl
  ·rw[Nat.add_assoc];exact h3 (off+i) c (by simpa using hi)
  ·exact h4 (off+i) c (by simpa using hi)
 |d x=>cases hp
 |tup x=>cases hp
 |clo=>cases hp
 |mp=>cases hp
 |own=>cases hp
 |nil=>cases hp
 |und=>cases hp
 |junk=>cases hp
 |dfr=>cases hp
 |vw=>cases hp
 |vs=>cases hp
theorem uE {o:Oper} {x:Operand} {i:Nat} {ts:List DV} {dv:DV} (ho:o.op= .extract x i) (hx:s.ev x= .tup ts) (hi:ts[i]? =some dv):bE P o s ⟨.d dv,none⟩:=by
 refine ak fun n S0 w0 g a w hM=>?_
 have h:=hM.ev x;rw[hx]at h;obtain⟨vs,e,hl,hv⟩:=h;have hlt:i<vs.length:=by rw[<- hl];exact(G_.1 hi).1
 refine⟨vs[i],w,?_,Below.refl _ _,hv i dv vs[i] hi (by simp[hlt])⟩;unfold execOp;rw[ho]
 simp[e,Instr.extract,hlt]
theorem Iz {t:TypeId} {u:TypeDesc} {k:Nat} {b:Bool} (hk:(P.info? t).map (·.size)=some k) (hu:P.underlying t=some u) (hb:mv u=b) {S:Nat->Prop} {cs:List AV} {vs:List Value} (hm:CM S w cs vs) {o:Nat} {dv:DV} (hl:o+k<=cs.length) (hd:Ls b ((cs.drop o).take k)=some dv):
 ∃v,(part t vs.toArray o).run P w= .ok v w/\DV.M S w dv v:=by
 have hlen:=hm.1;cases b with
 |true=>
  cases hd;refine⟨.agg ((vs.drop o).take k).toArray,?_,_,rfl,(hm.drop o).take k⟩
  simp only[part,Y_,nM hu w,R_,hb,if_true,bJ hk w,a_]
  congr 2
  simp
 |false=>
  have h2:=(hm.drop o).take k;generalize hq:(cs.drop o).take k=q at *;cases q with
  |nil=>cases hd
  |cons c r=>
   cases r with
   |cons _ _=>cases hd
   |nil=>
    cases hd
    have hk1:k=1:=by
     have:=congrArg List.length hq
     simp at this
     omega
    subst hk1;have ho:o<vs.length:=O_
    refine⟨vs[o],?_,h2.2 0 c vs[o] rfl (by simp[ho])⟩
    simp[part,Y_,nM hu w,R_,hb,ho]
theorem zg {o:Oper} {t:TypeId} {ty:Ty} {x:Operand} {f off k:Nat} {ag:Bool} {cs:List AV} {dv:DV} (hT:a8 P t ty) (ho:o.op= .field t x f) (hf:ty.flds[f]? =some (off,k,ag)) (hx:s.ev x= .d (.agg cs)) (hl:off+k<=cs.length)
 (hd:Ls ag ((cs.drop off).take k)=some dv):bE P o s ⟨.d dv,none⟩:=by
 refine ak fun n S0 w0 g a w hM=>?_
 obtain⟨vs,e,hm⟩:∃vs:List Value,a.eval x= .agg vs.toArray/\CM _ w cs vs:=Av (dv:= .agg cs) hM (by rw[hx];rfl);obtain⟨u,hu,_,_,_,_,_,_,hfl⟩:=hT.und;obtain⟨fs,fd,fu,rfl,h1,h2,h3,h4,h5,h6⟩:=hfl f off k ag hf;obtain⟨v,hr,hv⟩:=Iz (w:=w) h3 h5 h6 hm hl hd;refine⟨v,w,?_,Below.refl _ _,hv⟩;unfold execOp;rw[ho]
 simp only[e,Instr.field,Y_,run_underlying hu w,R_,h1,asAgg,a_,h2,hr]
theorem vp (off:Nat):∀(l:List Value) (m:Nat) (cells:Array Value),off+m+l.length<=cells.size ->
 ((l.zipIdx m).foldl (fun cs (p:Value × Nat)=>cs.setIfInBounds (off+p.2) p.1) cells).toList=cells.toList.take (off+m)++l++cells.toList.drop (off+m+l.length)
 | [],m,cells,_=>by simp
 |v::l,m,cells,h=>by
  simp only[List.length_cons]at h
  rw[List.zipIdx_cons,List.foldl_cons,vp off l (m+1) _ (by simp;omega)]
  apply List.ext_getElem?
  intro i
  simp only[Array.toList_setIfInBounds,List.getElem?_append,List.getElem?_take,List.getElem?_drop,List.getElem?_set,U_,L_,List.length_set,List.length_cons,Array.length_toList]
  by_cases h1:i<off+m
  ·rw[if_pos O_,if_pos O_,if_pos O_,if_neg O_,if_pos O_,if_pos O_,if_pos O_]
  ·by_cases h2:i=off+m
   ·subst h2
    rw[if_pos O_,if_pos O_,if_pos O_,if_pos O_,if_pos O_,if_pos O_,if_neg O_];have:off+m-min (off+m) cells.size=0:=O_
    simp[this]
   ·by_cases h3:i<off+m+(l.length+1)
    ·rw[if_pos O_,if_neg O_,if_pos O_,if_neg O_]
     have e:i-min (off+m) cells.size=(i-min (off+(m+1)) cells.size)+1:=O_
     rw[e,List.getElem?_cons_succ]
    ·rw[if_neg O_,if_neg O_,if_neg O_]
     congr 1
     omega
def mR (place:Nat->Option (Nat × Nat)) (cs:List AV):List (Nat × DV)->Option (List AV)
 | []=>some cs
 |(i,dv)::r=>match place i with
  |none=>none
  |some (off,k)=>match Nat.beq dv.cells.length k,Nat.ble (off+k) cs.length with
   |true,true=>mR place (bz cs off dv.cells) r
   |_,_=>none
def PM (S:Nat->Prop) (w:World):List (Nat × DV)->List (Nat × Value)->Prop
 | [],[]=>True
 |p::ps,q::qs=>(p.1=q.1/\DV.M S w p.2 q.2)/\PM S w ps qs
 |_,_=>False
theorem ra {S:Nat->Prop} {place:Nat->Option (Nat × Nat)}:∀(ps:List (Nat × DV)) (vs:List (Nat × Value)) (cs:List AV) (cells:Array Value) (out:List AV),CM S w cs cells.toList ->
 PM S w ps vs->mR place cs ps=some out-> ∃arr,Instr.fill place cells vs=some arr/\CM S w out arr.toList
 | [],_::_,_,_,_,_,hf,_=>hf.elim
 |_::_,[],_,_,_,_,hf,_=>hf.elim
 | [],[],cs,cells,out,hc,hf,h=>by
  cases h;exact⟨cells,rfl,hc⟩
 |(i,dv)::ps,(i',v)::vs,cs,cells,out,hc,hf,h=>by
  obtain⟨⟨e,hv⟩,hf⟩:=hf;dsimp only at e;subst e
  simp only[mR]at h
  split at h
  ·cases h
  ·rename_i off k hpl
   split at h
   ·rename_i h1 h2
    have h1:=Nat.eq_of_beq_eq_true h1;have h2:=N_ h2;have hcl:=hc.1;have hvc:=hv.cells;have hvl:=hvc.1
    simp only[Array.length_toList]at hcl hvl
    simp only[Instr.fill,hpl]
    dsimp only at hvl hvc;rw[if_neg (by simp;omega)];refine ra ps vs (bz cs off dv.cells) _ out ?_ hf h;have e:=vp off v.cells.toList 0 cells (by simp;omega);rw[<- Array.foldl_toList,Array.toList_zipIdx,e];unfold bz;have:=((hc.take off).append hvc).append (hc.drop (off+dv.cells.length))
    simpa[hvl]using this
   ·cases h
def eN (s:AS):List (Nat × Operand)->Option (List (Nat × DV))
 | []=>some []
 |(i,x)::r=>match KE (s.ev x),eN s r with
  |some dv,some l=>some ((i,dv)::l)
  |_,_=>none
theorem oc (hM:MG n S0 w0 g s a w):∀(r:List (Nat × Operand)) (l:List (Nat × DV)),eN s r=some l->PM (Own S0 g s) w l (r.map fun(p:Nat × Operand)=>(p.1,a.eval p.2))
 | [],l,h=>by cases h;trivial
 |(i,x)::r,l,h=>by
  simp only[eN]at h
  split at h
  ·rename_i dv l' h1 h2
   cases h;exact⟨⟨rfl,Av hM h1⟩,oc hM r l' h2⟩
  ·cases h
def xa (ty:Ty) (i:Nat):Option (Nat × Nat):=match ty.flds[i]? with
 |some (o,k,_)=>some (o,k)
 |none=>none
theorem rO {p q:Nat->Option (Nat × Nat)}:∀(vs:List (Nat × Value)) (cells:Array Value),(∀i r,q i=some r->p i=some r)-> ∀arr,Instr.fill q cells vs=some arr->Instr.fill p cells vs=some arr
 | [],cells,_,arr,h=>h
 |(i,v)::vs,cells,hpq,arr,h=>by
  simp only[Instr.fill]at h ⊢
  cases hq:q i with
  |none=>rw[hq]at h;cases h
  |some r=>
   rw[hq]at h;rw[hpq i r hq];obtain⟨o,k⟩:=r
   simp only at h ⊢
   split at h
   ·cases h
   ·rename_i hn
    rw[if_neg hn];exact rO vs _ hpq arr h
theorem sf {ty:Ty}:∀(l:List Field) (fl:List (Nat × Nat × Bool)),l.length=fl.length->(∀(f o k:Nat) (b:Bool),fl[f]? =some (o,k,b)-> ∃fd:Field,l[f]? =some fd/\fd.offset=o/\(P.info? fd.type).map (·.size)=some k) ->
 (l.mapM fun f=>do pure (f.offset,<- sizeOf f.type):Sem (List (Nat × Nat))).run P w= .ok (fl.map fun p=>(p.1,p.2.1)) w
 | [],[],_,_=>rfl
 | [],_::_,h,_=>by cases h
 |_::_,[],h,_=>by cases h
 |fd::l,(o,k,b)::fl,h,hf=>by
  obtain⟨fd',h1,h2,h3⟩:=hf 0 o k b rfl
  simp only[List.getElem?_cons_zero,X_]at h1
  subst h1;have ih:=sf (ty:=ty) l fl (by simpa using h) (fun f o k b hh=>by simpa using hf (f+1) o k b (by simpa using hh))
  simp only[List.mapM_cons,Y_,bJ h3 w,R_,a_,ih,h2]
  rfl
theorem pv {o:Oper} {t:TypeId} {ty:Ty} {parts:Array (Nat × Operand)} {l:List (Nat × DV)} {cs:List AV} (hT:a8 P t ty) (ho:o.op= .build t parts) (hag:ty.flds≠[]) (hp:eN s parts.toList=some l)
 (hf:mR (xa ty) ty.zero l=some cs):bE P o s ⟨.d (.agg cs),none⟩:=by
 refine ak fun n S0 w0 g a w hM=>?_
 obtain⟨u,hu,_,_,hlen,_,_,_,hfl⟩:=hT.und;obtain⟨z,hz,hzm⟩:=hT.zero
 obtain⟨fs,hfs⟩:∃fs,u= .struct fs:=by
  cases h0:ty.flds with
  |nil=>exact absurd h0 hag
  |cons p r=>
   obtain⟨o',k',b'⟩:=p;obtain⟨fs,_,_,e,_⟩:=hfl 0 o' k' b' (by rw[h0];rfl);exact⟨fs,e⟩
 subst hfs
 have hpl:=sf (P:=P) (w:=w) (ty:=ty) fs.toList ty.flds (by simpa using(hlen fs rfl).symm) (fun f o k b h=>by
  obtain⟨fs',fd,fu,e,h1,h2,h3,_⟩:=hfl f o k b h;cases e;exact⟨fd,by simpa using h1,h2,h3⟩)
 have hplA:(fs.mapM fun f=>do pure (f.offset,<- sizeOf f.type):Sem (Array (Nat × Nat))).run P w= .ok (ty.flds.map fun p=>(p.1,p.2.1)).toArray w:=by
  rw[Array.mapM_eq_mapM_toList,Sem.run_map,hpl];rfl
 obtain⟨arr,h1,h2⟩:=ra l _ _ z.cells cs (hzm (Own S0 g s) w) (oc hM parts.toList l hp) hf
 have h3:=rO (p:=fun i=>(ty.flds.map fun p=>(p.1,p.2.1)).toArray[i]?) _ _ (fun i r hr=>by
  unfold xa at hr
  split at hr
  ·rename_i o k b hh
   simp only[List.getElem?_toArray,List.getElem?_map,hh,Option.map_some]
   exact hr
  ·cases hr) arr h1
 refine⟨.agg arr,w,?_,Below.refl _ _,arr.toList,by simp,h2⟩;unfold execOp;rw[ho];have e:(parts.map fun x=>match x with|(i,y)=>(i,a.eval y)).toList=parts.toList.map fun(p:Nat × Operand)=>(p.1,a.eval p.2):=S_
 simp only[Instr.build,Y_,kH hz w,R_,run_underlying hu w,hplA,e,h3]
 rfl
def eL (zs:List AV):Nat->List AV
 |0=>[]
 |n+1=>zs++eL zs n
theorem gP (zs:List AV) (hz:0<zs.length):∀(n i:Nat),(eL zs n)[i]? =if i<n*zs.length then zs[i%zs.length]? else none
 |0,i=>by simp[eL]
 |n+1,i=>by
  simp only[eL,List.getElem?_append]
  by_cases h:i<zs.length
  ·rw[if_pos h,if_pos (by rw[Nat.add_mul];omega),Nat.mod_eq_of_lt h]
  ·rw[if_neg h,gP zs hz n,Nat.mod_eq_sub_mod (by omega:i>=zs.length)]
   have:(i-zs.length<n*zs.length)↔(i<(n+1)*zs.length):=by rw[Nat.add_mul];omega
   simp only[this]
theorem cY (zs:List AV):∀n,(eL zs n).length=n*zs.length
 |0=>by simp[eL]
 |n+1=>by simp[eL,cY zs n,Nat.add_mul];omega
theorem oY {o:Oper} {t et k len:Nat} {ty te:Ty} {parts:Array (Nat × Operand)} {l:List (Nat × DV)} {cs:List AV} (hT:a8 P t ty) (hE:a8 P et te) (ho:o.op= .buildSlice t len parts) (hel:ty.elem=some (et,k)) (hk:0<k) (hzl:te.zero.length=k) (hlen:len*k<=16777216) (h0:0<len)
 (hp:eN s parts.toList=some l) (hf:mR (fun i=>some (i*k,k)) (eL te.zero len) l=some cs):bE P o s ⟨.d (.leaf (.sl len cs)),none⟩:=by
 refine ak fun n S0 w0 g a w hM=>?_
 obtain⟨u,hu,_,hel',_⟩:=hT.und;obtain⟨rfl,hks⟩:=hel' et k hel;obtain⟨z,hz,hzm⟩:=hE.zero;have hzl':z.cells.size=k:=by have:=(hzm (Own S0 g s) w).1;simp at this;omega
 have hpos:0<len*k:=Nat.mul_pos h0 hk
 have hini:CM (Own S0 g s) w (eL te.zero len) ((Array.range (len*k)).map (fun i=>z.cells[i%z.cells.size]!)).toList:=by
  refine⟨by rw[cY,hzl];simp,fun i b v h1 h2=>?_⟩;rw[gP _ O_]at h1
  split at h1
  ·rename_i hi
   rw[hzl]at h1 hi;have hm:i%k<k:=Nat.mod_lt _ hk
   have hv:v=z.cells[i%k]'(by omega):=by
    simp[hi,hzl']at h2
    rw[<- h2]
    simp[hzl',hm]
   exact(hzm _ w).2 (i%k) b v h1 (by rw[hv];simp[hzl',hm])
  ·cases h1
 obtain⟨arr,h1,h2⟩:=ra l _ _ _ cs hini (oc hM parts.toList l hp) hf;have e:(parts.map fun x=>match x with|(i,y)=>(i,a.eval y)).toList=parts.toList.map fun(p:Nat × Operand)=>(p.1,a.eval p.2):=S_
 have hb:Below w.heap.size w (w.alloc (.cells arr et)):=(Below.refl _ _).alloc (l_ _) _;refine⟨.slice (some ⟨w.heap.size,0,none⟩) len len,w.alloc (.cells arr et),?_,hb,?_⟩
 ·unfold execOp
  rw[ho]
  simp only[Instr.buildSlice,Y_,run_underlying hu w,R_,bJ hks w]
  rw[if_neg O_,if_neg O_]
  simp only[Y_,kH hz w,R_,a_,e,h1]
  rfl
 ·have hl1:len<=9223372036854775807:=by
   have:=Nat.le_mul_of_pos_right len hk;omega
  have hsz:=h2.1
  simp only[Array.length_toList]at hsz
  refine AV.M.sl (fun i=>arr.getD i undef) (l_ _) hl1 ?_ (by show w.heap.size<(w.heap.push _).size;simp) (fun i c hi=>?_) (fun i c hi=>?_)
  ·intro hO
   exact absurd (hM.own_lt hO) (Nat.lt_irrefl _)
  ·have:i<arr.size:=by rw[<- hsz];exact(G_.1 hi).1
   have h3:(w.alloc (.cells arr et)).heap[w.heap.size]? =some (.cells arr et (0,0)):=heap_alloc_new w _;rw[J_,dK h3]
   simp[this]
  ·have:i<arr.size:=by rw[<- hsz];exact(G_.1 hi).1
   exact(h2.2 i c _ hi (by simp[this])).agree (.of_below hb) (fun _ _ h=>h)
def xK:Sem Value->Option Value
 | .pure v=>some v
 |_=>none
theorem xh {m:Sem Value} {v:Value} (h:xK m=some v):m= .pure v:=by
 unfold xK at h
 split at h
 ·cases h;rfl
 ·cases h
def j7 (op:BinOp) (t:TypeId) (x y:Operand):Value->Value->Option Value
 | .int k a, .int k' b=>xK (do eqGuard op t x y (.int k a) (.int k' b);binOp op t (.int k a) (.int k' b))
 | .string a, .string b=>xK (do eqGuard op t x y (.string a) (.string b);binOp op t (.string a) (.string b))
 |_,_=>none
theorem Aa {o:Oper} {op:BinOp} {t t':TypeId} {x y:Operand} {u v r:Value} (ho:o.op= .binOp op t x y t') (hx:s.ev x= .d (.leaf (.val u))) (hy:s.ev y= .d (.leaf (.val v))) (hr:j7 op t x y u v=some r) (h1:r.oneCell'=true):bE P o s ⟨.d (.leaf (.val r)),none⟩:=by
 refine ak fun n S0 w0 g a w hM=>⟨r,w,?_,Below.refl _ _,AV.M.val h1⟩
 unfold execOp;rw[ho]
 simp only[a7 hM hx,a7 hM hy]
 unfold j7 at hr
 split at hr
 ·have:=xh hr
  simp only[this]
  rfl
 ·have:=xh hr
  simp only[this]
  rfl
 ·cases hr
def VK:BinOp->Bool->Bool->Option Bool
 | .eql,a,b=>some (a == b)
 | .neq,a,b=>some (!(a == b))
 |_,_,_=>none
theorem rR {t:TypeId} (hu:P.underlying t=some .bool) (a b:Bool) (w:World):(Op.equal t (.bool a) (.bool b)).run P w= .ok (a == b) w:=by
 have h:∀d,(Op.equalIn (d+1) t (.bool a) (.bool b)).run P w= .ok (a == b) w:=by
  intro d;rw[Op.equalIn]
  simp only[Y_,run_underlying hu w,R_,a_]
 exact h 9999
theorem wP {o:Oper} {op:BinOp} {t t':TypeId} {ty:Ty} {x y:Operand} {u v r:Bool} (hT:a8 P t ty) (hb:ty.isBool=true) (ho:o.op= .binOp op t x y t') (hx:s.ev x= .d (.leaf (.val (.bool u)))) (hy:s.ev y= .d (.leaf (.val (.bool v)))) (hr:VK op u v=some r):bE P o s ⟨.d (.leaf (.val (.bool r))),none⟩:=by
 obtain⟨d,hu,_,_,_,hB,_⟩:=hT.und;obtain rfl:=hB hb;refine ak fun n S0 w0 g a w hM=>⟨.bool r,w,?_,Below.refl _ _,AV.M.val rfl⟩
 unfold execOp;rw[ho]
 simp only[a7 hM hx,a7 hM hy]
 cases op<;>simp only[VK,reduceCtorEq,X_]at hr
 ·exact UQ
 ·exact UQ
theorem CE {o:Oper} {op:UnOp} {t:TypeId} {x:Operand} {u r:Value} (ho:o.op= .unOp op t x) (hx:s.ev x= .d (.leaf (.val u))) (hr:xK (Op.unary op u)=some r) (h1:r.oneCell'=true):bE P o s ⟨.d (.leaf (.val r)),none⟩:=by
 refine ak fun n S0 w0 g a w hM=>⟨r,w,?_,Below.refl _ _,AV.M.val h1⟩
 unfold execOp;rw[ho]
 simp only[a7 hM hx,xh hr]
 rfl
theorem tU {o:Oper} {t:TypeId} {ty:Ty} {x:Operand} {ts:Array TypeId} {k:Nat} {cs:List AV} (hT:a8 P t ty) (hel:ty.elem.isSome=true) (ho:o.op= .call ⟨.builtin .len,#[x],ts⟩) (hts:ts[0]? =some t) (hx:s.ev x= .d (.leaf (.sl k cs))):bE P o s ⟨.d (.leaf (.val (.int .i64 k))),none⟩:=by
 obtain⟨d,hu,_,hel',_⟩:=hT.und;cases he:ty.elem with
 |none=>rw[he]at hel;cases hel
 |some p=>
  obtain⟨et,k'⟩:=p;obtain⟨rfl,_⟩:=hel' et k' he;refine ak fun n S0 w0 g a w hM=>⟨.int .i64 k,w,?_,Below.refl _ _,AV.M.val rfl⟩
  have h:=hM.ev x;rw[hx]at h;unfold execOp;rw[ho];cases hv:a.eval x with
  |slice A n' c=>
   rw[hv]at h;have e:n'=k:=by cases(show AV.M _ _ _ _ from h)<;>rfl
   subst e
   simp[resolve,invoke,builtin,Builtin.len_,hts,hv,Y_,run_underlying hu w,goInt]
  |_=>rw[hv]at h;cases(show AV.M _ _ _ _ from h)
theorem xv {o:Oper} {t:TypeId} {x:Operand} {ts:Array TypeId} {b:ByteArray} (hu:P.underlying t=some .string) (ho:o.op= .call ⟨.builtin .len,#[x],ts⟩) (hts:ts[0]? =some t) (hx:s.ev x= .d (.leaf (.val (.string b)))):bE P o s ⟨.d (.leaf (.val (.int .i64 b.size))),none⟩:=by
 refine ak fun n S0 w0 g a w hM=>⟨.int .i64 b.size,w,?_,Below.refl _ _,AV.M.val rfl⟩
 unfold execOp;rw[ho]
 simp[resolve,invoke,builtin,Builtin.len_,hts,a7 hM hx,Y_,run_underlying hu w,goInt]
theorem uS {o:Oper} {t t':TypeId} {ty:Ty} {x:Operand} {k k':IntKind} {i:Int} (hT:a8 P t' ty) (hk:ty.ik=some k') (hsrc:(P.underlying t).isSome=true) (ho:o.op= .convert t t' x) (hx:s.ev x= .d (.leaf (.val (.int k i)))):bE P o s ⟨.d (.leaf (.val (.int k' (k'.wrap i)))),none⟩:=by
 obtain⟨d,hu,_,_,_,_,_,hk',_⟩:=hT.und;obtain rfl:=hk' k' hk;refine ak fun n S0 w0 g a w hM=>⟨.int k' (k'.wrap i),w,?_,Below.refl _ _,AV.M.val rfl⟩
 obtain⟨d0,h0⟩:=Option.isSome_iff_exists.1 hsrc;unfold execOp;rw[ho]
 simp only[a7 hM hx,convert,Y_,run_underlying h0 w,run_underlying hu w,R_,Conv.intToInt]
 rfl
theorem qE {o:Oper} {t:TypeId} {ty:Ty} {x y:Operand} {et k m i:Nat} {ik:IntKind} {cs cs':List AV} (hT:a8 P t ty) (hel:ty.elem=some (et,k)) (ho:o.op= .indexAddr t x y) (hx:s.ev x= .d (.leaf (.sl m cs))) (hy:s.ev y= .d (.leaf (.val (.int ik (i:Nat))))) (hi:i<m)
 (hc:∀(q:Nat) (a:AV),cs'[q]? =some a->cs[i*k+q]? =some a) (h0:0<cs'.length):bE P o s ⟨.rp cs',none⟩:=by
 obtain⟨d,hu,_,hel',_⟩:=hT.und;obtain⟨rfl,hks⟩:=hel' et k hel;refine ak fun n S0 w0 g a w hM=>?_
 have h:=hM.ev x;rw[hx]at h
 have hpos:0<cs.length:=by
  have:=hc 0 cs'[0] S_;have:=(G_.1 this).1;omega
 cases hv:a.eval x with
 |slice A n' c=>
  rw[hv]at h;cases(show AV.M _ _ _ _ from h)with
  |emp=>simp at hpos
  |sl f h1 h2 h3 h4 h5 h6=>
   rename_i b off
   refine⟨.pointer (some ⟨b,off+i*k,none⟩),w,?_,Below.refl _ _,b,off+i*k,fun q=>f (i*k+q),rfl,h3,h4,fun q c hq=>?_,fun q c hq=>?_⟩
   ·unfold execOp
    rw[ho]
    simp only[hv,a7 hM hy,Instr.indexAt,asIntOf,Y_,a_,run_underlying hu w,R_]
    have e1:(0:Int)<=i/\(i:Int)<m:=O_
    simp only[e1,and_self,if_true,Y_,bJ hks w,R_,a_,b7,Int.toNat_natCast]
   ·rw[Nat.add_assoc];exact h5 (i*k+q) c (hc q c hq)
   ·exact h6 (i*k+q) c (hc q c hq)
 |_=>rw[hv]at h;cases(show AV.M _ _ _ _ from h)
theorem BB {o:Oper} {t:TypeId} {ty:Ty} {x y:Operand} {j k m i e:Nat} {ik:IntKind} {cs:List AV} (hT:a8 P t ty) (hel:ty.elem=some (e,k)) (ho:o.op= .indexAddr t x y) (hx:s.ev x= .own j m k e) (hj:s.bx j=some cs) (hy:s.ev y= .d (.leaf (.val (.int ik (i:Nat))))) (hi:i<m):bE P o s ⟨.box j (i*k),none⟩:=by
 obtain⟨d,hu,_,hel',_⟩:=hT.und;obtain⟨rfl,hks⟩:=hel' e k hel;refine ak fun n S0 w0 g a w hM=>?_
 have h:=hM.ev x;rw[hx]at h;obtain⟨hk,h⟩:=h;obtain⟨c,e1,_⟩:=h cs hj;refine⟨.pointer (some ⟨g j,0+i*k,none⟩),w,?_,Below.refl _ _,hk,fun _ _=>by rw[J_]⟩;unfold execOp;rw[ho]
 simp only[e1,a7 hM hy,Instr.indexAt,asIntOf,Y_,a_,run_underlying hu w,R_]
 have e2:(0:Int)<=i/\(i:Int)<m:=O_
 simp only[e2,and_self,if_true,Y_,bJ hks w,R_,a_,b7,Int.toNat_natCast]
theorem wX {o:Oper} {t:TypeId} {ty:Ty} {x:Operand} {ts:Array TypeId} {j m k e:Nat} {cs:List AV} (hT:a8 P t ty) (hel:ty.elem.isSome=true) (ho:o.op= .call ⟨.builtin .len,#[x],ts⟩) (hts:ts[0]? =some t) (hx:s.ev x= .own j m k e) (hj:s.bx j=some cs):bE P o s ⟨.d (.leaf (.val (.int .i64 m))),none⟩:=by
 exact Wz
theorem zW {o:Oper} {t:TypeId} {ty:Ty} {x:Operand} {ts:Array TypeId} {j o1 m c1 k e:Nat} {cs:List AV} (hT:a8 P t ty) (hel:ty.elem.isSome=true) (ho:o.op= .call ⟨.builtin .len,#[x],ts⟩) (hts:ts[0]? =some t) (hx:s.ev x= .vs j o1 m c1 k e) (hj:s.bx j=some cs):bE P o s ⟨.d (.leaf (.val (.int .i64 m))),none⟩:=by
 obtain⟨d,hu,_,hel',_⟩:=hT.und;cases he:ty.elem with
 |none=>rw[he]at hel;cases hel
 |some p=>
  obtain⟨et,k'⟩:=p;obtain⟨rfl,_⟩:=hel' et k' he;refine ak fun n S0 w0 g a w hM=>⟨.int .i64 m,w,?_,Below.refl _ _,AV.M.val rfl⟩
  have h:=hM.ev x;rw[hx]at h;obtain⟨e1,_⟩:=h.2 cs hj;exact SY
theorem Ae {o:Oper} {t:TypeId} {ty:Ty} {x:Operand} {ts:Array TypeId} {j o1 m k:Nat} {cs:List AV} (hT:a8 P t ty) (hel:ty.elem.isSome=true) (ho:o.op= .call ⟨.builtin .len,#[x],ts⟩) (hts:ts[0]? =some t) (hx:s.ev x= .vw j o1 m k) (hj:s.bx j=some cs):bE P o s ⟨.d (.leaf (.val (.int .i64 m))),none⟩:=by
 exact Wz
theorem xe {o:Oper} {t:TypeId} {ty:Ty} {x:Operand} {ts:Array TypeId} (hT:a8 P t ty) (hel:ty.elem.isSome=true) (ho:o.op= .call ⟨.builtin .len,#[x],ts⟩) (hts:ts[0]? =some t) (hx:s.ev x= .nil):bE P o s ⟨.d (.leaf (.val (.int .i64 0))),none⟩:=by
 obtain⟨d,hu,_,hel',_⟩:=hT.und;cases he:ty.elem with
 |none=>rw[he]at hel;cases hel
 |some p=>
  obtain⟨et,k'⟩:=p;obtain⟨rfl,_⟩:=hel' et k' he;refine ak fun n S0 w0 g a w hM=>⟨.int .i64 0,w,?_,Below.refl _ _,AV.M.val rfl⟩
  have h:=hM.ev x;rw[hx]at h;have e1:a.eval x= .slice none 0 0:=h;exact SY
inductive eK (s:AS) (x:Operand) (m k e:Nat):Option Nat->List AV->Prop
 |nil:s.ev x= .nil->m=0->eK s x m k e none []
 |own {j:Nat} {cs:List AV}:s.ev x= .own j m k e->s.bx j=some cs->eK s x m k e (some j) cs
def jm:Option Nat->Bool
 |some j=>!(bL j)
 |none=>true
theorem oL {P:Program} {w:World} (t ty:TypeId) (base:Nat) (e:TypeId) (i:TypeInfo) (z:Value) (size bytes:Nat) (ht:P.underlying t=some (.slice e)) (hi:P.info? e=some i) (hz:i.zero=some z)
 (hsize:i.size=size) (hby:i.bytes=bytes) (hzs:z.cells.size=size) (hsz:0<size)
 (v:Value) (n:Nat) (xs:List Value) (hown:w.ownsRow base e size v n xs)
 (ad:Addr) (m c:Nat) (news:List Value) (hl:news.length=m*size) (hnews:∀j u,news[j]? =some u->w.cell? (ad.add j)=some u) (h1:∀u∈news,u.oneCell'=true)
 (hm:0<m) (h63:n+m<=maxLen) (hbytes:(n+m)*bytes<=140737488355328) (hbase:base<=w.heap.size) (H:Nat) (hH:w.heap.size=H):
 ∃g cap w',(Builtin.append_ #[t,t] ty #[v, .slice (some ad) m c]).run P w= .ok (.slice (some ⟨g,0,none⟩) (n+m) cap) w' /\
  w'.ownsRow base e size (.slice (some ⟨g,0,none⟩) (n+m) cap) (n+m) (xs++news)/\w.grownBy w' v.ownBlock/\(v.ownBlock=some g∨g=H)/\g<w'.heap.size /\
  (v.ownBlock≠some g-> ∀b,b<w.heap.size->w'.heap[b]? =w.heap[b]?) /\
  (∀arr,v.ownBlock=some g->w.heap[g]? =some (.cells arr e (0,0))-> ∀cur,w'.heap[g]? =some (.cells cur e (0,0))->cur.size=arr.size/\True) /\
  (∀(p:Value->Prop),(∀u∈z.cells.toList,p u)->(∀u∈news,p u)->(∀b,v.ownBlock=some b-> ∀arr,w.heap[b]? =some (.cells arr e (0,0))-> ∀u∈arr.toList,p u)-> ∀cur,w'.heap[g]? =some (.cells cur e (0,0))-> ∀u∈cur.toList,p u):=by
 subst hsize;subst hby;subst hH;have hsmall:n+m<=9223372036854775807:=by simp only[maxLen]at h63;omega
 have hlen:(xs++news).length=(n+m)*i.size:=by rw[L_,hown.1,hl,Nat.add_mul]
 have pz:∀(p:Value->Prop) k,(∀u∈z.cells.toList,p u)-> ∀u∈(Builtin.zeroCells z.cells k).toList,p u:=by
  intro p k hp u hu;obtain⟨q,hq⟩:=W_ hu;have hu':=(G_.1 hq);obtain⟨hql,hqe⟩:=hu'
  simp only[Builtin.zeroCells]at hqe hql
  rw[<- hqe]
  simp only[Array.getElem_toList,Array.getElem_map,Array.getElem_range]
  have hmod:q%z.cells.size<z.cells.size:=Nat.mod_lt _ O_
  rw[getElem!_pos z.cells _ hmod];exact hp _ S_
 have grown:∀(old:Nat),old<n+m-> ∀(row:Option Nat),
  (w.drew.alloc (.cells (xs.toArray++news.toArray++Builtin.zeroCells z.cells (grownCap w (n+m) old e-(n+m))) e)).ownsRow base e i.size
   (.slice (some ⟨w.heap.size,0,none⟩) (n+m) (grownCap w (n+m) old e)) (n+m) (xs++news) /\
  w.grownBy (w.drew.alloc (.cells (xs.toArray++news.toArray++Builtin.zeroCells z.cells (grownCap w (n+m) old e-(n+m))) e)) row:=by
  intro old ho row;have hge:=grownCap_ge w (n+m) old e;have hcm:grownCap w (n+m) old e<=maxLen:=grownCap_le_maxLen w (n+m) old e h63;refine⟨⟨hlen, .inr ⟨w.heap.size,_,_,rfl,hbase,heap_alloc_new w.drew _,hge,hcm,?_,?_⟩⟩,⟨rfl,rfl,rfl,by simp,fun k hk _=>Below.heap_alloc w.drew _ k hk⟩⟩
  ·simp only[Array.size_append,List.size_toArray,size_zeroCells,hzs,hown.1,hl,<- Nat.add_mul]
   congr 1
   omega
  ·simp only[Array.toList_append,e_]
   rw[<- e_,<- hlen];exact List.take_left
 have fresh:∀(old:Nat) (p:Value->Prop),(∀u∈z.cells.toList,p u)->(∀u∈news,p u)->(∀u∈xs,p u)-> ∀cur,(w.drew.alloc (.cells (xs.toArray++news.toArray++Builtin.zeroCells z.cells (grownCap w (n+m) old e-(n+m))) e)).heap[w.heap.size]? =some (.cells cur e (0,0))-> ∀u∈cur.toList,p u:=by
  intro old p h2 h3 h4 cur hc u hu;have h5:=heap_alloc_new w.drew (.cells (xs.toArray++news.toArray++Builtin.zeroCells z.cells (grownCap w (n+m) old e-(n+m))) e);have h6:(w.drew.alloc (.cells (xs.toArray++news.toArray++Builtin.zeroCells z.cells (grownCap w (n+m) old e-(n+m))) e)).heap[w.heap.size]? =some (.cells (xs.toArray++news.toArray++Builtin.zeroCells z.cells (grownCap w (n+m) old e-(n+m))) e (0,0)):=h5;rw[h6]at hc
  simp only[X_,Obj.cells.injEq]at hc
  rw[<- hc.1]at hu
  simp only[Array.toList_append,List.mem_append]at hu
  rcases hu with(hu|hu)|hu
  ·exact h4 u (by simpa using hu)
  ·exact h3 u (by simpa using hu)
  ·exact pz p _ h2 u hu
 rcases hown.2 with⟨rfl,rfl⟩| ⟨g,cap,cur,rfl,hbg,hg,hnc,hcm,hcs,htake⟩
 ·have hx:xs=[]:=E_ (by simpa using hown.1)
  subst hx;have hr:=run_append_nil (P:=P) w t ty e i z ht hi hz ad m c news hl hnews O_ O_ (by have hb:=hbytes;simp only[J_]at hb;omega);have hgr:=grown 0 O_ (Value.ownBlock (.slice none 0 0));have hfr:=fresh 0
  simp only[J_,List.nil_append,Array.empty_append]at hgr hfr ⊢
  refine⟨_,_,_,hr,hgr.1,hgr.2,Or.inr rfl,?_,fun _ b hb=>Below.heap_alloc w.drew _ b hb,fun _ h=>by simp[Value.ownBlock]at h,fun p h2 h3 _=>hfr p h2 h3 (fun u hu=>by cases hu)⟩;show w.heap.size<(w.heap.push _).size
  simp
 ·by_cases hroom:n+m<=cap
  ·have hfit:n*i.size+news.length<=cur.size:=by rw[hl,hcs,<- Nat.add_mul];exact P_ _ hroom
   have hr:=run_append_room (P:=P) w t ty e i ht hi g n cap cur hg ad m c news hl hnews h1 hroom hfit;have hset:=setRow_heap w g cur (cur.toList.take (n*i.size)++news++cur.toList.drop (n*i.size+news.length)).toArray e (0,0) hg;refine⟨g,cap,_,hr,⟨hlen, .inr ⟨g,cap,_,rfl,hbg,hset,hroom,hcm,?_,?_⟩⟩,⟨rfl,rfl,rfl,by simp,fun k _ hk=>setRow_other w g k _ (fun e=>hk (by simp[Value.ownBlock,e]))⟩,Or.inl rfl,?_,fun h=>absurd rfl h,?_,?_⟩
   ·exact TZ
   ·rw[htake,<- hlen]
    exact List.take_left
   ·have:=(A_.1 hset).1
    exact this
   ·intro arr _ harr cur' hc
    rw[hset]at hc;rw[hg]at harr
    simp only[X_,Obj.cells.injEq]at hc harr
    rw[<- hc.1,<- harr.1];refine⟨?_,trivial⟩;exact TZ
   ·intro p _ h3 h4 cur' hc u hu
    rw[hset]at hc
    simp only[X_,Obj.cells.injEq]at hc
    rw[<- hc.1]at hu
    simp only[List.mem_append]at hu
    have hold:=h4 g rfl cur hg;rcases hu with(hu|hu)|hu
    ·exact hold u (List.mem_of_mem_take hu)
    ·exact h3 u hu
    ·exact hold u (List.mem_of_mem_drop hu)
  ·have holds:∀j u,xs[j]? =some u->w.cell? ((⟨g,0,none⟩:Addr).add j)=some u:=hown.cells (g:=g) rfl
   have hr:=run_append_grow (P:=P) w t ty e i z ht hi hz ⟨g,0,none⟩ n cap xs hown.1 holds ad m c news hl hnews O_ O_ (growslice_fits O_ hbytes);have hgr:=grown cap O_ (Value.ownBlock (.slice (some ⟨g,0,none⟩) n cap));have hgl:g<w.heap.size:=(A_.1 hg).1
   refine⟨_,_,_,hr,hgr.1,hgr.2,Or.inr rfl,?_,fun _ b hb=>Below.heap_alloc w.drew _ b hb,fun arr h=>?_,fun p h2 h3 h4=>fresh cap p h2 h3 (fun u hu=>h4 g rfl cur hg u ?_)⟩
   ·show w.heap.size<(w.heap.push _).size
    simp
   ·simp only[Value.ownBlock,X_]at h
    omega
   ·rw[<- htake]at hu
    exact List.mem_of_mem_take hu
theorem sJ {x:Operand} {m1 k et:Nat} {dead:Option Nat} {cs:List AV} (hM:MG n S0 w0 g s a w) (hbase:eK s x m1 k et dead cs):∃v,a.eval x=v/\ ∃olds,w.ownsRow 0 et k v m1 olds/\(∀b,v.ownBlock=some b-> ∃j,dead=some j/\b=g j)/\(∀j,dead=some j->v.ownBlock=some (g j)/\ ∃arr,w.heap[g j]? =some (.cells arr et (0,0))/\(bL j=false-> ∀u∈arr.toList,gb u=true))/\CM (Own S0 g s) w (cs.take (m1*k)) olds:=by
 have hxm:=hM.ev x;cases hbase with
 |nil h0 h1=>
  rw[h0]at hxm;subst h1;have hxm:a.eval x= .slice none 0 0:=hxm;exact⟨_,hxm,[],World.ownsRow_nil _ _ _ _,fun b hb=>by simp[Value.ownBlock]at hb,fun j hj=>(by cases hj),by simpa using CM.nil _ _⟩
 |own h0 h1=>
  rename_i j
  rw[h0]at hxm;obtain⟨c,e1,e2,e3,e4,arr,e5,e6⟩:=hxm.2 cs h1;obtain⟨_,arr',e',h7,h8,h9,_⟩:=hM.bm j cs h1;rw[e5]at h7;cases h7;have hle:=h8.1
  have hcm:CM (Own S0 g s) w (cs.take (m1*k)) (arr.toList.take (m1*k)):=by
   have:=h8.cm.take (m1*k)
   rwa[List.take_take,Nat.min_eq_left e4]at this
  refine⟨_,e1,arr.toList.take (m1*k),⟨by simp at hle ⊢;omega, .inr ⟨g j,c,arr,rfl,Nat.zero_le _,e5,e2,by unfold maxLen;exact e3,e6,rfl⟩⟩,fun b hb=>⟨j,rfl,by simpa[Value.ownBlock]using hb.symm⟩,fun j' hj'=>by cases hj';exact⟨rfl,arr,e5,h9⟩,hcm⟩
theorem sV (hM:MG n S0 w0 g s a w) {d:Nat} (hdn:d<n) {x:Operand} {et k m1 m2 j':Nat} {dead:Option Nat} {cs xs:List AV} (hbase:eK s x m1 k et dead cs) (hxs:xs.length=m2*k) (hnew:ap s.b j'=none/\iF j'=false) (hlb:cM j'=false)
 {v:Value} {olds news:List Value} (hown:w.ownsRow 0 et k v m1 olds) (hblk:∀b,v.ownBlock=some b-> ∃j,dead=some j/\b=g j) (hcln:∀j,dead=some j->v.ownBlock=some (g j)/\ ∃arr,w.heap[g j]? =some (.cells arr et (0,0))/\(bL j=false-> ∀u∈arr.toList,gb u=true)) (holds:CM (Own S0 g s) w (cs.take (m1*k)) olds)
 (hncm:CM (Own S0 g s) w xs news) {B cap:Nat} {w':World} (h2:w'.ownsRow 0 et k (.slice (some ⟨B,0,none⟩) (m1+m2) cap) (m1+m2) (olds++news)) (h3:w.grownBy w' v.ownBlock) (h4:v.ownBlock=some B∨B=w.heap.size)
 (h5:v.ownBlock≠some B-> ∀b,b<w.heap.size->w'.heap[b]? =w.heap[b]?) (h6:∀arr,v.ownBlock=some B->w.heap[B]? =some (.cells arr et (0,0))-> ∀cur,w'.heap[B]? =some (.cells cur et (0,0))->cur.size=arr.size)
 (h7:bL j'=false-> ∀cur,w'.heap[B]? =some (.cells cur et (0,0))-> ∀u∈cur.toList,gb u=true):
 MG n S0 w0 (fun i=>if i=j' then B else g i) ⟨(d, .own j' (m1+m2) k et)::s.t,(j',some (cs.take (m1*k)++xs))::fB dead s.b⟩ (a.put (some d) (.slice (some ⟨B,0,none⟩) (m1+m2) cap)) w':=by
 obtain⟨h2l,h2⟩:=h2;rcases h2 with⟨h2,_⟩| ⟨g2,cap2,cur,h2v,_,h2h,h2n,h2m,h2s,h2t⟩
 ·cases h2
 ·simp only[Value.slice.injEq,X_,Addr.mk.injEq]at h2v
  obtain⟨⟨rfl,_⟩,_,rfl⟩:=h2v
  have hcp:fK (Own S0 g s) w (cs.take (m1*k)++xs) cur.toList:=by
   have hcm:=holds.append hncm;have hl:=hcm.1;rw[<- h2t]at hcm;refine⟨by rw[hl,<- h2t];simp;omega,fun q x u hq hu=>hcm.2 q x u hq ?_⟩;rw[List.getElem?_take,if_pos]
   ·exact hu
   ·have h9:=(G_.1 hq).1
    rw[hl,<- h2t,U_]at h9;omega
  have hlen:(cs.take (m1*k)++xs).length=(m1+m2)*k:=by
   rw[L_,hxs,Nat.add_mul];have:=holds.1;have:=hown.1;omega
  have hgi:∀j,dead=some j-> ∃cj,s.bx j=some cj:=fun j hj=>by cases hbase with
   |nil=>cases hj
   |own _ h1=>cases hj;exact⟨cs,h1⟩
  exact hM.append hdn hnew.1 hnew.2 hlb (dead:=dead) (B:=B) (arr:=cur) (e:=et) (m:=m1+m2) (k:=k) (c:=cap) hgi h3.size ⟨h3.os,h3.tape,h3.output⟩ (fun b hb hne=>h3.block b hb (fun e=>by obtain⟨j,hj,e2⟩:=hblk b e.symm;exact hne j hj e2))
   (fun j hj a1 e1 h9=>by
    obtain⟨h10,arr,h11,_⟩:=hcln j hj;rw[h11]at h9
    simp only[X_,Obj.cells.injEq]at h9
    obtain⟨rfl,rfl,_⟩:=h9
    by_cases hB:B=g j
    ·subst hB
     exact⟨cur,h2h,h6 arr h10 h11 cur h2h⟩
    ·refine⟨arr,?_,rfl⟩
     rcases h4 with h4|h4
     ·rw[h10]at h4;exact absurd (Option.some.inj h4).symm hB
     ·exact(h5 (by rw[h10];simpa using fun e=>hB e.symm) (g j) (A_.1 h11).1).trans h11)
   h2h (fun hwf=>h7 hwf cur h2h)
   (by
    rcases h4 with h4|h4
    ·obtain⟨j,hj,e2⟩:=hblk B h4;exact .inl ⟨j,hj,e2⟩
    ·exact .inr (Nat.le_of_eq h4.symm)) hcp h2n (by unfold maxLen at h2m;exact h2m) (by rw[hlen];exact l_ _) h2s
def oH (S:Nat->Prop) (w:World) (v:Value) (m2 k:Nat) (xs:List AV):Prop:=∃(ad:Addr) (c2:Nat) (news:List Value),v= .slice (some ad) m2 c2/\news.length=m2*k/\(∀j u,news[j]? =some u->w.cell? (ad.add j)=some u)/\CM S w xs news
theorem Dm {S:Nat->Prop} {w:World} {v:Value} {m2 k:Nat} {xs:List AV} (hyv:AV.M S w (.sl m2 xs) v) (hxs:xs.length=m2*k) (hpos:0<xs.length):oH S w v m2 k xs:=by
 cases hyv with
 |emp=>simp at hpos
 |sl f h1 h2 h3 h4 h5 h6=>
  rename_i b off c
  refine⟨⟨b,off,none⟩,c,(List.range xs.length).map f,rfl,by simp[hxs],fun j u hj=>?_,by simp,fun j x v hx hv=>?_⟩
  ·have hjl:j<xs.length:=by have:=(G_.1 hj).1;simpa using this
   have:u=f j:=by simp[hjl]at hj;exact hj.symm
   rw[b7,this];exact h5 j xs[j] S_
  ·have hjl:j<xs.length:=(G_.1 hx).1
   have:v=f j:=by simp[hjl]at hv;exact hv.symm
   rw[this];exact h6 j x hx
theorem jR {o:Oper} {d:Nat} {x y:Operand} {t et k m1 m2 j':Nat} {ty te:Ty} {dead:Option Nat} {cs xs:List AV} (hT:a8 P t ty) (hE:a8 P et te) (ho:o.op= .call ⟨.builtin .append,#[x,y],#[t,t]⟩) (hd:o.dst=some d) (hel:ty.elem=some (et,k)) (hk:te.size=k) (hk0:0<k)
 (hbase:eK s x m1 k et dead cs) (hxs:xs.length=m2*k) (hm:0<m2) (hb:(m1+m2)*te.bytes<=140737488355328) (h63:m1+m2<=9223372036854775807) (hnew:ap s.b j'=none/\iF j'=false) (hlb:cM j'=false) (hwb:bL j'=true∨(bB te.zero && bB xs && jm dead)=true) {n:Nat} {S0:Nat->Prop} {w0:eR} {g:Nat->Nat} {a:Act} {w:World} {K:Act->World->Prop} {Q:Exit->Act->World->Prop} (hM:MG n S0 w0 g s a w) (hnw:oH (Own S0 g s) w (a.eval y) m2 k xs) (hdn:d<n)
 (hK:∀g' a' w',MG n S0 w0 g' ⟨(d, .own j' (m1+m2) k et)::s.t,(j',some (cs.take (m1*k)++xs))::fB dead s.b⟩ a' w'->K a' w'):o.wp P a w K Q:=by
 obtain⟨u,hu,_,hel',_⟩:=hT.und;obtain⟨rfl,hks⟩:=hel' et k hel;obtain⟨z,hz,hzm⟩:=hE.zero
 obtain⟨i,hi,hiz,his,hib⟩:∃i,P.info? et=some i/\i.zero=some z/\i.size=k/\i.bytes=te.bytes:=by
  cases hq:P.info? et with
  |none=>rw[hq]at hz;cases hz
  |some i=>
   rw[hq]at hz hks;have h1:=hE.bytes;rw[hq]at h1;exact⟨i,rfl,hz,by simpa using hks,by simpa using h1⟩
 obtain⟨ad,c2,news,hya,hnl,hnews,hncm⟩:=hnw;obtain⟨v,hxv,olds,hown,hblk,hcln,holds⟩:=sJ hM hbase
 have hzl:z.cells.size=k:=by
  have:=(hzm (Own S0 g s) w).1
  simp at this
  have h2:=hE.zlen;omega
 obtain⟨B,cap,w',hr,h2,h3,h4,_,h5,h6,h7⟩:=oL (P:=P) (w:=w) t o.type 0 et i z k te.bytes hu hi hiz his hib hzl hk0 v m1 olds hown ad m2 c2 news hnl hnews (hncm.plain) hm (by unfold maxLen;omega) hb (Nat.zero_le _) w.heap.size rfl
 have:=sV hM hdn hbase hxs hnew hlb hown hblk hcln holds hncm h2 h3 h4 h5 (fun arr p q cur r=>(h6 arr p q cur r).1) (fun hwf cur hc u hu=>by
  rcases hwb with hwb|hwb
  ·rw[hwb]at hwf;cases hwf
  ·simp only[B_]at hwb
   have hz0:∀u∈z.cells.toList,gb u=true:=jl (hzm (Own S0 g s) w) hwb.1.1;have hn0:∀u∈news,gb u=true:=jl hncm hwb.1.2;refine h7 (fun u=>gb u=true) hz0 hn0 (fun b hb arr har u hu=>?_) cur hc u hu;obtain⟨j,hj,rfl⟩:=hblk b hb;obtain⟨_,arr',h11,h12⟩:=hcln j hj;rw[h11]at har
   simp only[X_,Obj.cells.injEq]at har
   obtain⟨rfl,_⟩:=har;have:=hwb.2;rw[hj]at this;exact h12 (by simpa[jm]using this) u hu)
 unfold Oper.wp execOp
 simp only[ho,resolve,invoke,builtin,Y_,a_,R_,List.map_toArray,List.map_cons,List.map_nil,hxv,hya,hr]
 show K (a.put o.dst _) w';rw[hd];exact hK _ _ _ this
theorem fC {o:Oper} {d:Nat} {x y:Operand} {t et k m1 m2 j':Nat} {ty te:Ty} {dead:Option Nat} {cs xs:List AV} (hT:a8 P t ty) (hE:a8 P et te) (ho:o.op= .call ⟨.builtin .append,#[x,y],#[t,t]⟩) (hd:o.dst=some d) (hel:ty.elem=some (et,k)) (hk:te.size=k) (hk0:0<k)
 (hbase:eK s x m1 k et dead cs) (hy:s.ev y= .d (.leaf (.sl m2 xs))) (hxs:xs.length=m2*k) (hm:0<m2) (hb:(m1+m2)*te.bytes<=140737488355328) (h63:m1+m2<=9223372036854775807) (hnew:ap s.b j'=none/\iF j'=false) (hlb:cM j'=false) (hwb:bL j'=true∨(bB te.zero && bB xs && jm dead)=true) {n:Nat} {S0:Nat->Prop} {w0:eR} {g:Nat->Nat} {a:Act} {w:World} {K:Act->World->Prop} {Q:Exit->Act->World->Prop} (hM:MG n S0 w0 g s a w) (hdn:d<n)
 (hK:∀g' a' w',MG n S0 w0 g' ⟨(d, .own j' (m1+m2) k et)::s.t,(j',some (cs.take (m1*k)++xs))::fB dead s.b⟩ a' w'->K a' w'):o.wp P a w K Q:=by
 have hyv:=hM.ev y;rw[hy]at hyv;exact jR hT hE ho hd hel hk hk0 hbase hxs hm hb h63 hnew hlb hwb hM (Dm hyv hxs (by rw[hxs];exact Nat.mul_pos hm hk0)) hdn hK
def OZ:TV->Value
 | .d (.leaf (.val v))=>v
 |_=>undef
theorem Cl {o:Oper} {r:Value} (hv:∀x∈o.op.operands.toList,∃v,s.ev x= .d (.leaf (.val v))) (hr:∀(ρ:Operand->Value) (w:World),(∀x∈o.op.operands.toList,ρ x=OZ (s.ev x))->(execOp ρ o).run P w= .ok (.value r) w) (h1:r.oneCell'=true):bE P o s ⟨.d (.leaf (.val r)),none⟩:=by
 refine ak fun n S0 w0 g a w hM=>⟨r,w,hr _ _ (fun x hx=>?_),Below.refl _ _,AV.M.val h1⟩
 obtain⟨v,hv⟩:=hv x hx;rw[a7 hM hv,hv];rfl
end
inductive RV where
 |one (d:DV)
 |tup (l:List DV)
def RV.tv:RV->TV
 | .one d=> .d d
 | .tup l=> .tup l
def RV.M (S:Nat->Prop) (w:World):RV->Value->Prop
 | .one d,v=>DV.M S w d v
 | .tup ts,v=>∃vs:List Value,v= .tuple vs.toArray/\ts.length=vs.length/\ ∀(i:Nat) (x:DV) (u:Value),ts[i]? =some x->vs[i]? =some u->DV.M S w x u
def VM (S:Nat->Prop) (w:World):List DV->List Value->Prop
 | [],[]=>True
 |d::ds,v::vs=>DV.M S w d v/\VM S w ds vs
 |_,_=>False
structure dU (S:Nat->Prop) (w:World):Prop where
 tab:m0 w
 blk:∀b,S b->b<w.heap.size/\ ∀off v,w.cell? ⟨b,off,none⟩=some v->gb v=true
 gl:∀k cs,ap GT k=some cs->TV.M S (fun _=>0) ⟨[],[]⟩ w (.rp cs) (.pointer (some ⟨k,0,none⟩))
def F4 (S:Nat->Prop) (r:RV) (w:World) (e:Ending) (w':World):Prop:=∃v,e= .returned v/\RV.M S w' r v/\Below w.heap.size w w'
structure aa (P:Program) (f:FuncId) (ds:List DV) (r:RV):Prop where
 enter:∀args w,(callFunc f args).run P w= .ok (.enter f args) w
 calls:∀S w vs,dU S w->VM S w ds vs->Calls P f vs.toArray w (F4 S r w)
def GX (s:AS):List Operand->Option (List DV)
 | []=>some []
 |x::r=>match KE (s.ev x),GX s r with
  |some dv,some l=>some (dv::l)
  |_,_=>none
section
variable {P:Program} {n:Nat} {S0:Nat->Prop} {w0:eR} {g:Nat->Nat} {s s':AS} {a:Act} {w w':World}
theorem OQ (hM:MG n S0 w0 g s a w):∀(r:List Operand) (l:List DV),GX s r=some l->VM (Own S0 g s) w l (r.map a.eval)
 | [],l,h=>by cases h;trivial
 |x::r,l,h=>by
  simp only[GX]at h
  split at h
  ·rename_i dv l' h1 h2
   cases h;exact⟨Av hM h1,OQ hM r l' h2⟩
  ·cases h
theorem Bq {o:Oper} {f:Operand} {fid:FuncId} {args:Array Operand} {ts:Array TypeId} {ds:List DV} {r:RV} (ho:o.op= .call ⟨.value f,args,ts⟩) (hf:s.ev f= .d (.leaf (.val (.func (.func fid) #[] #[])))) (hd:GX s args.toList=some ds) (hc:aa P fid ds r) (hcl:jJ s):bE P o s ⟨r.tv,none⟩:=by
 intro n S0 w0 g a w K Q hM hdn hK;have hv:=OQ hM args.toList ds hd;have hcall:=hc.calls (Own S0 g s) w _ ⟨hM.tg.here hM.grow,hM.clean hcl,hM.gl⟩ hv
 have hrun:(execOp a.eval o).run P w= .ok (.enter fid (args.map a.eval)) w:=by
  unfold execOp;rw[ho]
  simp only[resolve,a7 hM hf,Deferred.ofValue,Y_,a_,R_,invoke]
  have:=hc.enter (args.map a.eval) w
  simpa using this
 unfold Oper.wp;rw[hrun];show Calls P fid _ w _;have e:(List.map a.eval args.toList).toArray=args.map a.eval:=Array.ext' S_;rw[e]at hcall;refine hcall.mono ?_;rintro en w1 ⟨v,rfl,hv1,hb⟩;show K (a.put o.dst v) w1;cases hod:o.dst with
 |none=>rw[hod]at hK;exact hK g _ _ (hM.grow' hb)
 |some d=>
  have:=hM.put (hdn d hod) (x:=r.tv) (v:=v) hb (by cases r<;>exact hv1);rw[hod]at hK;exact hK g _ _ this
end
def UH:Operand->List Nat
 | .tmp k=>[k]
 |_=>[]
def Bi (o:Oper):List Nat:=o.op.operands.toList.flatMap UH
def fJ (s:AS) (j:Nat):Bool:=match ap s.b j with
 |none=>!(iF j || cM j)
 |some _=>false
def jB (s:AS):TV->Bool
 | .box j _=>match s.bx j with
  |some _=>true
  |none=>false
 |_=>true
def Iv:TV->List Nat
 | .box j _=>[j]
 |_=>[]
def nJ (s:AS):List Operand->Option (List CV)
 | []=>some []
 |x::r=>match s.ev x,nJ s r with
  | .d (.leaf (.val v)),some l=>some (.val v::l)
  | .box j o,some l=>some (.box j o::l)
  |_,_=>none
theorem mO {n:Nat} {S0:Nat->Prop} {w0:eR} {s:AS} {g:Nat->Nat} {a:Act} {w:World} (hM:MG n S0 w0 g s a w):∀{r:List Operand} {l:List CV},nJ s r=some l->qm g s l (r.map a.eval)
 | [],l,h=>by cases h;trivial
 |x::r,l,h=>by
  have hx:=hM.ev x
  simp only[nJ]at h
  split at h
  ·rename_i v l' h1 h2
   cases h;rw[h1]at hx;exact⟨bc hx,mO hM h2⟩
  ·rename_i j o l' h1 h2
   cases h;rw[h1]at hx;exact⟨hx,mO hM h2⟩
  ·cases h
theorem kK {s s':AS}:∀{r:List Operand},(∀x∈r,s'.ev x=s.ev x)->nJ s' r=nJ s r
 | [],_=>rfl
 |x::r,h=>by simp only[nJ,h x S_,kK (r:=r) (fun y hy=>h y (by simp[hy]))]
def Lz (s:AS) (ty:Ty) (i off:Nat) (tv:TV):Option (r6 × List Nat):=match KE tv,s.bx i with
 |some dv,some cs=>match Nat.beq dv.cells.length ty.size,Nat.ble (off+ty.size) cs.length,Vq i dv.cells with
  |true,true,true=>some (⟨.junk,some [(i,some (bz cs off dv.cells))]⟩,[i])
  |_,_,_=>none
 |_,_=>none
def Va (s:AS) (ty:Ty) (i off:Nat) (tv:TV):Option (r6 × List Nat):=match AZ s tv with
 |some (b,q)=>match s.bx i with
  |some cs=>match Nat.beq ty.size 1,Nat.ble (off+1) cs.length with
   |true,true=>some (⟨.junk,some [(i,some (bz cs off [b]))]⟩,i::q)
   |_,_=>none
  |none=>none
 |none=>Lz s ty i off tv
def Vy:Bool->Bool->List AV->Option TV
 |true,false,[.ow j n k e]=>some (.own j n k e)
 |true,false,[.bp j o]=>some (.box j o)
 |true,false,[.nl]=>some .nil
 |_,ag,l=>match Ls ag l with
  |some dv=>some (.d dv)
  |none=>none
theorem F3 {lb ag:Bool} {l:List AV} {tv:TV} (h:Vy lb ag l=some tv):(∃dv,Ls ag l=some dv/\tv= .d dv)∨(lb=true/\ag=false/\ ∃b,l=[b]/\TN b=some tv):=by
 unfold Vy at h
 split at h
 ·cases h;exact .inr ⟨rfl,rfl,_,rfl,rfl⟩
 ·cases h;exact .inr ⟨rfl,rfl,_,rfl,rfl⟩
 ·cases h;exact .inr ⟨rfl,rfl,_,rfl,rfl⟩
 ·split at h
  ·cases h;exact .inl ⟨_,by assumption,rfl⟩
  ·cases h
def fv (T:TypeId->Option Ty) (j:Nat) (s:AS) (o:Oper):Option (r6 × List Nat):=
 match o.op with
 | .move x=>some (⟨s.ev x,none⟩,[])
 | .assign x=>some (⟨s.ev x,none⟩,[])
 | .pick c x y=>match s.ev c with
  | .d (.leaf (.val (.bool b)))=>some (⟨Lj b (s.ev x) (s.ev y),none⟩,[])
  |_=>none
 | .alloc t=>match o.dst,T t with
  |some _,some ty=>match fJ s j,bB ty.zero with
   |true,true=>some (⟨.box j 0,some [(j,some ty.zero)]⟩,[j])
   |_,_=>none
  |_,_=>none
 | .box _ x=>match o.dst,KE (s.ev x)with
  |some _,some dv=>match fJ s j,bB dv.cells with
   |true,true=>some (⟨.box j 0,some [(j,some dv.cells)]⟩,[j])
   |_,_=>none
  |_,_=>none
 | .load t x=>match T t,s.ev x with
  |some ty, .box i off=>match s.bx i with
   |some cs=>match Nat.ble (off+ty.size) cs.length,Vy (cM i) ty.agg ((cs.drop off).take ty.size)with
    |true,some tv=>some (⟨tv,none⟩,[i])
    |_,_=>none
   |none=>none
  |some ty, .rp cs=>match Nat.ble ty.size cs.length,Ls ty.agg (cs.take ty.size)with
   |true,some dv=>some (⟨.d dv,none⟩,[])
   |_,_=>none
  |_,_=>none
 | .store t x y=>match o.dst,T t,s.ev x with
  |none,some ty, .box i off=>match cM i with
   |true=>Va s ty i off (s.ev y)
   |false=>Lz s ty i off (s.ev y)
  |_,_,_=>none
 | .fieldAddr t x f=>match T t with
  |some ty=>match ty.flds[f]?,Kq (s.ev x),jB s (s.ev x)with
   |some (off,_,_),true,true=>some (⟨Qp (s.ev x) off,none⟩,Iv (s.ev x))
   |_,_,_=>none
  |none=>none
 | .extract x i=>match s.ev x with
  | .tup ts=>match ts[i]? with
   |some dv=>some (⟨.d dv,none⟩,[])
   |none=>none
  |_=>none
 | .field t x f=>match T t,s.ev x with
  |some ty, .d (.agg cs)=>match ty.flds[f]? with
   |some (off,k,ag)=>match Nat.ble (off+k) cs.length,Ls ag ((cs.drop off).take k)with
    |true,some dv=>some (⟨.d dv,none⟩,[])
    |_,_=>none
   |none=>none
  |_,_=>none
 | .build t parts=>match T t,eN s parts.toList with
  |some ty,some l=>match ty.flds,mR (xa ty) ty.zero l with
   |_::_,some cs=>some (⟨.d (.agg cs),none⟩,[])
   |_,_=>none
  |_,_=>none
 | .buildSlice t len parts=>match T t,eN s parts.toList with
  |some ty,some l=>match ty.elem with
   |some (et,k)=>match T et with
    |some te=>match Nat.ble 1 k,Nat.beq te.zero.length k,Nat.ble (len*k) 16777216,Nat.ble 1 len,mR (fun i=>some (i*k,k)) (eL te.zero len) l with
     |true,true,true,true,some cs=>some (⟨.d (.leaf (.sl len cs)),none⟩,[])
     |_,_,_,_,_=>none
    |none=>none
   |none=>none
  |_,_=>none
 | .binOp op t x y _=>match s.ev x,s.ev y with
  | .d (.leaf (.val u)), .d (.leaf (.val v))=>match j7 op t x y u v with
   |some r=>match r.oneCell' with
    |true=>some (⟨.d (.leaf (.val r)),none⟩,[])
    |false=>none
   |none=>match u,v,T t with
    | .bool b, .bool c,some ty=>match ty.isBool,VK op b c with
     |true,some r=>some (⟨.d (.leaf (.val (.bool r))),none⟩,[])
     |_,_=>none
    |_,_,_=>none
  |_,_=>none
 | .unOp op _ x=>match s.ev x with
  | .d (.leaf (.val u))=>match xK (Op.unary op u)with
   |some r=>match r.oneCell' with
    |true=>some (⟨.d (.leaf (.val r)),none⟩,[])
    |false=>none
   |none=>none
  |_=>none
 | .call ⟨.builtin .len,⟨[x]⟩,⟨t::_⟩⟩=>match T t,s.ev x with
  |some ty, .d (.leaf (.sl k _))=>match ty.elem with
   |some _=>some (⟨.d (.leaf (.val (.int .i64 k))),none⟩,[])
   |none=>none
  |some ty, .d (.leaf (.val (.string b)))=>match ty.isStr with
   |true=>some (⟨.d (.leaf (.val (.int .i64 b.size))),none⟩,[])
   |false=>none
  |some ty, .own j m _ _=>match ty.elem,s.bx j with
   |some _,some _=>some (⟨.d (.leaf (.val (.int .i64 m))),none⟩,[j])
   |_,_=>none
  |some ty, .nil=>match ty.elem with
   |some _=>some (⟨.d (.leaf (.val (.int .i64 0))),none⟩,[])
   |none=>none
  |some ty, .vs j _ m _ _ _=>match ty.elem,s.bx j with
   |some _,some _=>some (⟨.d (.leaf (.val (.int .i64 m))),none⟩,[j])
   |_,_=>none
  |some ty, .vw j _ m _=>match ty.elem,s.bx j with
   |some _,some _=>some (⟨.d (.leaf (.val (.int .i64 m))),none⟩,[j])
   |_,_=>none
  |_,_=>none
 | .convert t t' x=>match T t,T t',s.ev x with
  |some _,some ty, .d (.leaf (.val (.int _ i)))=>match ty.ik with
   |some k'=>some (⟨.d (.leaf (.val (.int k' (k'.wrap i)))),none⟩,[])
   |none=>none
  |_,_,_=>none
 | .nilCheck x=>match Kq (s.ev x),jB s (s.ev x)with
  |true,true=>some (⟨s.ev x,none⟩,Iv (s.ev x))
  |_,_=>none
 | .makeFunc fn first captured=>match nJ s first.toList,nJ s captured.toList with
  |some fs,some cs=>some (⟨.clo fn fs cs,none⟩,[])
  |_,_=>none
 |_=>none
section
variable {P:Program} {T:TypeId->Option Ty} {s s':AS}
theorem bA {j:Nat} (h:fJ s j=true):ap s.b j=none/\iF j=false:=by
 unfold fJ at h
 split at h
 ·simp at h;exact⟨by assumption,h.1⟩
 ·cases h
theorem ji {j:Nat} (h:fJ s j=true):cM j=false:=by
 unfold fJ at h
 split at h
 ·simp at h;exact h.2
 ·cases h
theorem nK {j:Nat} (h:fJ s j=true):ib j=false:=by
 cases h1:ib j
 ·rfl
 ·have:=ji h;rw[nB h1]at this;cases this
theorem Cb {tv:TV} {b:AV} {q:List Nat} (h:AZ s tv=some (b,q)) (hq:∀i∈q,ap s'.b i=ap s.b i):AZ s' tv=some (b,q):=by
 unfold AZ at h ⊢
 split at h
 ·rename_i j n k e0
  exact Ti
 ·rename_i j o
  exact Ti
 ·exact h
 ·cases h
theorem vo {ty:Ty} {i off:Nat} {tv:TV} {e:r6} {rb:List Nat} (h:Lz s ty i off tv=some (e,rb)) (hb:∀i∈rb,ap s'.b i=ap s.b i):Lz s' ty i off tv=some (e,rb):=by
 unfold Lz at h ⊢
 split at h
 ·rename_i dv cs hy hc
  split at h
  ·rename_i h1 h2 h3
   cases h;have e:s'.bx i=s.bx i:=by unfold AS.bx;rw[hb i S_]
   simp only[hy,e,hc,h1,h2,h3]
  ·cases h
 ·cases h
theorem EV {ty:Ty} {i off:Nat} {tv:TV} {e:r6} {rb:List Nat} (h:Va s ty i off tv=some (e,rb)) (hb:∀i∈rb,ap s'.b i=ap s.b i):Va s' ty i off tv=some (e,rb):=by
 unfold Va at h ⊢
 split at h
 ·rename_i b q hlk
  split at h
  ·rename_i cs hc
   split at h
   ·rename_i h1 h2
    cases h;have e:s'.bx i=s.bx i:=by unfold AS.bx;rw[hb i S_]
    simp only[Cb hlk (fun q hq=>hb q (by simp[hq])),e,hc,h1,h2]
   ·cases h
  ·cases h
 ·rename_i hlk
  have hn:AZ s' tv=none:=by
   unfold Lz at h
   split at h
   ·rename_i dv cs hy _
    cases tv<;>first|rfl|(have hy:none=some dv:=hy;cases hy)|(have hlk:some (AV.nl,([]:List Nat))=none:=hlk;cases hlk)
   ·cases h
  simp only[hn]
  exact vo h hb
theorem yj (hT:∀t d,T t=some d->a8 P t d) {j:Nat} {o:Oper} {e:r6} {rb:List Nat} (h:fv T j s o=some (e,rb)):bE P o s e:=by
 obtain⟨dst,op,ty0,pos,after,guard⟩:=o;unfold fv at h
 split at h<;>rename_i hop
 case h_1=>cases h;exact tT (.inl hop)
 case h_2=>cases h;exact tT (.inr hop)
 case h_3=>
  split at h
  ·rename_i b hc;cases h;exact Bl hop hc
  ·cases h
 case h_4=>
  split at h
  ·rename_i d ty hd ht
   split at h
   ·rename_i h1 h2;cases h;exact pZ (hT _ _ ht) hop hd (bA h1) h2 (fun h=>by rw[nK h1]at h;cases h)
   ·cases h
  ·cases h
 case h_5=>
  split at h
  ·rename_i d dv hd hx
   split at h
   ·rename_i h1 h2;cases h;exact Fm hop hd (bA h1) hx h2 (nK h1)
   ·cases h
  ·cases h
 case h_6=>
  split at h
  ·rename_i ty i off ht hx
   split at h
   ·rename_i cs hc
    split at h
    ·rename_i tv h1 h2
     cases h;rcases F3 h2 with⟨dv,h3,rfl⟩| ⟨h3,h4,b,h5,h6⟩
     ·exact tk (hT _ _ ht) hop hx hc (N_ h1) h3
     ·have hl:=N_ h1
      have hsz:ty.size=1:=by
       have:=congrArg List.length h5
       simp at this
       omega
      exact uz (hT _ _ ht) hop hx hc h3 h4 hsz hl h5 h6
    ·cases h
   ·cases h
  ·rename_i ty cs ht hx
   split at h
   ·rename_i dv h1 h2;cases h;exact uG (hT _ _ ht) hop hx (N_ h1) h2
   ·cases h
  ·cases h
 case h_7=>
  rename_i t x y
  split at h
  ·rename_i ty i off hd ht hx
   have hP:Lz s ty i off (s.ev y)=some (e,rb)->bE P ⟨none, .store t x y,ty0,pos,after,guard⟩ s e:=fun h=>by
    unfold Lz at h
    split at h
    ·rename_i dv cs hy hc
     split at h
     ·rename_i h1 h2 h3;cases h;exact zI (hT _ _ ht) rfl rfl hx hc hy (Nat.eq_of_beq_eq_true h1) (N_ h2) h3
     ·cases h
    ·cases h
   subst hop hd
   split at h
   ·unfold Va at h
    split at h
    ·rename_i b q hlk
     split at h
     ·rename_i cs hc
      split at h
      ·rename_i h1 h2;cases h;exact sR (hT _ _ ht) rfl rfl hx hc hlk (Nat.eq_of_beq_eq_true h1) (N_ h2)
      ·cases h
     ·cases h
    ·exact hP h
   ·exact hP h
  ·cases h
 case h_8=>
  split at h
  ·rename_i ty ht
   split at h
   ·rename_i off k ag hf hp hq
    cases h;refine jI (hT _ _ ht) hop hf rfl hp (fun j k' hj=>?_);rw[hj]at hq;unfold jB at hq
    split at hq
    ·rename_i heq
     cases heq
     split at hq
     ·rename_i cs hc;exact⟨cs,hc⟩
     ·cases hq
    ·rename_i hne
     exact absurd rfl (hne _ _)
   ·cases h
  ·cases h
 case h_9=>
  split at h
  ·rename_i ts hx
   split at h
   ·rename_i dv hi;cases h;exact uE hop hx hi
   ·cases h
  ·cases h
 case h_10=>
  split at h
  ·rename_i ty cs ht hx
   split at h
   ·rename_i off k ag hf
    split at h
    ·rename_i dv h1 h2;cases h;exact zg (hT _ _ ht) hop hf hx (N_ h1) h2
    ·cases h
   ·cases h
  ·cases h
 case h_11=>
  split at h
  ·rename_i ty l ht hp
   split at h
   ·rename_i p r cs hf h1;cases h;exact pv (hT _ _ ht) hop (by rw[hf];simp) hp h1
   ·cases h
  ·cases h
 case h_12=>
  split at h
  ·rename_i ty l ht hp
   split at h
   ·rename_i et k hel
    split at h
    ·rename_i te hte
     split at h
     ·rename_i cs h1 h2 h3 h4 h5;cases h;exact oY (hT _ _ ht) (hT _ _ hte) hop hel (N_ h1) (Nat.eq_of_beq_eq_true h2) (N_ h3) (N_ h4) hp h5
     ·cases h
    ·cases h
   ·cases h
  ·cases h
 case h_13=>
  split at h
  ·rename_i u v hx hy
   split at h
   ·rename_i r hr
    split at h
    ·rename_i h1;cases h;exact Aa hop hx hy hr h1
    ·cases h
   ·split at h
    ·split at h
     ·cases h;exact wP (hT _ _ (by assumption)) (by assumption) hop (by assumption) (by assumption) (by assumption)
     ·cases h
    ·cases h
  ·cases h
 case h_14=>
  split at h
  ·rename_i u hx
   split at h
   ·rename_i r hr
    split at h
    ·rename_i h1;cases h;exact CE hop hx hr h1
    ·cases h
   ·cases h
  ·cases h
 case h_15=>
  split at h
  ·rename_i ty k cs ht hx
   split at h
   ·rename_i p hp;cases h;exact tU (hT _ _ ht) (by rw[hp];rfl) hop rfl hx
   ·cases h
  ·rename_i ty b ht hx
   split at h
   ·rename_i hs
    cases h;obtain⟨d,hu,_,_,_,_,hst,_⟩:=(hT _ _ ht).und;exact xv (hu.trans (by rw[hst hs])) hop rfl hx
   ·cases h
  ·rename_i ty j m k e ht hx
   split at h
   ·rename_i p c hp hc;cases h;exact wX (hT _ _ ht) (by rw[hp];rfl) hop rfl hx hc
   ·cases h
  ·rename_i ty ht hx
   split at h
   ·rename_i p hp;cases h;exact xe (hT _ _ ht) (by rw[hp];rfl) hop rfl hx
   ·cases h
  ·rename_i ty j o1 m c1 k e ht hx
   split at h
   ·rename_i p c hp hc;cases h;exact zW (hT _ _ ht) (by rw[hp];rfl) hop rfl hx hc
   ·cases h
  ·rename_i ty j o1 m k ht hx
   split at h
   ·rename_i p c hp hc;cases h;exact Ae (hT _ _ ht) (by rw[hp];rfl) hop rfl hx hc
   ·cases h
  ·cases h
 case h_16=>
  split at h
  ·rename_i ty1 ty k i ht0 ht hx
   split at h
   ·rename_i k' hk
    cases h;obtain⟨d,hu,_⟩:=(hT _ _ ht0).und;exact uS (hT _ _ ht) hk (by rw[hu];rfl) hop hx
   ·cases h
  ·cases h
 case h_17=>
  rename_i x
  split at h
  ·rename_i hp hq
   cases h;refine ak fun n S0 w0 g a w hM=>?_
   have hm:=hM.ev x;unfold jB at hq;generalize hx:s.ev x=tv at *;cases tv with
   |box j o=>
    dsimp only at hq
    split at hq
    ·rename_i cs hc
     have e:=hm.2 cs hc;refine⟨_,w,?_,Below.refl _ _,hm⟩;unfold execOp;rw[hop]
     simp only[e]
     rfl
    ·cases hq
   |rp cs=>
    obtain⟨b,off,f,e,h1⟩:=hm;refine⟨_,w,?_,Below.refl _ _,⟨b,off,f,e,h1⟩⟩;unfold execOp;rw[hop]
    simp only[e]
    rfl
   |_=>cases hp
  ·cases h
 case h_18=>
  rename_i fn first captured
  split at h
  ·rename_i fs cs h1 h2
   cases h;refine ak fun n S0 w0 g a w hM=>⟨.func fn (first.map a.eval) (captured.map a.eval),w,?_,Below.refl _ _,?_⟩
   ·unfold execOp
    rw[hop];rfl
   ·exact⟨first.toList.map a.eval,captured.toList.map a.eval,by rw[show first.map a.eval=(first.toList.map a.eval).toArray from Array.ext' S_,show captured.map a.eval=(captured.toList.map a.eval).toArray from Array.ext' S_],mO hM h1,mO hM h2⟩
  ·cases h
 case h_19=>cases h
theorem bg {j:Nat} (h:ap s'.b j=ap s.b j):s'.bx j=s.bx j:=by unfold AS.bx;rw[h]
theorem ew {j:Nat} (h:ap s'.b j=ap s.b j):fJ s' j=fJ s j:=by unfold fJ;rw[h]
theorem tB {x:Operand} (h:∀k∈UH x,s'.tv k=s.tv k):s'.ev x=s.ev x:=by
 cases x with
 |tmp k=>exact h k (by simp[UH])
 |const v=>rfl
 |func f=>rfl
 |global g=>rfl
theorem jc:∀(l:List (Nat × Operand)),(∀p∈l,∀k∈UH p.2,s'.tv k=s.tv k)->eN s' l=eN s l
 | [],_=>rfl
 |(i,x)::l,h=>by simp only[eN,tB (h (i,x) S_),jc l (fun p hp=>h p (by simp[hp]))]
theorem vu:∀(l:List Operand),(∀x∈l,∀k∈UH x,s'.tv k=s.tv k)->GX s' l=GX s l
 | [],_=>rfl
 |x::l,h=>by simp only[GX,tB (h x S_),vu l (fun p hp=>h p (by simp[hp]))]
theorem aw {o:Oper} (ht:∀k∈Bi o,s'.tv k=s.tv k) {x:Operand} (hx:x∈o.op.operands.toList):s'.ev x=s.ev x:=
 tB fun k hk=>ht k (List.mem_flatMap.2 ⟨x,hx,hk⟩)
theorem yq {j:Nat} {o:Oper} {e:r6} {rb:List Nat} (h:fv T j s o=some (e,rb)) (ht:∀k∈Bi o,s'.tv k=s.tv k) (hb:∀i∈rb,ap s'.b i=ap s.b i):fv T j s' o=some (e,rb):=by
 obtain⟨dst,op,ty0,pos,after,guard⟩:=o;unfold fv at h ⊢;cases op<;>simp only at h ⊢ <;>try(exact h)
 case move x=>rw[aw ht (x:=x) (by simp[Op.operands])];exact h
 case assign x=>rw[aw ht (x:=x) (by simp[Op.operands])];exact h
 case pick c x y=>rw[aw ht (x:=c) (by simp[Op.operands]),aw ht (x:=x) (by simp[Op.operands]),aw ht (x:=y) (by simp[Op.operands])];exact h
 case alloc t=>
  exact TU
 case box t x=>
  rw[aw ht (x:=x) (by simp[Op.operands])];exact TU
 case load t x=>
  rw[aw ht (x:=x) (by simp[Op.operands])]
  split at h
  ·rename_i ty i off h1 h2
   split at h
   ·rename_i cs hc
    split at h
    ·rename_i dv h3 h4
     cases h;rw[bg (hb _ (List.mem_singleton_self _)),hc]
     simp only[h3,h4]
    ·cases h
   ·cases h
  ·exact h
  ·cases h
 case store t x y=>
  rw[aw ht (x:=x) (by simp[Op.operands]),aw ht (x:=y) (by simp[Op.operands])]
  split at h
  ·split at h
   ·rename_i hlb
    exact EV h hb
   ·rename_i hlb
    exact vo h hb
  ·cases h
 case fieldAddr t x f=>
  rw[aw ht (x:=x) (by simp[Op.operands])]
  split at h
  ·split at h
   ·rename_i h1 h2 h3
    cases h
    have e:jB s' (s.ev x)=jB s (s.ev x):=by
     exact UX
    simp only[e,h1,h2,h3]
   ·cases h
  ·cases h
 case extract x i=>rw[aw ht (x:=x) (by simp[Op.operands])];exact h
 case field t x f=>rw[aw ht (x:=x) (by simp[Op.operands])];exact h
 case build t parts=>rw[jc parts.toList (fun p hp k hk=>ht k (List.mem_flatMap.2 ⟨p.2,by simp[Op.operands];exact⟨p.1,by simpa using hp⟩,hk⟩))];exact h
 case buildSlice t len parts=>rw[jc parts.toList (fun p hp k hk=>ht k (List.mem_flatMap.2 ⟨p.2,by simp[Op.operands];exact⟨p.1,by simpa using hp⟩,hk⟩))];exact h
 case binOp op t x y t'=>rw[aw ht (x:=x) (by simp[Op.operands]),aw ht (x:=y) (by simp[Op.operands])];exact h
 case unOp op t x=>rw[aw ht (x:=x) (by simp[Op.operands])];exact h
 case convert t t' x=>rw[aw ht (x:=x) (by simp[Op.operands])];exact h
 case nilCheck x=>
  rw[aw ht (x:=x) (by simp[Op.operands])]
  split at h
  ·rename_i h1 h2
   cases h
   have e:jB s' (s.ev x)=jB s (s.ev x):=by
    exact UX
   simp only[e,h1,h2]
  ·cases h
 case makeFunc fn first captured=>
  rw[kK (s:=s) (r:=first.toList) (fun x hx=>aw ht (by simp[Op.operands];exact .inl (by simpa using hx))),kK (s:=s) (r:=captured.toList) (fun x hx=>aw ht (by simp[Op.operands];exact .inr (by simpa using hx)))];exact h
 case call c=>
  obtain⟨callee,args,ts⟩:=c;cases callee with
  |builtin b=>
   cases b<;>try(exact h)
   obtain⟨args⟩:=args;obtain⟨ts⟩:=ts;cases args with
   |nil=>exact h
   |cons x r=>cases r with
    |cons _ _=>exact h
    |nil=>cases ts with
     |nil=>exact h
     |cons t r=>
      simp only at h ⊢
      rw[aw ht (x:=x) (by simp[Op.operands,Call.operands])]
      split at h
      ·exact h
      ·exact h
      ·exact Re
      ·exact h
      ·exact Re
      ·exact Re
      ·cases h
  |value f=>exact h
  |invoke f m=>exact h
end
structure FP where
 dst:Option Nat
 rt:List Nat
 rb:List Nat
 wb:List Nat
 ok:Bool
def GE:List Nat->List Nat->Bool
 | [],_=>false
 |a::r,l=>xl a l || GE r l
theorem qK:∀{a b:List Nat} {x:Nat},x∈a->x∈b->GE a b=true
 | [],_,_,h,_=>by cases h
 |y::r,b,x,h,hb=>by
  rw[GE,Bool.or_eq_true];rcases f_.1 h with rfl|h
  ·exact .inl (jZ.2 hb)
  ·exact .inr (qK h hb)
def L9:Option Nat->List Nat->Bool
 |none,_=>false
 |some x,l=>xl x l
def SZ:Option Nat->Option Nat->Bool
 |some x,some y=>Nat.beq x y
 |_,_=>false
def jp (x y:FP):Bool:=L9 x.dst y.rt || L9 y.dst x.rt || SZ x.dst y.dst || GE x.wb y.rb || GE y.wb x.rb || GE x.wb y.wb
def nr (acc:List Nat) (k:Nat):List Edge->Nat
 | []=>0
 |e::r=>match Region.binds .any e && Nat.blt e.on k with
  |true=>Nat.lor (Nat.lor (2^e.on) (match acc[k-1-e.on]? with|some a=>a|none=>0)) (nr acc k r)
  |false=>nr acc k r
def NA:Nat->List Oper->List Nat->List Nat
 |_,[],acc=>acc
 |k,o::os,acc=>NA (k+1) os (nr acc k o.after.toList::acc)
def ii (ops:Array Oper) (k:Nat):Nat:=match(NA 0 ops.toList [])[ops.toList.length-1-k]? with
 |some a=>a
 |none=>0
def m6 (anc:Nat) (fp:FP):Nat->List FP->Bool
 |_,[]=>true
 |k,f::r=>match Nat.testBit anc (k-1) || !(jp f fp)with
  |true=>m6 anc fp (k-1) r
  |false=>false
def gd (ops:Array Oper) (s:AS) (o:Oper):Option Bool:=
 match o.guard with
 |none=>some true
 |some (i,want)=>match ops[i]? with
  |some g=>match g.dst with
   |some t=>match s.tv t with
    | .d (.leaf (.val (.bool b)))=>some (b == want)
    | .und=>some false
    |_=>none
   |none=>none
  |none=>none
def Vt (ops:Array Oper) (o:Oper):List Nat:=
 match o.guard with
 |none=>[]
 |some (i,_)=>match ops[i]? with
  |some g=>match g.dst with
   |some t=>[t]
   |none=>[]
  |none=>[]
inductive fN (P:Program) (T:TypeId->Option Ty) (j:Nat) (s:AS) (o:Oper) (e:r6) (rb:List Nat):Prop
 |op:fv T j s o=some (e,rb)->fN P T j s o e rb
 |call {f:Operand} {fid:FuncId} {args:Array Operand} {ts:Array TypeId} {ds:List DV} {r:RV}:o.op= .call ⟨.value f,args,ts⟩->s.ev f= .d (.leaf (.val (.func (.func fid) #[] #[])))->GX s args.toList=some ds->aa P fid ds r->jJ s ->
  e=⟨r.tv,none⟩->rb=[]->fN P T j s o e rb
 |idx {t:TypeId} {ty:Ty} {x y:Operand} {et k m i:Nat} {ik:IntKind} {cs cs':List AV}:o.op= .indexAddr t x y->T t=some ty->ty.elem=some (et,k)->s.ev x= .d (.leaf (.sl m cs))->s.ev y= .d (.leaf (.val (.int ik (i:Nat))))->i<m ->
  (∀(q:Nat) (a:AV),cs'[q]? =some a->cs[i*k+q]? =some a)->0<cs'.length->e=⟨.rp cs',none⟩->rb=[]->fN P T j s o e rb
 |oidx {t:TypeId} {ty:Ty} {x y:Operand} {q k m i e0:Nat} {ik:IntKind} {cs:List AV}:o.op= .indexAddr t x y->T t=some ty->ty.elem=some (e0,k)->s.ev x= .own q m k e0->s.bx q=some cs->s.ev y= .d (.leaf (.val (.int ik (i:Nat))))->i<m ->
  e=⟨.box q (i*k),none⟩->rb=[q]->fN P T j s o e rb
 |genC:jJ s->(∀s2:AS,jJ s2->(∀k∈Bi o,s2.tv k=s.tv k)->(∀i∈rb,ap s2.b i=ap s.b i)->bE P o s2 e)->fN P T j s o e rb
 |gen:(∀s2:AS,(∀k∈Bi o,s2.tv k=s.tv k)->(∀i∈rb,ap s2.b i=ap s.b i)->bE P o s2 e)->fN P T j s o e rb
 |pure {r:Value}:(∀x∈o.op.operands.toList,∃v,s.ev x= .d (.leaf (.val v)))->(∀(ρ:Operand->Value) (w:World),(∀x∈o.op.operands.toList,ρ x=OZ (s.ev x))->(execOp ρ o).run P w= .ok (.value r) w)->r.oneCell'=true->e=⟨.d (.leaf (.val r)),none⟩->rb=[]->fN P T j s o e rb
def SI (e:r6):List (Nat × Option (List AV)):=match e.bx with
 |some l=>l
 |none=>[]
def DL:List (Nat × Option (List AV))->List Nat
 | []=>[]
 |(j,_)::r=>j::DL r
def FR (e:r6):List Nat:=DL (SI e)
theorem rK:∀{l:List (Nat × Option (List AV))} {j:Nat},j∈DL l-> ∃v,ap l j=some v
 | [],_,h=>by cases h
 |(i,v)::r,j,h=>by
  by_cases e:i=j
  ·subst e;exact⟨v,am _ _ _⟩
  ·rw[au _ _ e];exact rK ((f_.1 h).resolve_left (fun h=>e h.symm))
theorem pp:∀{l:List (Nat × Option (List AV))} {j:Nat},¬j∈DL l->ap l j=none
 | [],_,_=>rfl
 |(i,v)::r,j,h=>by
  have h:=not_or.1 (fun h'=>h (f_.2 h'));rw[au _ _ (fun e=>h.1 e.symm)];exact pp h.2
theorem ub {α:Type}:∀(x y:List (Nat × α)) (j:Nat),ap (x++y) j=match ap x j with|some v=>some v|none=>ap y j
 | [],_,_=>rfl
 |(i,v)::x,y,j=>by
  by_cases e:i=j
  ·subst e;rw[List.cons_append,am,am]
  ·rw[List.cons_append,au _ _ e,au _ _ e];exact ub x y j
def ro:List (Nat × Option (List AV))->Bool
 | []=>true
 |(j,some _)::r=>!(bL j) && ro r
 |(_,none)::r=>ro r
theorem oM:∀{l:List (Nat × Option (List AV))} {j:Nat} {cs:List AV},ro l=true->ap l j=some (some cs)->bL j=false
 | [],_,_,_,h=>by cases h
 |(i,some c)::r,j,cs,hl,h=>by
  simp only[ro,B_]at hl
  by_cases e:i=j
  ·subst e;simpa using hl.1
  ·rw[au _ _ e]at h;exact oM hl.2 h
 |(i,none)::r,j,cs,hl,h=>by
  by_cases e:i=j
  ·subst e;rw[am]at h;cases h
  ·rw[au _ _ e]at h;exact oM (l:=r) hl h
def As (e:r6):Bool:=ro (SI e)
def aA (ops:Array Oper) (o:Oper) (e:r6) (rb:List Nat):FP:=⟨o.dst,Vt ops o++Bi o,rb,FR e,As e⟩
def aL (n:Nat):Option Nat->Bool
 |none=>true
 |some d=>Nat.blt d n
def fg (draw:Bool) (ops:Array Oper) (fp:FP) (k:Nat) (fps:List FP):Bool:=match draw with
 |false=>true
 |true=>fp.ok && m6 (ii ops k) fp k fps
def nz (P:Program) (n:Nat) (o:Oper) (s s':AS):Prop:=
 ∀(S0:Nat->Prop) (w0:eR) (g:Nat->Nat) (a:Act) (w:World) (K:Act->World->Prop) (Q:Exit->Act->World->Prop),MG n S0 w0 g s a w ->
  (∀g' a' w',MG n S0 w0 g' s' a' w'->K a' w')->o.wp P a w K Q
def Ih (P:Program) (n:Nat) (o:Oper) (s:AS) (Φ:AS->Prop):Prop:=
 ∀(S0:Nat->Prop) (w0:eR) (g:Nat->Nat) (a:Act) (w:World) (K:Act->World->Prop) (Q:Exit->Act->World->Prop),MG n S0 w0 g s a w ->
  (∀s',Φ s'-> ∀g' a' w',MG n S0 w0 g' s' a' w'->K a' w')->o.wp P a w K Q
def G1 (P:Program) (n:Nat) (o1 o2 o3:Oper) (s s':AS):Prop:=
 ∀(S0:Nat->Prop) (w0:eR) (g:Nat->Nat) (a:Act) (w:World) (K:Act->World->Prop) (Q:Exit->Act->World->Prop),MG n S0 w0 g s a w ->
  (∀g' a' w',MG n S0 w0 g' s' a' w'->K a' w')->o1.wp P a w (fun a1 w1=>o2.wp P a1 w1 (fun a2 w2=>o3.wp P a2 w2 K Q) Q) Q
inductive ar (P:Program) (T:TypeId->Option Ty) (n:Nat) (ops:Array Oper) (id:Nat) (draw:Bool) (K:AS->Prop):Nat->List Oper->AS->List FP->Prop
 |done {k s fps}:K s->ar P T n ops id draw K k [] s fps
 |run {k o os s fps e rb}:gd ops s o=some true->fN P T (id*1000+k) s o e rb->aL n o.dst=true->fg draw ops (aA ops o e rb) k fps=true ->
  ar P T n ops id draw K (k+1) os (s.eff o.dst e) (aA ops o e rb::fps)->ar P T n ops id draw K k (o::os) s fps
 |skip {k o os s fps}:gd ops s o=some false->aL n o.dst=true->fg draw ops (aA ops o ⟨.und,none⟩ []) k fps=true ->
  ar P T n ops id draw K (k+1) os (s.eff o.dst ⟨.und,none⟩) (aA ops o ⟨.und,none⟩ []::fps)->ar P T n ops id draw K k (o::os) s fps
 |app {k o os s fps} {d:Nat} {x y:Operand} {t et q m1 m2:Nat} {ty te:Ty} {dead:Option Nat} {cs xs:List AV}:draw=false->gd ops s o=some true->o.op= .call ⟨.builtin .append,#[x,y],#[t,t]⟩->o.dst=some d->aL n o.dst=true->T t=some ty->ty.elem=some (et,q)->T et=some te->te.size=q->(Nat.ble 1 q && Nat.ble 1 te.bytes)=true ->
  eK s x m1 q et dead cs->s.ev y= .d (.leaf (.sl m2 xs))->xs.length=m2*q->0<m2->(m1+m2)*te.bytes<=140737488355328->fJ s (1000000+(id*1000+k))=true ->
  ar P T n ops id draw K (k+1) os ⟨(d, .own (1000000+(id*1000+k)) (m1+m2) q et)::s.t,(1000000+(id*1000+k),some (cs.take (m1*q)++xs))::fB dead s.b⟩ (aA ops o ⟨.junk,none⟩ []::fps)->ar P T n ops id draw K k (o::os) s fps
 |snd {k o os s fps s'}:draw=false->gd ops s o=some true->nz P n o s s' ->
  ar P T n ops id draw K (k+1) os s' (aA ops o ⟨.junk,none⟩ []::fps)->ar P T n ops id draw K k (o::os) s fps
 |snd3 {k o1 o2 o3 os s fps s'}:draw=false->(o1.guard=none/\o2.guard=none/\o3.guard=none)->G1 P n o1 o2 o3 s s' ->
  ar P T n ops id draw K (k+3) os s' fps->ar P T n ops id draw K k (o1::o2::o3::os) s fps
 |alt {k o os s fps} (Φ:AS->Prop):draw=false->gd ops s o=some true->Ih P n o s Φ ->
  (∀s',Φ s'->ar P T n ops id draw K (k+1) os s' (aA ops o ⟨.junk,none⟩ []::fps))->ar P T n ops id draw K k (o::os) s fps
section
variable {P:Program} {T:TypeId->Option Ty} {n:Nat} {ops:Array Oper} {id:Nat} {draw:Bool} {K:AS->Prop} {S0:Nat->Prop} {w0:eR} {s s':AS}
theorem MG.ext {g:Nat->Nat} {a:Act} {w:World} (h:MG n S0 w0 g s a w) (ht:∀k,s'.tv k=s.tv k) (hlb:∀j,ap s'.b j=ap s.b j):MG n S0 w0 g s' a w:=by
 have hb:∀j,s'.bx j=s.bx j:=fun j=>bg (hlb j)
 have hO:Own S0 g s'=Own S0 g s:=by funext b;simp only[Own,hb]
 refine⟨fun k=>?_,fun j cs hj=>?_,fun i j ci cj hi hj e=>?_,h.grow,by rw[ht];exact h.df.agree (w:=w) (w':=w) ⟨fun j hj=>by unfold AS.kn at *;rw[hlb];exact hj,fun j cs _ hc=>⟨cs,by rw[<- hb];exact hc,l_ _,rfl,fun a1 e1 h1=>⟨a1,h1,rfl⟩⟩⟩,h.sz,h.cl,h.tg,fun k cs hk=>by rw[hO];exact(h.gl k cs hk).agree (bY.refl _ _) (fun _ _ h=>h) ⟨fun j hj=>by unfold AS.kn at *;rw[hlb];exact hj,fun j cs _ hc=>⟨cs,by rw[<- hb];exact hc,l_ _,rfl,fun a1 e1 h1=>⟨a1,h1,rfl⟩⟩⟩,fun j q cs h1 h2 hj=>h.gp j q cs h1 h2 (by rw[<- hb];exact hj),h.nk⟩
 ·rw[ht,hO]
  exact(h.tm k).agree (bY.refl _ _) (fun _ _ h=>h) ⟨fun j hj=>by unfold AS.kn at *;rw[hlb];exact hj,fun j cs _ hc=>⟨cs,by rw[<- hb];exact hc,l_ _,rfl,fun a1 e1 h1=>⟨a1,h1,rfl⟩⟩⟩
 ·rw[hb]at hj
  rw[hO];obtain⟨h1,h2⟩:=h.bm j cs hj;exact⟨h1,h2.agree rfl (bY.refl _ _) (fun _ _ h=>h) ⟨fun j hj=>by unfold AS.kn at *;rw[hlb];exact hj,fun j cs _ hc=>⟨cs,by rw[<- hb];exact hc,l_ _,rfl,fun a1 e1 h1=>⟨a1,h1,rfl⟩⟩⟩⟩
 ·rw[hb]at hi hj;exact h.inj i j ci cj hi hj e
theorem l4 (hT:∀t d,T t=some d->a8 P t d) {j:Nat} {o:Oper} {e:r6} {rb:List Nat} (h:fN P T j s o e rb):bE P o s e:=by
 cases h with
 |op h=>exact yj hT h
 |call h1 h2 h3 h4 hc h5 _=>subst h5;exact Bq h1 h2 h3 h4 hc
 |idx h1 h2 h3 h4 h5 h6 h7 h8 h9 _=>subst h9;exact qE (hT _ _ h2) h3 h1 h4 h5 h6 h7 h8
 |oidx h1 h2 h3 h4 h5 h6 h7 h8 _=>subst h8;exact BB (hT _ _ h2) h3 h1 h4 h5 h6 h7
 |gen h=>exact h s (fun _ _=>rfl) (fun _ _=>rfl)
 |genC h0 h=>exact h s h0 (fun _ _=>rfl) (fun _ _=>rfl)
 |pure h1 h2 h3 h4 _=>subst h4;exact Cl h1 h2 h3
theorem Ce {j:Nat} {o:Oper} {e:r6} {rb:List Nat} (h:fN P T j s o e rb) (ht:∀k∈Bi o,s'.tv k=s.tv k) (hb:∀i∈rb,ap s'.b i=ap s.b i) (hcl:jJ s'):fN P T j s' o e rb:=by
 cases h with
 |op h=>exact .op (yq h ht hb)
 |call h1 h2 h3 h4 hc h5 h6=>
  rename_i f fid args ts ds r
  refine .call h1 ?_ ?_ h4 hcl h5 h6
  ·rw[aw ht (x:=f) (by simp[h1,Op.operands,Call.operands])];exact h2
  ·rw[vu args.toList (fun x hx k hk=>ht k (List.mem_flatMap.2 ⟨x,by simp[h1,Op.operands,Call.operands];exact .inr (by simpa using hx),hk⟩))];exact h3
 |idx h1 h2 h3 h4 h5 h6 h7 h8 h9 h10=>
  rename_i t ty x y et k m i ik cs cs'
  refine .idx (ik:=ik) h1 h2 h3 ?_ ?_ h6 h7 h8 h9 h10
  ·rw[aw ht (x:=x) (by simp[h1,Op.operands])];exact h4
  ·rw[aw ht (x:=y) (by simp[h1,Op.operands])];exact h5
 |oidx h1 h2 h3 h4 h5 h6 h7 h8 h9=>
  rename_i t ty x y q k m i e0 ik cs
  refine .oidx (ik:=ik) (cs:=cs) h1 h2 h3 ?_ ?_ ?_ h7 h8 h9
  ·rw[aw ht (x:=x) (by simp[h1,Op.operands])];exact h4
  ·rw[bg (hb q (by rw[h9];simp))];exact h5
  ·rw[aw ht (x:=y) (by simp[h1,Op.operands])];exact h6
 |genC h0 h=>exact .genC hcl fun s2 h3 h1 h2=>h s2 h3 (fun k hk=>(h1 k hk).trans (ht k hk)) (fun i hi=>(h2 i hi).trans (hb i hi))
 |gen h=>exact .gen fun s2 h1 h2=>h s2 (fun k hk=>(h1 k hk).trans (ht k hk)) (fun i hi=>(h2 i hi).trans (hb i hi))
 |pure h1 h2 h3 h4 h5=>
  refine .pure (fun x hx=>?_) (fun ρ w hρ=>h2 ρ w (fun x hx=>?_)) h3 h4 h5
  ·rw[aw ht hx];exact h1 x hx
  ·rw[hρ x hx,aw ht hx]
theorem H8 {o:Oper} {b:Bool} (h:gd ops s o=some b) (ht:∀k∈Vt ops o,s'.tv k=s.tv k):gd ops s' o=some b:=by
 unfold gd at h ⊢;unfold Vt at ht
 split at h
 ·exact h
 ·rename_i i want hg
  simp only[hg]at ht
  split at h
  ·rename_i g hi
   simp only[hi]at ht
   split at h
   ·rename_i t hd
    simp only[hd]at ht
    rw[ht t S_];exact h
   ·cases h
  ·cases h
theorem oP {g:Nat->Nat} {a:Act} {w:World} {o:Oper} {b:Bool} (hM:MG n S0 w0 g s a w) (h:gd ops s o=some b):Region.wanted o (yielded ops a.tmps)=b:=by
 unfold gd at h;unfold Region.wanted
 split at h
 ·rename_i hg;rw[hg];cases h;rfl
 ·rename_i i want hg
  rw[hg]
  split at h
  ·rename_i g' hi
   split at h
   ·rename_i t hd
    split at h
    ·rename_i b' hv
     cases h;have hm:=hM.tm t;rw[hv]at hm;have e:=bc hm
     have hy:yielded ops a.tmps i=some b':=by
      unfold yielded;rw[hi]
      simp only[Option.bind_some,hd]
      cases hq:a.tmps[t]? with
      |none=>simp[Array.getD_eq_getD_getElem?,hq,undef]at e
      |some v=>
       simp[Array.getD_eq_getD_getElem?,hq]at e
       subst e;rfl
     simp only[hy]
     cases b'<;>cases want<;>rfl
    ·rename_i hv
     cases h;have hm:=hM.tm t;rw[hv]at hm;have e:a.tmps.getD t undef=undef:=hm
     have hy:yielded ops a.tmps i=none:=by
      unfold yielded;rw[hi]
      simp only[Option.bind_some,hd]
      cases hq:a.tmps[t]? with
      |none=>rfl
      |some v=>
       simp[Array.getD_eq_getD_getElem?,hq]at e
       subst e;rfl
     simp only[hy]
     cases want<;>rfl
    ·cases h
   ·cases h
  ·cases h
theorem MG.undef {g:Nat->Nat} {a:Act} {w:World} (h:MG n S0 w0 g s a w) {dst:Option Nat} (hd:∀d,dst=some d->d<n):MG n S0 w0 g (s.eff dst ⟨.und,none⟩) (a.put dst Go.undef) w:=by
 cases dst with
 |none=>exact h
 |some d=>exact h.put (hd d rfl) (Below.refl _ _) rfl
theorem ee {d:Option Nat} (h:aL n d=true):∀k,d=some k->k<n:=by
 intro k hk;subst hk;exact N_ h
theorem KP (hT:∀t d,T t=some d->a8 P t d) {Q:Exit->Act->World->Prop} (hK:∀s g a w,K s->MG n S0 w0 g s a w->Q .normal a w) {k:Nat} {os:List Oper} {fps:List FP} (h:ar P T n ops id draw K k os s fps) (hos:∀i,ops[k+i]? =os[i]?):
 ∀{g:Nat->Nat} {a:Act} {w:World},MG n S0 w0 g s a w->wpOps P ops Q (List.range' k os.length) a w:=by
 induction h with
 |done hk=>intro g a w hM;exact hK _ g a w hk hM
 | @run k o os s fps e rb hg hs hd _ _ ih=>
  intro g a w hM;have h0:ops[k]? =some o:=by simpa using hos 0
  refine MX ?_;refine .inl (l4 hT hs n S0 w0 g a w _ Q hM (ee hd) fun g' a' w' hM'=>?_);exact Rw
 | @skip k o os s fps hg hd _ _ ih=>
  intro g a w hM;have h0:ops[k]? =some o:=by simpa using hos 0
  simp only[List.length_cons,List.range'_succ,wpOps,h0]
  rw[if_neg (by rw[oP hM hg];simp)];exact ih (fun i=>by have:=hos (i+1);rw[show k+(i+1)=k+1+i by omega]at this;simpa using this) (hM.undef (ee hd))
 | @app k o os s fps d x y t et q m1 m2 ty te dead cs xs h0 hg ho hd hdn ht hel hte hq hq0 hbase hy hxs hm hb hnew _ ih=>
  intro g a w hM;have h0:ops[k]? =some o:=by simpa using hos 0
  refine MX ?_;rw[B_]at hq0
  have h63:m1+m2<=9223372036854775807:=by
   have:=Nat.le_mul_of_pos_right (m1+m2) (N_ hq0.2);omega
  refine .inl (fC (hT _ _ ht) (hT _ _ hte) ho hd hel hq (N_ hq0.1) hbase hy hxs hm hb h63 (bA hnew) (ji hnew) (.inl (by unfold bL;simp)) hM (ee hdn d hd) fun g' a' w' hM'=>?_);exact Rw
 | @snd k o os s fps s' h0 hg hs _ ih=>
  intro g a w hM;have h0:ops[k]? =some o:=by simpa using hos 0
  refine MX ?_;refine .inl (hs S0 w0 g a w _ Q hM fun g' a' w' hM'=>?_);exact Rw
 | @alt k o os s fps Φ h0 hg hs _ ih=>
  intro g a w hM;have h0:ops[k]? =some o:=by simpa using hos 0
  refine MX ?_;refine .inl (hs S0 w0 g a w _ Q hM fun s' hs' g' a' w' hM'=>?_);exact ih s' hs' (fun i=>by have:=hos (i+1);rw[show k+(i+1)=k+1+i by omega]at this;simpa using this) hM'
 | @snd3 k o1 o2 o3 os s fps s' h0 hg hs _ ih=>
  intro g a w hM;have h1:ops[k]? =some o1:=by simpa using hos 0
  have h2:ops[k+1]? =some o2:=by simpa using hos 1
  have h3:ops[k+1+1]? =some o3:=by simpa using hos 2
  have hw:∀(o:Oper) (ts:Array Value),o.guard=none->Region.wanted o (yielded ops ts)=true:=fun o ts h=>by simp[Region.wanted,h]
  simp only[List.length_cons,List.range'_succ]
  rw[wpOps,h1]
  simp only[hw o1 _ hg.1,if_true]
  refine .inl (Oper.wp_mono (fun a1 w1 hq=>?_) (hs S0 w0 g a w (wpOps P ops Q (List.range' (k+1+1+1) os.length)) Q hM fun g' a' w' hM'=>ih (fun i=>by have:=hos (i+3);rw[show k+(i+3)=k+3+i by omega]at this;simpa using this) hM'));rw[wpOps,h2]
  simp only[hw o2 _ hg.2.1,if_true]
  refine .inl (Oper.wp_mono (fun a2 w2 hq=>?_) hq);rw[wpOps,h3]
  simp only[hw o3 _ hg.2.2,if_true]
  exact .inl hq
structure ox where
 o:Oper
 e:r6
 rb:List Nat
 b:Bool
def lz (L:Nat->Bool):Nat->List ox->AS->AS
 |_,[],s=>s
 |k,x::r,s=>lz L (k+1) r (match L k with|true=>s.eff x.o.dst x.e|false=>s)
theorem wU (s:AS) (dst:Option Nat) (e:r6) (t:Nat):(s.eff dst e).tv t=if dst=some t then e.tv else s.tv t:=by
 cases dst with
 |none=>rfl
 |some d=>
  by_cases h:d=t
  ·subst h;rw[if_pos rfl];simp[AS.eff,AS.tv,am]
  ·rw[if_neg (by simpa using h)];simp[AS.eff,AS.tv,au _ _ h]
theorem sW (s:AS) (dst:Option Nat) (e:r6) (j:Nat):ap (s.eff dst e).b j=match ap (SI e) j with|some v=>some v|none=>ap s.b j:=by
 obtain⟨tv,bx⟩:=e;cases bx with
 |none=>rfl
 |some l=>
  rw[show(AS.eff s dst ⟨tv,some l⟩).b=l++s.b from rfl,ub,show SI ⟨tv,some l⟩=l from rfl];cases ap l j<;>rfl
theorem rZ {L1 L2:Nat->Bool} {t:Nat}:∀(r:List ox) (k:Nat) (s s':AS),s.tv t=s'.tv t->(∀m x,r[m]? =some x->x.o.dst=some t->L1 (k+m)=L2 (k+m))->(lz L1 k r s).tv t=(lz L2 k r s').tv t
 | [],_,_,_,h,_=>h
 |x::r,k,s,s',h,hL=>by
  refine rZ r (k+1) _ _ ?_ (fun m y hm hd=>by have:=hL (m+1) y (by simpa using hm) hd;rwa[show k+1+m=k+(m+1) by omega]);have h0:=hL 0 x rfl
  simp only[Nat.add_zero]at h0
  by_cases hd:x.o.dst=some t
  ·rw[h0 hd]
   cases L2 k
   ·exact h
   ·simp only[wU,hd,if_true]
  ·cases L1 k<;>cases L2 k<;>simp only[wU,hd,if_false]<;>exact h
theorem s7 {L1 L2:Nat->Bool} {j:Nat}:∀(r:List ox) (k:Nat) (s s':AS),ap s.b j=ap s'.b j->(∀m x,r[m]? =some x->j∈FR x.e->L1 (k+m)=L2 (k+m))->ap (lz L1 k r s).b j=ap (lz L2 k r s').b j
 | [],_,_,_,h,_=>h
 |x::r,k,s,s',h,hL=>by
  refine s7 r (k+1) _ _ ?_ (fun m y hm hd=>by have:=hL (m+1) y (by simpa using hm) hd;rwa[show k+1+m=k+(m+1) by omega]);have h0:=hL 0 x rfl
  simp only[Nat.add_zero]at h0
  by_cases hd:j∈FR x.e
  ·rw[h0 hd]
   cases L2 k
   ·exact h
   ·obtain⟨v,hv⟩:=rK hd
    simp only[sW,hv]
  ·have hn:∀q:AS,ap (q.eff x.o.dst x.e).b j=ap q.b j:=by
    intro q;rw[sW,pp hd]
   cases L1 k<;>cases L2 k<;>simp only[hn]<;>exact h
theorem qk {L:Nat->Bool} {t:Nat}:∀(r:List ox) (k m:Nat) (x:ox) (s:AS),r[m]? =some x->x.o.dst=some t->L (k+m)=true->(∀i y,m<i->r[i]? =some y->y.o.dst=some t->L (k+i)=false)->(lz L k r s).tv t=x.e.tv
 | [],_,_,_,_,h,_,_,_=>by simp at h
 |y::r,k,0,x,s,h,hd,hL,hn=>by
  simp only[List.getElem?_cons_zero,X_]at h
  subst h
  simp only[Nat.add_zero]at hL
  simp only[lz,hL]
  rw[rZ (L1:=L) (L2:=fun _=>false) r (k+1) _ (s.eff y.o.dst y.e) rfl (fun i z hi hz=>by have:=hn (i+1) z O_ (by simpa using hi) hz;rwa[show k+1+i=k+(i+1) by omega])]
  have:∀(r:List ox) (k:Nat) (s:AS),lz (fun _=>false) k r s=s:=by
   intro r
   induction r with
   |nil=>intros;rfl
   |cons z r ih=>intro k s;exact ih (k+1) s
  rw[this,wU,if_pos hd]
 |y::r,k,m+1,x,s,h,hd,hL,hn=>by
  exact qk r (k+1) m x _ (by simpa using h) hd (by rwa[show k+1+m=k+(m+1) by omega]) (fun i z hi hz hdz=>by have:=hn (i+1) z O_ (by simpa using hz) hdz;rwa[show k+1+i=k+(i+1) by omega])
theorem pS {L:Nat->Bool} {j:Nat} {v:Option (List AV)}:∀(r:List ox) (k m:Nat) (x:ox) (s:AS),r[m]? =some x->ap (SI x.e) j=some v->L (k+m)=true->(∀i y,m<i->r[i]? =some y->j∈FR y.e->L (k+i)=false)->ap (lz L k r s).b j=some v
 | [],_,_,_,_,h,_,_,_=>by simp at h
 |y::r,k,0,x,s,h,hd,hL,hn=>by
  simp only[List.getElem?_cons_zero,X_]at h
  subst h
  simp only[Nat.add_zero]at hL
  simp only[lz,hL]
  rw[s7 (L1:=L) (L2:=fun _=>false) r (k+1) _ (s.eff y.o.dst y.e) rfl (fun i z hi hz=>by have:=hn (i+1) z O_ (by simpa using hi) hz;rwa[show k+1+i=k+(i+1) by omega])]
  have:∀(r:List ox) (k:Nat) (s:AS),lz (fun _=>false) k r s=s:=by
   intro r
   induction r with
   |nil=>intros;rfl
   |cons z r ih=>intro k s;exact ih (k+1) s
  rw[this,sW,hd]
 |y::r,k,m+1,x,s,h,hd,hL,hn=>by
  exact pS r (k+1) m x _ (by simpa using h) hd (by rwa[show k+1+m=k+(m+1) by omega]) (fun i z hi hz hdz=>by have:=hn (i+1) z O_ (by simpa using hz) hdz;rwa[show k+1+i=k+(i+1) by omega])
def Ev (P:Program) (T:TypeId->Option Ty) (n:Nat) (ops:Array Oper) (id k:Nat) (s:AS) (x:ox):Prop:=
 gd ops s x.o=some x.b/\aL n x.o.dst=true/\(x.b=true->fN P T (id*1000+k) s x.o x.e x.rb)/\(x.b=false->x.e=⟨.und,none⟩/\x.rb=[])/\As x.e=true
def oN (ops:Array Oper) (x:ox):FP:=⟨x.o.dst,Vt ops x.o++Bi x.o,x.rb,FR x.e,As x.e⟩
theorem xm {acc:List Nat} {k i:Nat}:∀{l:List Edge},(nr acc k l).testBit i=true-> ∃e∈l,Region.binds .any e=true/\e.on<k/\(e.on=i∨ ∃a,acc[k-1-e.on]? =some a/\a.testBit i=true)
 | [],h=>by simp[nr]at h
 |e::l,h=>by
  simp only[nr]at h
  split at h
  ·rename_i hb
   rw[B_]at hb;have hlt:e.on<k:=N_ hb.2
   have h':((2^e.on |||(match acc[k-1-e.on]? with|some a=>a|none=>0)) |||nr acc k l).testBit i=true:=h;rw[Nat.testBit_or,Nat.testBit_or,Bool.or_eq_true,Bool.or_eq_true]at h';rcases h' with(h1|h1)|h1
   ·rw[Nat.testBit_two_pow]at h1
    exact⟨e,by simp,hb.1,hlt, .inl (by simpa using h1)⟩
   ·split at h1
    ·rename_i a ha
     exact⟨e,by simp,hb.1,hlt, .inr ⟨a,ha,h1⟩⟩
    ·simp at h1
   ·obtain⟨e',h2,h3⟩:=xm h1
    exact⟨e',by simp[h2],h3⟩
  ·obtain⟨e',h2,h3⟩:=xm h
   exact⟨e',by simp[h2],h3⟩
theorem vB:∀(os:List Oper) (k:Nat) (acc:List Nat),acc.length=k-> ∃new:List Nat,NA k os acc=new++acc/\new.length=os.length/\ ∀(m:Nat) (o:Oper),os[m]? =some o-> ∃a,(new++acc)[os.length-1-m]? =some a/\a=nr ((new++acc).drop (os.length-m)) (k+m) o.after.toList
 | [],k,acc,_=>⟨[],rfl,rfl,fun m o h=>by simp at h⟩
 |o::os,k,acc,hl=>by
  obtain⟨new,h1,h2,h3⟩:=vB os (k+1) (nr acc k o.after.toList::acc) (by simp[hl]);refine⟨new++[nr acc k o.after.toList],by simp only[NA,h1,e_,List.singleton_append],by simp[h2],fun m o' hm=>?_⟩;have e:new++[nr acc k o.after.toList]++acc=new++nr acc k o.after.toList::acc:=S_
  rw[e];cases m with
  |zero=>
   simp only[List.getElem?_cons_zero,X_]at hm
   subst hm;refine⟨_,?_,rfl⟩;rw[List.length_cons,Nat.add_sub_cancel,Nat.sub_zero,Nat.sub_zero,<- h2,g_ (l_ _),Nat.sub_self,List.getElem?_cons_zero]
   have:List.drop (new.length+1) (new++nr acc k o.after.toList::acc)=acc:=by
    rw[<- e,List.drop_left' S_]
   rw[this];rfl
  |succ m=>
   obtain⟨a,ha1,ha2⟩:=h3 m o' (by simpa using hm);refine⟨a,?_,?_⟩
   ·rw[List.length_cons,show os.length+1-1-(m+1)=os.length-1-m by omega];exact ha1
   ·rw[List.length_cons,show os.length+1-(m+1)=os.length-m by omega,show k+(m+1)=k+1+m by omega];exact ha2
theorem J2 {k i:Nat} {o:Oper} (ho:ops[k]? =some o) (h:(ii ops k).testBit i=true):∃e∈o.after.toList,Region.binds .any e=true/\e.on<k/\(e.on=i∨(ii ops e.on).testBit i=true):=by
 obtain⟨new,h1,h2,h3⟩:=vB ops.toList 0 [] rfl;have ho':ops.toList[k]? =some o:=by simpa using ho
 have hk:k<ops.toList.length:=(G_.1 ho').1
 have at_:∀(m:Nat) (o':Oper),ops.toList[m]? =some o'->ii ops m=nr (new.drop (ops.toList.length-m)) m o'.after.toList:=by
  intro m o' hm;obtain⟨a,ha1,ha2⟩:=h3 m o' hm;unfold ii;rw[h1,ha1]
  simp only[c_,J_]at ha2
  exact ha2
 rw[at_ k o ho']at h;obtain⟨e,he1,he2,he3,he4⟩:=xm h;refine⟨e,he1,he2,he3,?_⟩;rcases he4 with he4| ⟨a,ha,hb⟩
 ·exact .inl he4
 ·right
  have he:ops.toList[e.on]? =some (ops.toList[e.on]'(by omega)):=S_
  obtain⟨a',hb1,_⟩:=h3 e.on _ he;rw[List.getElem?_drop,show ops.toList.length-k+(k-1-e.on)=ops.toList.length-1-e.on by omega]at ha;rw[c_,ha]at hb1;unfold ii;rw[h1,c_,ha];exact hb
theorem tL {anc:Nat} {fp:FP}:∀{k:Nat} {l:List FP},m6 anc fp k l=true-> ∀(i:Nat) (f:FP),l[i]? =some f->anc.testBit (k-1-i)=true∨jp f fp=false
 |_,[],_,i,f,h=>by simp at h
 |k,f'::r,h,i,f,hi=>by
  simp only[m6]at h
  split at h
  ·rename_i h1
   cases i with
   |zero=>
    simp only[List.getElem?_cons_zero,X_]at hi
    subst hi;rw[Bool.or_eq_true]at h1;rcases h1 with h1|h1
    ·exact .inl h1
    ·exact .inr (by simpa using h1)
   |succ i=>
    have:=tL h i f (by simpa using hi)
    rwa[show k-1-1-i=k-1-(i+1) by omega]at this
  ·cases h
theorem si {L:Nat->Bool}:∀(r:List ox) (k:Nat) (s:AS),(∀i,k<=i->L i=false)->lz L k r s=s
 | [],_,_,_=>rfl
 |x::r,k,s,h=>by
  simp only[lz,h k (l_ _)]
  exact si r (k+1) s (fun i hi=>h i O_)
def tY (ops:Array Oper):Nat->List ox->List FP->List FP
 |_,[],acc=>acc
 |k,x::r,acc=>tY ops (k+1) r (oN ops x::acc)
theorem zA:∀(r:List ox) (k:Nat) (acc:List FP) (i:Nat) (y:ox),r[i]? =some y->(tY ops k r acc)[r.length-1-i]? =some (oN ops y)
 | [],_,_,i,y,h=>by simp at h
 |x::r,k,acc,i,y,h=>by
  have keep:∀(r:List ox) (k:Nat) (acc:List FP),∃new,tY ops k r acc=new++acc/\new.length=r.length:=by
   intro r
   induction r with
   |nil=>intro k acc;exact⟨[],rfl,rfl⟩
   |cons z r ih=>
    intro k acc;obtain⟨new,h1,h2⟩:=ih (k+1) (oN ops z::acc);exact⟨new++[oN ops z],by simp only[tY,h1,e_,List.singleton_append],by simp[h2]⟩
  cases i with
  |zero=>
   simp only[List.getElem?_cons_zero,X_]at h
   subst h;obtain⟨new,h1,h2⟩:=keep r (k+1) (oN ops x::acc)
   simp only[tY,h1,List.length_cons,Nat.add_sub_cancel,Nat.sub_zero]
   rw[<- h2,g_ (l_ _),Nat.sub_self];rfl
  |succ i=>
   have:=zA r (k+1) (oN ops x::acc) i y (by simpa using h)
   simp only[tY,List.length_cons]
   rw[show r.length+1-1-(i+1)=r.length-1-i by omega];exact this
theorem BC {k:Nat} {os:List Oper} {fps:List FP} (h:ar P T n ops id true K k os s fps):
 ∃ents:List ox,ents.map (·.o)=os/\K (lz (fun _=>true) k ents s) /\
  (∀m x,ents[m]? =some x->Ev P T n ops id (k+m) (lz (fun i=>decide (i<k+m)) k ents s) x /\
   (∀i f,(tY ops k (ents.take m) fps)[i]? =some f->(ii ops (k+m)).testBit (k+m-1-i)=true∨jp f (oN ops x)=false)):=by
 have lift:∀(k:Nat) (o:Oper) (os:List Oper) (s:AS) (fps:List FP) (x:ox),x.o=o->gd ops s o=some x.b->aL n o.dst=true->(x.b=true->fN P T (id*1000+k) s o x.e x.rb)->(x.b=false->x.e=⟨.und,none⟩/\x.rb=[]) ->
  (As x.e=true/\m6 (ii ops k) (oN ops x) k fps=true) ->
  (∃ents:List ox,ents.map (·.o)=os/\K (lz (fun _=>true) (k+1) ents (s.eff o.dst x.e)) /\
   (∀m y,ents[m]? =some y->Ev P T n ops id (k+1+m) (lz (fun i=>decide (i<k+1+m)) (k+1) ents (s.eff o.dst x.e)) y /\
    (∀i f,(tY ops (k+1) (ents.take m) (oN ops x::fps))[i]? =some f->(ii ops (k+1+m)).testBit (k+1+m-1-i)=true∨jp f (oN ops y)=false))) ->
  ∃ents:List ox,ents.map (·.o)=o::os/\K (lz (fun _=>true) k ents s) /\
   (∀m y,ents[m]? =some y->Ev P T n ops id (k+m) (lz (fun i=>decide (i<k+m)) k ents s) y /\
    (∀i f,(tY ops k (ents.take m) fps)[i]? =some f->(ii ops (k+m)).testBit (k+m-1-i)=true∨jp f (oN ops y)=false)):=by
  intro k o os s fps x hxo hg hd hs1 hs2 hconf ⟨ents,h1,h2,h3⟩;subst hxo;refine⟨x::ents,by simp[h1],h2,fun m y hm=>?_⟩;cases m with
  |zero=>
   simp only[List.getElem?_cons_zero,X_]at hm
   subst hm;rw[si _ _ _ (fun i hi=>by simp;omega)];exact⟨⟨hg,hd,hs1,hs2,hconf.1⟩,fun i f hi=>tL hconf.2 i f (by simpa[tY]using hi)⟩
  |succ m=>
   have h4:=h3 m y (by simpa using hm)
   have e1:lz (fun i=>decide (i<k+(m+1))) k (x::ents) s=lz (fun i=>decide (i<k+1+m)) (k+1) ents (s.eff x.o.dst x.e):=by
    simp only[lz]
    rw[show decide (k<k+(m+1))=true by simp]
    simp only[show k+(m+1)=k+1+m by omega]
   rw[e1,show k+(m+1)=k+1+m by omega];exact h4
 induction h with
 |done hk=>exact⟨[],rfl,hk,fun m x h=>by simp at h⟩
 | @run k o os s fps e rb hg hs hd hc hr ih=>exact lift k o os s fps ⟨o,e,rb,true⟩ rfl hg hd (fun _=>hs) (fun h=>by cases h) (B_ _ _ ▸ hc) ih
 |app h0=>cases h0
 |snd h0=>cases h0
 |snd3 h0=>cases h0
 |alt _ h0=>cases h0
 | @skip k o os s fps hg hd hc hr ih=>exact lift k o os s fps ⟨o,⟨.und,none⟩,[],false⟩ rfl hg hd (fun h=>by cases h) (fun _=>⟨rfl,rfl⟩) (B_ _ _ ▸ hc) ih
theorem yh {x y:FP} {t:Nat} (h1:x.dst=some t) (h2:t∈y.rt):jp x y=true:=by
 unfold jp;rw[h1];simp[L9,jZ.2 h2]
theorem AC {x y:FP} {t:Nat} (h1:y.dst=some t) (h2:t∈x.rt):jp x y=true:=by
 unfold jp;rw[h1];simp[L9,jZ.2 h2]
theorem HI {x y:FP} {t:Nat} (h1:x.dst=some t) (h2:y.dst=some t):jp x y=true:=by
 unfold jp;rw[h1,h2];simp[SZ]
theorem B6 {x y:FP} {t:Nat} (h1:t∈x.wb) (h2:t∈y.rb):jp x y=true:=by
 unfold jp;simp[qK h1 h2]
theorem Cm {x y:FP} {t:Nat} (h1:t∈y.wb) (h2:t∈x.rb):jp x y=true:=by
 unfold jp;simp[qK h1 h2]
theorem MM {x y:FP} {t:Nat} (h1:t∈x.wb) (h2:t∈y.wb):jp x y=true:=by
 unfold jp;simp[qK h1 h2]
def Ew (k:Nat):List Edge->Bool
 | []=>true
 |e::r=>(match Region.binds .any e with
  |true=>Nat.blt e.on k
  |false=>true) && Ew k r
def Ef:Nat->List Oper->Bool
 |_,[]=>true
 |k,o::os=>Ew k o.after.toList && Ef (k+1) os
def tj (ops:Array Oper):Bool:=Ef 0 ops.toList
theorem yo {k:Nat}:∀{l:List Edge},Ew k l=true-> ∀e∈l,Region.binds .any e=true->e.on<k
 | [],_,e,h,_=>by cases h
 |e'::l,h,e,he,hb=>by
  simp only[Ew,B_]at h
  rcases f_.1 he with rfl|he
  ·have h1:=h.1
   rw[hb]at h1;exact N_ h1
  ·exact yo h.2 e he hb
theorem zm:∀{k:Nat} {os:List Oper},Ef k os=true-> ∀(i:Nat) (o:Oper),os[i]? =some o-> ∀e∈o.after.toList,Region.binds .any e=true->e.on<k+i
 |_,[],_,i,o,h,_,_,_=>by simp at h
 |k,o'::os,h,i,o,hi,e,he,hb=>by
  simp only[Ef,B_]at h
  cases i with
  |zero=>simp at hi;subst hi;exact yo h.1 e he hb
  |succ i=>have:=zm h.2 i o (by simpa using hi) e he hb;omega
theorem Bm {listed:Array Bool} (ht:tj ops=true) (hl:listed.size=ops.size) (hr:Region.ready .any ops listed=[]):∀k,k<ops.size->listed.getD k false=true:=by
 intro k
 induction k using Nat.strongRecOn with
 |_ k ih=>
  intro hk;cases h:listed.getD k false with
  |true=>rfl
  |false=>
   exfalso
   have hm:k∈Region.ready .any ops listed:=by
    refine mem_ready.2 ⟨?_,ops[k],by simp[hk],fun e he hb=>?_⟩
    ·have hk':k<listed.size:=O_
     simp[hk']at h ⊢
     exact h
    ·have h2:=zm ht k ops[k] (by simp[hk]) e (by simpa using he) hb
     exact ih e.on O_ O_
   rw[hr]at hm;cases hm
def Et (P:Program) (T:TypeId->Option Ty) (n:Nat) (ops:Array Oper) (id:Nat) (s:AS) (ents:List ox):Prop:=
 ∀m x,ents[m]? =some x->Ev P T n ops id m (lz (fun i=>decide (i<m)) 0 ents s) x/\(∀i f,(tY ops 0 (ents.take m) [])[i]? =some f->(ii ops m).testBit (m-1-i)=true∨jp f (oN ops x)=false)
def JG (ops:Array Oper) (listed:Array Bool):Prop:=∀k o,listed.getD k false=true->ops[k]? =some o-> ∀e∈o.after,Region.binds .any e=true->listed.getD e.on false=true
theorem fO {ents:List ox} (hE:Et P T n ops id s ents) {i m:Nat} {x y:ox} (hi:i<m) (hy:ents[i]? =some y) (hx:ents[m]? =some x):(ii ops m).testBit i=true∨jp (oN ops y) (oN ops x)=false:=by
 have hm:m<ents.length:=(G_.1 hx).1
 have hg:=zA (ops:=ops) (ents.take m) 0 [] i y (by rw[List.getElem?_take,if_pos hi];exact hy);have hl:(ents.take m).length=m:=by simp;omega
 rw[hl]at hg;have:=(hE m x hx).2 (m-1-i) _ hg
 rwa[show m-1-(m-1-i)=i by omega]at this
theorem BH {ents:List ox} (he:ents.map (·.o)=ops.toList) {m:Nat} {x:ox} (hx:ents[m]? =some x):ops[m]? =some x.o:=by
 have:(ents.map (·.o))[m]? =some x.o:=by simp[hx]
 rw[he]at this
 simpa using this
theorem uc {listed:Array Bool} (hc:JG ops listed):∀(m:Nat) (o:Oper),ops[m]? =some o->(∀e∈o.after,Region.binds .any e=true->listed.getD e.on false=true)-> ∀i,(ii ops m).testBit i=true->listed.getD i false=true:=by
 intro m
 induction m using Nat.strongRecOn with
 |_ m ih=>
  intro o ho ha i hi;obtain⟨e,h1,h2,h3,h4⟩:=J2 ho hi;have hl:=ha e (by simpa using h1) h2;rcases h4 with rfl|hfi
  ·exact hl
  ·have hm:m<ops.size:=(A_.1 ho).1
   have hy:ops[e.on]? =some (ops[e.on]'(by omega)):=S_
   exact ih e.on h3 _ hy (fun e' he' hb'=>hc e.on _ hl hy e' he' hb') i hfi
theorem Fu {dst:Option Nat} {e:r6} (h:jJ s) (he:As e=true):jJ (s.eff dst e):=by
 intro j cs hj;unfold AS.bx at hj;rw[sW]at hj;unfold As at he;cases hb:ap (SI e) j with
 |none=>
  rw[hb]at hj;exact h j cs (by unfold AS.bx;exact hj)
 |some v=>
  rw[hb]at hj;cases v with
  |none=>cases hj
  |some c=>exact oM he hb
theorem we {L:Nat->Bool}:∀(r:List ox) (k:Nat) (s:AS),jJ s->(∀x∈r,As x.e=true)->jJ (lz L k r s)
 | [],_,_,h,_=>h
 |x::r,k,s,h,hr=>by
  simp only[lz]
  refine we r (k+1) _ ?_ (fun y hy=>hr y (by simp[hy]));cases L k
  ·exact h
  ·exact Fu h (hr x S_)
theorem In (hT:∀t d,T t=some d->a8 P t d) {Q:Exit->Act->World->Prop} (hK:∀s g a w,K s->MG n S0 w0 g s a w->Q .normal a w) (hto:tj ops=true) {ents:List ox} (he:ents.map (·.o)=ops.toList) (hKs:K (lz (fun _=>true) 0 ents s)) (hE:Et P T n ops id s ents) (hcl0:jJ s):
 ∀(fuel:Nat) (listed:Array Bool),listed.size=ops.size->listed.toList.count false<=fuel->JG ops listed ->
  ∀{g:Nat->Nat} {a:Act} {w:World},MG n S0 w0 g (lz (fun i=>listed.getD i false) 0 ents s) a w->wpAny P .any ops Q fuel listed a w:=by
 have hlen:ents.length=ops.size:=by have:=congrArg List.length he;simpa using this
 have hcle:∀x∈ents,As x.e=true:=fun x hx=>by
  obtain⟨m,hm⟩:=W_ hx;exact(hE m x hm).1.2.2.2.2
 have fin:∀(listed:Array Bool),listed.size=ops.size->Region.ready .any ops listed=[]-> ∀{g:Nat->Nat} {a:Act} {w:World},MG n S0 w0 g (lz (fun i=>listed.getD i false) 0 ents s) a w->Q .normal a w:=by
  intro listed hl hr g a w hM;have hall:=Bm hto hl hr;refine hK _ g a w hKs (hM.ext (fun t=>rZ ents 0 s s rfl fun m x hm _=>?_) (fun j=>s7 ents 0 s s rfl fun m x hm _=>?_))
  all_goals
   have:m<ops.size:=by rw[<- hlen];exact(G_.1 hm).1
   rw[J_,hall m this]
 intro fuel
 induction fuel with
 |zero=>
  intro listed hl hc hcl g a w hM
  have hr:Region.ready .any ops listed=[]:=by
   rw[List.eq_nil_iff_forall_not_mem];intro j hj;obtain⟨h1,o,ho,_⟩:=mem_ready.1 hj
   have hjl:j<listed.size:=by
    have:=(A_.1 ho).1;omega
   have h0:listed.toList.count false=0:=O_
   rw[List.count_eq_zero]at h0
   apply h0
   simp[hjl]at h1
   rw[<- h1]
   simp
  exact⟨hr,fin listed hl hr hM⟩
 |succ fuel ih=>
  intro listed hl hc hcl g a w hM;refine⟨fun hr=>fin listed hl hr hM,fun i hi=>?_⟩;obtain⟨h1,o,ho,hall⟩:=mem_ready.1 hi;have hio:i<ops.size:=(A_.1 ho).1
  have hil:i<listed.size:=O_
  have hfi:listed.getD i false=false:=by simpa[hil]using h1
  have hx:ents[i]? =some (ents[i]'(by omega)):=S_
  generalize ents[i]'(by omega)=x at hx;have hxo:x.o=o:=by have:=BH he hx;rw[ho]at this;exact(Option.some.inj this).symm
  subst hxo;obtain⟨⟨hg,hd,hs1,hs2,_⟩,_⟩:=hE i x hx;have hanc:=uc hcl i _ ho hall
  have hncl:∀(m:Nat) (y:ox),ents[m]? =some y->(ii ops m).testBit i=true->listed.getD m false=false:=by
   intro m y hy hb;cases hq:listed.getD m false with
   |false=>rfl
   |true=>
    have:=uc hcl m _ (BH he hy) (fun e he' hb'=>hcl m _ hq (BH he hy) e he' hb') i hb;rw[hfi]at this;cases this
  have agT:∀t∈(oN ops x).rt,(lz (fun i=>listed.getD i false) 0 ents s).tv t=(lz (fun k=>decide (k<i)) 0 ents s).tv t:=by
   intro t ht;refine rZ ents 0 s s rfl fun m y hy hdy=>?_
   rw[J_];rcases Nat.lt_trichotomy m i with hm|hm|hm
   ·rcases fO hE hm hy hx with h|h
    ·rw[hanc m h];simp[hm]
    ·rw[yh (x:=oN ops y) (y:=oN ops x) hdy ht]at h;cases h
   ·subst hm;rw[hfi];simp
   ·rcases fO hE hm hx hy with h|h
    ·rw[hncl m y hy h];simp;omega
    ·rw[AC (x:=oN ops x) (y:=oN ops y) hdy ht]at h;cases h
  have agB:∀j∈x.rb,ap (lz (fun i=>listed.getD i false) 0 ents s).b j=ap (lz (fun k=>decide (k<i)) 0 ents s).b j:=by
   intro j hj;refine s7 ents 0 s s rfl fun m y hy hdy=>?_
   rw[J_];rcases Nat.lt_trichotomy m i with hm|hm|hm
   ·rcases fO hE hm hy hx with h|h
    ·rw[hanc m h];simp[hm]
    ·rw[B6 (x:=oN ops y) (y:=oN ops x) hdy hj]at h;cases h
   ·subst hm;rw[hfi];simp
   ·rcases fO hE hm hx hy with h|h
    ·rw[hncl m y hy h];simp;omega
    ·rw[Cm (x:=oN ops x) (y:=oN ops y) hdy hj]at h;cases h
  have hg':=H8 (s':=lz (fun i=>listed.getD i false) 0 ents s) hg (fun k hk=>agT k (List.mem_append_left _ hk));have hwant:=oP hM hg'
  have hset:∀m,(listed.setIfInBounds i true).getD m false=if m=i then true else listed.getD m false:=by
   intro m
   by_cases hmi:m=i
   ·subst hmi;simp[hil]
   ·rw[if_neg hmi];exact getD_set_ne false (fun e=>hmi e.symm)
  have hnew:∀(g':Nat->Nat) (a':Act) (w':World),MG n S0 w0 g' ((lz (fun i=>listed.getD i false) 0 ents s).eff x.o.dst x.e) a' w'->wpAny P .any ops Q fuel (listed.setIfInBounds i true) a' w':=by
   intro g' a' w' hM';refine ih (listed.setIfInBounds i true) (by simp[hl]) ?_ ?_ (hM'.ext (fun t=>?_) (fun j=>?_))
   ·have hf:listed[i]=false:=by simpa[hil]using hfi
    have:(listed.setIfInBounds i true).toList.count false+1=listed.toList.count false:=by
     rw[Array.toList_setIfInBounds,List.count_set (by simpa using hil)];have hpos:0<listed.toList.count false:=List.count_pos_iff.2 (by rw[<- hf];simp)
     rw[Array.getElem_toList,hf]
     simp only[beq_self_eq_true,if_true]
     rw[if_neg D_];omega
    omega
   ·intro k ok hk hok e he' hb'
    rw[hset]at hk ⊢
    split
    ·rfl
    ·by_cases hki:k=i
     ·subst hki
      rw[ho]at hok;cases hok;exact hall e he' hb'
     ·rw[if_neg hki]at hk
      exact hcl k ok hk hok e he' hb'
   ·rw[wU]
    by_cases hdt:x.o.dst=some t
    ·rw[if_pos hdt]
     refine qk ents 0 i x s hx hdt (by rw[J_,hset,if_pos rfl]) (fun m y hm hy hdy=>?_);rw[J_,hset,if_neg O_];rcases fO hE hm hx hy with h|h
     ·exact hncl m y hy h
     ·rw[HI (x:=oN ops x) (y:=oN ops y) hdt hdy]at h;cases h
    ·rw[if_neg hdt]
     refine rZ ents 0 s s rfl fun m y hy hdy=>?_
     rw[J_,hset]
     split
     ·rename_i hmi
      subst hmi;rw[hx]at hy;cases hy;exact absurd hdy hdt
     ·rfl
   ·rw[sW]
    by_cases hin:j∈FR x.e
    ·obtain⟨v,hv⟩:=rK hin
     rw[hv];refine pS ents 0 i x s hx hv (by rw[J_,hset,if_pos rfl]) (fun m y hm hy hdy=>?_);rw[J_,hset,if_neg O_];rcases fO hE hm hx hy with h|h
     ·exact hncl m y hy h
     ·rw[MM (x:=oN ops x) (y:=oN ops y) hin hdy]at h;cases h
    ·rw[pp hin]
     refine s7 ents 0 s s rfl fun m y hy hdy=>?_
     rw[J_,hset]
     split
     ·rename_i hmi
      subst hmi;rw[hx]at hy;cases hy;exact absurd hdy hin
     ·rfl
  unfold wpOp
  simp only[ho]
  cases hb:x.b with
  |true=>
   rw[hb]at hwant;rw[if_pos hwant];refine .inl (l4 hT (Ce (hs1 hb) (fun k hk=>agT k (List.mem_append_right _ hk)) agB (we ents 0 s hcl0 hcle)) n S0 w0 g a w _ Q hM (ee hd) hnew)
  |false=>
   rw[hb]at hwant;rw[if_neg (by rw[hwant];simp)];have:=hM.undef (ee hd);exact hnew g _ _ (by rw[(hs2 hb).1];exact this)
theorem Fd (hT:∀t d,T t=some d->a8 P t d) (hmix:P.follows .mixedOrders=true) {Q:Exit->Act->World->Prop} (hK:∀s g a w,K s->MG n S0 w0 g s a w->Q .normal a w) (hto:(draw && !(tj ops && dY [] s.b))=false) {id:Nat} (h:ar P T n ops id draw K 0 ops.toList s [])
 {g:Nat->Nat} {a:Act} {w:World} (hM:MG n S0 w0 g s a w):(Code.region id ops draw).wp P Q a w:=by
 cases draw with
 |false=>
  refine wp_region ?_;have:=KP hT hK h (fun i=>by simp) hM
  rwa[List.range_eq_range',<- Array.length_toList]
 |true=>
  obtain⟨ents,h1,h2,h3⟩:=BC h
  simp only[J_]at h3
  refine wp_region_any hmix ?_;have hto':tj ops=true/\dY [] s.b=true:=by simpa using hto
  refine In hT hK hto'.1 h1 h2 h3 (iZ hto'.2) ops.size _ S_ (by rw[Array.toList_replicate,List.count_replicate];simp) ?_ (g:=g) ?_
  ·intro k o hk _
   rcases Nat.lt_or_ge k ops.size with h|h
   ·simp[h]at hk
   ·simp[Nat.not_lt.2 h]at hk
  ·rw[si _ _ _ (fun i _=>by
    rcases Nat.lt_or_ge i ops.size with h|h
    ·simp[h]
    ·simp[Nat.not_lt.2 h])]
   exact hM.grow' (Below.drew (Below.refl _ _))
end
inductive AX where
 |normal
 |exit (id:Nat)
 |ret
def aM (s s':AS):Prop:=∀(n:Nat) (S0:Nat->Prop) (w0:eR) (a:Act) (w:World),M n S0 w0 s a w->M n S0 w0 s' a w
theorem aM.refl (s:AS):aM s s:=fun _ _ _ _ _ h=>h
def AD (s:AS) (Φ:AS->Prop):Prop:=∀(n:Nat) (S0:Nat->Prop) (w0:eR) (a:Act) (w:World),M n S0 w0 s a w-> ∃s',Φ s'/\M n S0 w0 s' a w
theorem AD.one {s s':AS} (h:aM s s'):AD s (fun s1=>s1=s'):=fun _ _ _ _ _ hM=>⟨s',rfl,h _ _ _ _ _ hM⟩
def CK (K:AS->Prop) (Q:AX->AS->Prop):AX->AS->Prop
 | .normal,s=>K s
 |e,s=>Q e s
def wK (id:Nat) (Q:AX->AS->Prop):AX->AS->Prop
 | .exit i,s=>match Nat.beq i id with
  |true=>Q .normal s
  |false=>Q (.exit i) s
 |e,s=>Q e s
def fP (P:Program) (T:TypeId->Option Ty) (n:Nat):Code->(AX->AS->Prop)->AS->Prop
 | .skip,Q,s=>Q .normal s
 | .label _,Q,s=>Q .normal s
 | .region id ops draw,Q,s=>∃Φ:AS->Prop,AD s Φ/\ ∀s1,Φ s1->(draw && !(tj ops && dY [] s1.b))=false/\ar P T n ops id draw (fun s'=>Q .normal s') 0 ops.toList s1 []
 | .seq x y,Q,s=>fP P T n x (CK (fP P T n y Q) Q) s
 | .cond c x y,Q,s=>∃t,s.ev c= .d (.leaf (.val (.bool t)))/\(t=true->fP P T n x Q s)/\(t=false->fP P T n y Q s)
 | .block id x,Q,s=>fP P T n x (wK id Q) s
 | .loop x,Q,s=>∃(α:Type) (I:α->Prop) (σ:α->AS) (μ:α->Nat),(∃x0,I x0/\aM s (σ x0))/\ ∀y,I y->fP P T n x (CK (fun s'=>∃z,I z/\μ z<μ y/\aM s' (σ z)) Q) (σ y)
 | .scope x,Q,s=>fP P T n x Q s
 | .exit id,Q,s=>Q (.exit id) s
 | .ret,Q,s=>Q .ret s
 |_,_,_=>False
def QW (n:Nat) (S0:Nat->Prop) (w0:eR) (Q:AX->AS->Prop):Exit->Act->World->Prop
 | .normal,a,w=>∃s,Q .normal s/\M n S0 w0 s a w
 | .exit i,a,w=>∃s,Q (.exit i) s/\M n S0 w0 s a w
 | .ret,a,w=>∃s,Q .ret s/\M n S0 w0 s a w
 |_,_,_=>False
section
variable {P:Program} {T:TypeId->Option Ty} {n:Nat} {S0:Nat->Prop} {w0:eR}
theorem oz (hT:∀t d,T t=some d->a8 P t d) (hmix:P.follows .mixedOrders=true):∀(c:Code) (Q:AX->AS->Prop) (s:AS) (a:Act) (w:World),fP P T n c Q s->M n S0 w0 s a w->c.wp P (QW n S0 w0 Q) a w:=by
 intro c
 induction c with
 |skip=>intro Q s a w h hM;exact wp_skip ⟨s,h,hM⟩
 |label l=>intro Q s a w h hM;exact wp_label ⟨s,h,hM⟩
 |region id ops draw=>
  intro Q s a w ⟨Φ,hw,hr⟩ hM;obtain⟨s1,hΦ,g,hM⟩:=hw _ _ _ _ _ hM;have h:=hr s1 hΦ;exact Fd hT hmix (fun s' g' a' w' hk hm=>⟨s',hk,g',hm⟩) h.1 h.2 hM
 |seq x y ihx ihy=>
  intro Q s a w h hM;refine wp_seq (wp_mono (ihx _ s a w h hM) fun e a' w' hq=>?_);cases e with
  |normal=>obtain⟨s',hk,hm⟩:=hq;exact ihy Q s' a' w' hk hm
  |exit i=>exact hq
  |ret=>exact hq
  |goto l=>exact hq
  |panic c=>exact hq
  |outgrown=>exact hq
 |cond c x y ihx ihy=>
  intro Q s a w ⟨t,hc,h1,h2⟩ hM;obtain⟨g,hg⟩:=hM;refine wp_cond_split (t:=t) (a7 hg hc) (fun ht=>ihx Q s a w (h1 ht) ⟨g,hg⟩) (fun ht=>ihy Q s a w (h2 ht) ⟨g,hg⟩)
 |block id x ih=>
  intro Q s a w h hM;refine wp_block (wp_mono (ih _ s a w h hM) fun e a' w' hq=>?_);cases e with
  |normal=>exact hq
  |exit i=>
   obtain⟨s',hk,hm⟩:=hq
   simp only[wK]at hk
   simp only[Exit.inBlock]
   by_cases hi:i=id
   ·subst hi
    rw[if_pos rfl]
    simp only[Nat.beq_refl]at hk
    exact⟨s',hk,hm⟩
   ·rw[if_neg hi]
    have:Nat.beq i id=false:=by
     cases hb:Nat.beq i id
     ·rfl
     ·exact absurd (Nat.eq_of_beq_eq_true hb) hi
    rw[this]at hk;exact⟨s',hk,hm⟩
  |ret=>exact hq
  |goto l=>exact hq
  |panic c=>exact hq
  |outgrown=>exact hq
 |loop x ih=>
  intro Q s a w ⟨α,I,σ,μ,⟨x0,hI,hW⟩,hr⟩ hM;refine wp_loop_ghost (fun k a' w'=>∃y,μ y=k/\I y/\M n S0 w0 (σ y) a' w') (μ x0) ⟨x0,rfl,hI,hW _ _ _ _ _ hM⟩ ?_;rintro k a' w' ⟨y,rfl,hIy,hMy⟩;refine wp_mono (ih _ (σ y) a' w' (hr y hIy) hMy) fun e a1 w1 hq=>?_
  cases e with
  |normal=>
   obtain⟨s',⟨z,hz,hlt,hw⟩,hm⟩:=hq;exact⟨μ z,hlt,z,rfl,hz,hw _ _ _ _ _ hm⟩
  |exit i=>exact hq
  |ret=>exact hq
  |goto l=>exact hq
  |panic c=>exact hq
  |outgrown=>exact hq
 |exit id=>intro Q s a w h hM;exact wp_exit ⟨s,h,hM⟩
 |ret=>intro Q s a w h hM;exact wp_ret ⟨s,h,hM⟩
 |goto l=>intro Q s a w h;exact h.elim
 |scope c ih=>
  intro Q s a w h hM;refine wp_scope_straight (wp_mono (ih Q s a w h hM) fun e a' w' hq=>?_);cases e<;>exact hq
 |rangeFunc=>intro Q s a w h;exact h.elim
 |refuse=>intro Q s a w h;exact h.elim
def TI (s:AS):List (Nat × TV)->Prop
 | []=>True
 |(k,v)::r=>s.tv k=v/\TI s r
def qQ (s:AS):List (Nat × Option (List AV))->Prop
 | []=>True
 |(j,some cs)::r=>s.bx j=some cs/\qQ s r
 |(_,none)::r=>qQ s r
def qf:List CV->List Nat
 | []=>[]
 | .box j _::r=>j::qf r
 | .val _::r=>qf r
def d8:TV->List Nat
 | .box j _=>[j]
 | .own j _ _ _=>[j]
 | .clo _ fs cs=>qf fs++qf cs
 | .dfr _ cs=>qf cs
 | .vw j _ _ _=>[j]
 | .vs j _ _ _ _ _=>[j]
 |_=>[]
def EF (b:List (Nat × Option (List AV))):List Nat->Bool
 | []=>true
 |j::r=>(match ap b j with|some _=>true|none=>false) && EF b r
theorem xO {b:List (Nat × Option (List AV))}:∀{l:List Nat},EF b l=true-> ∀j∈l,∃x,ap b j=some x
 | [],_,j,hj=>by cases hj
 |i::r,h,j,hj=>by
  simp only[EF,B_]at h
  rcases f_.1 hj with rfl|hj
  ·have:=h.1
   split at this
   ·rename_i x hx;exact⟨x,hx⟩
   ·cases this
  ·exact xO h.2 j hj
def GS (b:List (Nat × Option (List AV))):List (Nat × TV)->Bool
 | []=>true
 |(_,v)::r=>EF b (d8 v) && GS b r
theorem TI.at {s:AS} {k:Nat} {v:TV}:∀{r:List (Nat × TV)},TI s r->ap r k=some v->s.tv k=v
 | [],_,h=>by cases h
 |(k',v')::r,hw,h=>by
  by_cases e:k'=k
  ·subst e;rw[am]at h;cases h;exact hw.1
  ·rw[au _ _ e]at h;exact hw.2.at h
theorem qQ.at {s:AS} {j:Nat} {cs:List AV}:∀{r:List (Nat × Option (List AV))},qQ s r->ap r j=some (some cs)->s.bx j=some cs
 | [],_,h=>by cases h
 |(j',some v')::r,hw,h=>by
  by_cases e:j'=j
  ·subst e;rw[am]at h;cases h;exact hw.1
  ·rw[au _ _ e]at h;exact qQ.at hw.2 h
 |(j',none)::r,hw,h=>by
  by_cases e:j'=j
  ·subst e;rw[am]at h;cases h
  ·rw[au _ _ e]at h;exact qQ.at (r:=r) hw h
theorem GS.at {b:List (Nat × Option (List AV))} {k:Nat} {v:TV}:∀{r:List (Nat × TV)},GS b r=true->ap r k=some v-> ∀j∈d8 v,∃x,ap b j=some x
 | [],_,h=>by cases h
 |(k',v')::r,hw,h=>by
  simp only[GS,B_]at hw
  by_cases e:k'=k
  ·subst e
   rw[am]at h;cases h;exact xO hw.1
  ·rw[au _ _ e]at h;exact GS.at hw.2 h
theorem qm.weak {g:Nat->Nat} {s s':AS} (hbx:∀j cs,s'.bx j=some cs->s.bx j=some cs):∀{xs:List CV} {vs:List Value},(∀j∈qf xs,s'.kn j)->qm g s xs vs->qm g s' xs vs
 | [],[],_,_=>trivial
 | .val u::xs,v::vs,hk,h=>⟨h.1,qm.weak hbx hk h.2⟩
 | .box j o::xs,v::vs,hk,h=>⟨⟨hk j (by simp[qf]),fun cs hc=>h.1.2 cs (hbx j cs hc)⟩,qm.weak hbx (fun i hi=>hk i (by simp[qf,hi])) h.2⟩
 | [],_::_,_,h=>h.elim
 |_::_,[],_,h=>h.elim
def Uy:AV->List Nat
 | .ow j _ _ _=>[j]
 | .bp j _=>[j]
 |_=>[]
def Mf:List AV->List Nat
 | []=>[]
 |a::r=>Uy a++Mf r
def ui (b0:List (Nat × Option (List AV))):List (Nat × Option (List AV))->Bool
 | []=>true
 |(j,some cs)::r=>(match cM j with
  |true=>EF b0 (Mf cs)
  |false=>true) && ui b0 r
 |(_,none)::r=>ui b0 r
theorem mI:∀{cs:List AV} {i:Nat} {a:AV},cs[i]? =some a-> ∀j∈Uy a,j∈Mf cs
 | [],i,a,h,_,_=>by simp at h
 |b::cs,0,a,h,j,hj=>by simp at h;subst h;exact List.mem_append_left _ hj
 |b::cs,i+1,a,h,j,hj=>List.mem_append_right _ (mI (cs:=cs) (by simpa using h) j hj)
theorem ui.at {b0:List (Nat × Option (List AV))} {i:Nat} {cs:List AV}:∀{r:List (Nat × Option (List AV))},ui b0 r=true->ap r i=some (some cs)->cM i=true-> ∀j∈Mf cs,∃x,ap b0 j=some x
 | [],_,h,_=>by cases h
 |(i',some c)::r,hw,h,hl=>by
  simp only[ui,B_]at hw
  by_cases e:i'=i
  ·subst e
   rw[am]at h;cases h;have h1:=hw.1;rw[hl]at h1;exact xO h1
  ·rw[au _ _ e]at h;exact ui.at hw.2 h hl
 |(i',none)::r,hw,h,hl=>by
  by_cases e:i'=i
  ·subst e;rw[am]at h;cases h
  ·rw[au _ _ e]at h;exact ui.at (r:=r) hw h hl
def Wg (b:List (Nat × Option (List AV))) (t:List (Nat × TV)):Bool:=GS b t && ui b b
theorem xY.sub {S S':Nat->Prop} {g:Nat->Nat} {s s':AS} {w:World} {x:AV} {v:Value} (h:xY S g s w x v) (hk:∀j∈Uy x,s'.kn j) (hb:∀j cs,s'.bx j=some cs->s.bx j=some cs):xY S' g s' w x v:=by
 cases x with
 |ow j n k e=>exact⟨hk j (by simp[Uy]),fun cs hc=>h.2 cs (hb j cs hc)⟩
 |bp j o=>exact⟨hk j (by simp[Uy]),fun cs hc=>h.2 cs (hb j cs hc)⟩
 |val=>trivial
 |sl=>trivial
 |nl=>trivial
theorem weak {s s':AS} (ht:TI s s'.t) (hb:qQ s s'.b) (hw:Wg s'.b s'.t=true) (hdk:s'.tv DK=s.tv DK:=by rfl):aM s s':=by
 simp only[Wg,B_]at hw
 obtain⟨hw,hwc⟩:=hw;intro n S0 w0 a w ⟨g,h⟩
 have hbx:∀j cs,s'.bx j=some cs->s.bx j=some cs:=fun j cs hj=>by
  unfold AS.bx at hj
  split at hj
  ·rename_i x hx;cases hj;exact hb.at hx
  ·cases hj
 have hO:∀b,b<w.heap.size->Own S0 g s' b->Own S0 g s b:=by
  rintro b _ (h0| ⟨j,cs,hj,e⟩)
  ·exact .inl h0
  ·exact .inr ⟨j,cs,hbx j cs hj,e⟩
 refine⟨g,fun k=>?_,fun j cs hj=>?_,fun i j ci cj hi hj e=>h.inj i j ci cj (hbx _ _ hi) (hbx _ _ hj) e,h.grow,?_,h.sz,h.cl,h.tg,fun k cs hk=>by
  obtain⟨b,off,f,e,hn,hl,h1,h2⟩:=h.gl k cs hk;exact⟨b,off,f,e,fun h=>hn (hO _ hl h),hl,h1,fun i a hi=>(h2 i a hi).agree (bY.refl _ _) hO⟩,fun j q cs h1 h2 hj=>h.gp j q cs h1 h2 (hbx j cs hj),h.nk⟩
 ·cases hk:ap s'.t k with
  |none=>simp only[AS.tv,hk];trivial
  |some v=>
   have e:s'.tv k=v:=by simp only[AS.tv,hk]
   rw[e];have hm:=h.tm k;rw[ht.at hk]at hm;cases v with
   |d x=>exact DV.M.agree hm (bY.refl _ _) hO
   |tup ts=>obtain⟨vs,e,hl,hc⟩:=hm;exact⟨vs,e,hl,fun i x u h1 h2=>(hc i x u h1 h2).agree (bY.refl _ _) hO⟩
   |box j o=>exact⟨GS.at hw hk j (by simp[d8]),fun cs hc=>hm.2 cs (hbx j cs hc)⟩
   |own j n q e1=>exact⟨GS.at hw hk j (by simp[d8]),fun cs hc=>hm.2 cs (hbx j cs hc)⟩
   |clo fn fs cs=>
    obtain⟨us,vs,e,h1,h2⟩:=hm;have hkn:=GS.at hw hk;exact⟨us,vs,e,h1.weak hbx (fun j hj=>hkn j (by simp[d8,hj])),h2.weak hbx (fun j hj=>hkn j (by simp[d8,hj]))⟩
   |mp es=>obtain⟨r,ents,clk,e,h1,h2,h3⟩:=hm;exact⟨r,ents,clk,e,h1,fun h=>h2 (hO _ (A_.1 h1).1 h),h3⟩
   |nil=>exact hm
   |rp cs=>obtain⟨b,off,f,e,hn,hl,h1,h2⟩:=hm;exact⟨b,off,f,e,fun h=>hn (hO _ hl h),hl,h1,fun i a hi=>(h2 i a hi).agree (bY.refl _ _) hO⟩
   |und=>exact hm
   |junk=>trivial
   |dfr=>trivial
   |vw j o n q=>exact⟨GS.at hw hk j (by simp[d8]),fun cs hc=>hm.2 cs (hbx j cs hc)⟩
   |vs j o n c q e1=>exact⟨GS.at hw hk j (by simp[d8]),fun cs hc=>hm.2 cs (hbx j cs hc)⟩
 ·obtain⟨h1,arr,e,h2,h3,h4,h5,h6⟩:=h.bm j cs (hbx j cs hj)
  refine⟨h1,arr,e,h2,h3.agree (bY.refl _ _) hO,h4,fun hl i a v ha hv=>(h5 hl i a v ha hv).sub (fun q hq=>?_) hbx,h6⟩
  have hlk:ap s'.b j=some (some cs):=by
   unfold AS.bx at hj
   split at hj
   ·rename_i x hx;cases hj;exact hx
   ·cases hj
  exact ui.at hwc hlk hl q (mI ha q hq)
 ·have h0:=h.df
  rw[hdk];cases hx:s.tv DK with
  |dfr f cs=>
   rw[hx]at h0;obtain⟨vs,e,h1⟩:=h0
   have hk:ap s'.t DK=some (.dfr f cs):=by
    have h2:=hdk.trans hx;unfold AS.tv at h2
    split at h2
    ·rename_i v hv;rw[hv,h2]
    ·cases h2
   have hkn:=GS.at hw hk;exact⟨vs,e,h1.weak hbx (fun j hj=>hkn j (by simp[d8,hj]))⟩
  |_=>rw[hx]at h0;exact h0
def qp:Nat->List DV->List (Nat × TV)
 |_,[]=>[]
 |k,d::r=>(k, .d d)::qp (k+1) r
def ki (T:TypeId->Option Ty) (s:AS):List ResultVar->Option (List DV)
 | []=>match pf (s.tv DK)with
  |true=>some []
  |false=>none
 | .tmp t::r=>match KE (s.tv t),ki T s r with
  |some dv,some l=>some (dv::l)
  |_,_=>none
 | .cell p ty::r=>match s.tv p,T ty,ki T s r with
  | .box j off,some d,some l=>match s.bx j with
   |some cs=>match Nat.ble (off+d.size) cs.length,Ls d.agg ((cs.drop off).take d.size)with
    |true,some dv=>some (dv::l)
    |_,_=>none
   |none=>none
  |_,_,_=>none
def yt:List DV->RV
 | [d]=> .one d
 |l=> .tup l
def WB (S:Nat->Prop) (w:World) (ds:List DV) (vs:List Value):Prop:=ds.length=vs.length/\ ∀(i:Nat) (x:DV) (u:Value),ds[i]? =some x->vs[i]? =some u->DV.M S w x u
theorem Bg (p:Addr) (w:World):(asAddr (.pointer (some p))).run P w= .ok p w:=rfl
theorem ig (hT:∀t d,T t=some d->a8 P t d) {s:AS} {g:Nat->Nat} {a:Act} {w:World} (hM:MG n S0 w0 g s a w):∀(l:List ResultVar) (ds:List DV),ki T s l=some ds ->
 ∃vs,(l.mapM (fun| .tmp t=>pure (a.tmps.getD t undef)| .cell p ty=>do loadVar ty (<- asAddr (a.tmps.getD p undef))):Sem (List Value)).run P w= .ok vs w/\WB (Own S0 g s) w ds vs
 | [],ds,h=>by
  simp only[ki]at h
  split at h
  ·cases h;exact⟨[],rfl,rfl,fun i x u h=>by simp at h⟩
  ·cases h
 | .tmp t::r,ds,h=>by
  simp only[ki]at h
  split at h
  ·rename_i dv l h1 h2
   cases h;obtain⟨vs,hr,hl,hv⟩:=ig hT hM r l h2;have hm:=Iw h1 (hM.tm t);refine⟨a.tmps.getD t undef::vs,?_,by simp[hl],fun i x u h3 h4=>?_⟩
   ·simp only[List.mapM_cons,Y_,a_,R_,hr]
   ·cases i with
    |zero=>
     simp only[List.getElem?_cons_zero,X_]at h3 h4
     subst h3 h4;exact hm
    |succ i=>exact hv i x u (by simpa using h3) (by simpa using h4)
  ·cases h
 | .cell p ty::r,ds,h=>by
  simp only[ki]at h
  split at h
  ·rename_i j off d l h1 h2 h3
   split at h
   ·rename_i cs hc
    split at h
    ·rename_i dv h4 h5
     cases h;obtain⟨vs,hr,hl,hv⟩:=ig hT hM r l h3;have hm:=hM.tm p;rw[h1]at hm;obtain⟨_,arr,e,hb1,hb2,_⟩:=hM.bm j cs hc;have hlen:=hb2.1;have h4:=N_ h4
     obtain⟨v,hrl,hvl⟩:=fh (P:=P) (w:=w) (hT _ _ h2) (b:=g j) (o:=off) (vs:=(arr.toList.drop off).take d.size) (by simp at hlen ⊢;omega) (fun i v hv=>by
      rw[dK hb1];rw[List.getElem?_take]at hv
      split at hv
      ·simpa using hv
      ·cases hv) (hb2.sub h4) h5
     refine⟨v::vs,?_,by simp[hl],fun i x u h6 h7=>?_⟩
     ·simp only[Instr.loadAt,Instr.sureAddr,Y_,a_,R_]at hrl
      simp only[List.mapM_cons,Y_,hm.2 cs hc,Bg,a_,R_,hrl,hr]
     ·cases i with
      |zero=>simp at h6 h7;subst h6;subst h7;exact hvl
      |succ i=>exact hv i x u (by simpa using h6) (by simpa using h7)
    ·cases h
   ·cases h
  ·cases h
theorem VM.length {S:Nat->Prop} {w:World}:∀{ds:List DV} {vs:List Value},VM S w ds vs->ds.length=vs.length
 | [],[],_=>rfl
 |_::ds,_::vs,h=>by simp[VM.length h.2]
 | [],_::_,h=>h.elim
 |_::_,[],h=>h.elim
theorem VM.at {S:Nat->Prop} {w:World}:∀{ds:List DV} {vs:List Value},VM S w ds vs-> ∀(k i:Nat),TV.M S (fun _=>0) ⟨[],[]⟩ w (match ap (qp k ds) i with|some v=>v|none=> .junk) (if i<k then undef else vs.getD (i-k) undef)
 | [],[],_,k,i=>trivial
 |d::ds,v::vs,h,k,i=>by
  simp only[qp]
  by_cases e:k=i
  ·subst e
   rw[am]
   simp only[Nat.lt_irrefl,if_false,Nat.sub_self]
   exact h.1
  ·rw[au _ _ e]
   have:=VM.at h.2 (k+1) i
   by_cases h1:i<k
   ·rw[if_pos O_]at this;rw[if_pos h1];exact this
   ·rw[if_neg O_]at this
    rw[if_neg h1];have e2:i-k=(i-(k+1))+1:=O_
    rw[e2]
    simpa using this
 | [],_::_,h,_,_=>h.elim
 |_::_,[],h,_,_=>h.elim
theorem iO {s:AS}:∀{rs:List ResultVar} {l:List DV},ki T s rs=some l->pf (s.tv DK)=true
 | [],l,h=>by
  simp only[ki]at h
  split at h
  ·assumption
  ·cases h
 | .tmp t::r,l,h=>by
  simp only[ki]at h
  split at h
  ·rename_i dv l' h1 h2;exact iO h2
  ·cases h
 | .cell p ty::r,l,h=>by
  simp only[ki]at h
  split at h
  ·rename_i j off d l' h1 h2 h3;exact iO h3
  ·cases h
theorem FD {ds:List DV}:∀{k i:Nat},k+ds.length<=i->ap (qp k ds) i=none:=by
 induction ds with
 |nil=>intro k i _;rfl
 |cons d ds ih=>
  intro k i h
  simp only[List.length_cons]at h
  rw[qp,au _ _ O_];exact ih O_
theorem vz (hT:∀t d,T t=some d->a8 P t d) (hmix:P.follows .mixedOrders=true) {f:FuncId} {fn:Func} {c:Code} {ds:List DV} {r:RV} (hf:P.funcs[f]? =some fn) (hb:fn.body=some c) (hn:(fn.name == "runtime.NumGoroutine")=false) (hsz:(Nat.ble ds.length fn.ntmps && Nat.ble fn.ntmps DK)=true)
 (h:fP P T fn.ntmps c (fun e s=>match e with| .exit _=>False|_=>∃l,ki T s fn.results.toList=some l/\yt l=r) ⟨qp 0 ds,[]⟩):aa P f ds r:=by
 rw[B_]at hsz;obtain⟨hsz,hnk⟩:=hsz;have hsz:=N_ hsz;have hnk:=N_ hnk;refine⟨fun args w=>?_,fun S w vs hS hv=>?_⟩
 ·have hn':¬fn.name= "runtime.NumGoroutine" :=by simpa using hn
  simp[callFunc,Y_,hf,hn',hb]
 ·have hl:=VM.length hv
  refine calls_of_wp hf hb (wp_mono (oz (S0:=S) (w0:=⟨w,fun _=>False,[],fun _=>none⟩) hT hmix c _ ⟨qp 0 ds,[]⟩ _ w h ⟨fun _=>0,⟨fun k=>?_,fun j cs hj=>(by cases hj),fun i j ci cj hi=>(by cases hi),cR.refl _ _,?_,by simp;omega,fun b hb=>⟨(hS.2 b hb).1,fun h=>h,(hS.2 b hb).2⟩,hS.1.base _ _,fun k cs hk=>?_,fun j q cs _ h=>(by cases h),hnk⟩⟩) fun e a w1 hq=>?_)
  ·have hO:Own S (fun _=>0) ⟨qp 0 ds,[]⟩=S:=by
    funext b
    simp[Own,AS.bx,ap]
   rw[hO];have:=VM.at hv 0 k
   simp only[Nat.not_lt_zero,if_false,Nat.sub_zero]at this
   have e2:(vs.toArray++Array.replicate (fn.ntmps-vs.toArray.size) undef).getD k undef=vs.getD k undef:=by
    simp only[Array.getD_eq_getD_getElem?,Array.getElem?_append,H_]
    by_cases h1:k<vs.length
    ·simp[h1]
    ·simp[h1]
     cases h2:(Array.replicate (fn.ntmps-vs.length) undef)[k-vs.length]? with
     |none=>rfl
     |some v=>rw[Array.getElem?_replicate]at h2;split at h2<;>simp_all
   dsimp only;rw[e2];exact TV.M.agree this (bY.refl _ _) (fun _ _ h=>h) ⟨fun j hj=>hj,fun j cs _ hc=>by cases hc⟩
  ·have e0:(AS.mk (qp 0 ds) []).tv DK= .junk:=by simp only[AS.tv,FD (k:=0) (ds:=ds) (i:=DK) O_]
   rw[e0];rfl
  ·have hO:Own S (fun _=>0) ⟨qp 0 ds,[]⟩=S:=by
    funext b
    simp[Own,AS.bx,ap]
   rw[hO];exact hS.gl k cs hk
  ·have fin:∀s,(∃l,ki T s fn.results.toList=some l/\yt l=r)->M fn.ntmps S ⟨w,fun _=>False,[],fun _=>none⟩ s a w1->a.defers=[]/\ ∃v,(results fn a.tmps).run P w1= .ok v w1/\F4 S r w (.returned v) w1:=by
    rintro s ⟨l,h1,rfl⟩ ⟨g,hm⟩;obtain⟨vs',hr,hl',hv'⟩:=ig hT hm fn.results.toList l h1;refine⟨(AI.no (iO h1)).1 hm.df,if h:vs'.toArray.size=1 then vs'.toArray[0]else .tuple vs'.toArray,?_,_,rfl,?_,hm.grow.below⟩
    ·unfold results
     rw[Y_,Array.mapM_eq_mapM_toList,Sem.run_map]
     erw[hr]
     simp only[R_]
     rfl
    ·have hO:∀b,b<w1.heap.size->S b->Own S g s b:=fun b _ h=> .inl h
     have hv2:∀(i:Nat) (x:DV) (u:Value),l[i]? =some x->vs'[i]? =some u->DV.M S w1 x u:=fun i x u h1 h2=>(hv' i x u h1 h2).agree (bY.refl _ _) hO
     cases l with
     |nil=>
      rw[dif_neg (by simp at hl' ⊢;omega)];exact⟨vs',rfl,hl',hv2⟩
     |cons d l=>
      cases l with
      |nil=>
       have:vs'.toArray.size=1:=by simpa using hl'.symm
       rw[dif_pos this];exact hv2 0 d _ rfl S_
      |cons d' l=>
       rw[dif_neg (by simp at hl' ⊢;omega)];exact⟨vs',rfl,hl',hv2⟩
   cases e with
   |normal=>obtain⟨s,h1,h2⟩:=hq;exact fin s h1 h2
   |ret=>obtain⟨s,h1,h2⟩:=hq;exact fin s h1 h2
   |exit i=>obtain⟨s,h1,h2⟩:=hq;exact h1.elim
   |goto l=>exact hq.elim
   |panic c=>exact hq.elim
   |outgrown=>exact hq.elim
variable {ops:Array Oper} {id:Nat} {draw:Bool} {K:AS->Prop} {s:AS} {k:Nat} {o:Oper} {os:List Oper} {fps:List FP}
theorem gT {e:r6} {rb:List Nat} (h1:gd ops s o=some true) (h2:fv T (id*1000+k) s o=some (e,rb)) (h3:aL n o.dst=true) (h4:fg draw ops (aA ops o e rb) k fps=true) (h:ar P T n ops id draw K (k+1) os (s.eff o.dst e) (aA ops o e rb::fps)):ar P T n ops id draw K k (o::os) s fps:= .run h1 (.op h2) h3 h4 h
theorem bn (h1:gd ops s o=some false) (h3:aL n o.dst=true) (h4:fg draw ops (aA ops o ⟨.und,none⟩ []) k fps=true) (h:ar P T n ops id draw K (k+1) os (s.eff o.dst ⟨.und,none⟩) (aA ops o ⟨.und,none⟩ []::fps)):ar P T n ops id draw K k (o::os) s fps:= .skip h1 h3 h4 h
theorem ac {f:Operand} {fid:FuncId} {args:Array Operand} {ts:Array TypeId} {ds:List DV} {r:RV} (hc:aa P fid ds r) (h1:gd ops s o=some true) (hcl:dY [] s.b=true) (h2:o.op= .call ⟨.value f,args,ts⟩) (h5:s.ev f= .d (.leaf (.val (.func (.func fid) #[] #[])))) (h6:GX s args.toList=some ds)
 (h3:aL n o.dst=true) (h4:fg draw ops (aA ops o ⟨r.tv,none⟩ []) k fps=true) (h:ar P T n ops id draw K (k+1) os (s.eff o.dst ⟨r.tv,none⟩) (aA ops o ⟨r.tv,none⟩ []::fps)):ar P T n ops id draw K k (o::os) s fps:= .run h1 (.call h2 h5 h6 hc (iZ hcl) rfl rfl) h3 h4 h
theorem aH {t:TypeId} {ty:Ty} {x y:Operand} {et q m i:Nat} {ik:IntKind} {cs cs':List AV} (hi:i<m) (hcs:∀(j:Nat) (a:AV),cs'[j]? =some a->cs[i*q+j]? =some a) (hpos:0<cs'.length) (h1:gd ops s o=some true) (h2:o.op= .indexAddr t x y) (h5:T t=some ty) (h6:ty.elem=some (et,q)) (h7:s.ev x= .d (.leaf (.sl m cs))) (h8:s.ev y= .d (.leaf (.val (.int ik (i:Nat)))))
 (h3:aL n o.dst=true) (h4:fg draw ops (aA ops o ⟨.rp cs',none⟩ []) k fps=true) (h:ar P T n ops id draw K (k+1) os (s.eff o.dst ⟨.rp cs',none⟩) (aA ops o ⟨.rp cs',none⟩ []::fps)):ar P T n ops id draw K k (o::os) s fps:= .run h1 (.idx h2 h5 h6 h7 h8 hi hcs hpos rfl rfl) h3 h4 h
theorem mC {t:TypeId} {ty:Ty} {x y:Operand} {j q m i e:Nat} {ik:IntKind} {cs:List AV} (hi:i<m) (h1:gd ops s o=some true) (h2:o.op= .indexAddr t x y) (h5:T t=some ty) (h6:ty.elem=some (e,q)) (h7:s.ev x= .own j m q e) (h9:s.bx j=some cs) (h8:s.ev y= .d (.leaf (.val (.int ik (i:Nat)))))
 (h3:aL n o.dst=true) (h4:fg draw ops (aA ops o ⟨.box j (i*q),none⟩ [j]) k fps=true) (h:ar P T n ops id draw K (k+1) os (s.eff o.dst ⟨.box j (i*q),none⟩) (aA ops o ⟨.box j (i*q),none⟩ [j]::fps)):ar P T n ops id draw K k (o::os) s fps:= .run h1 (.oidx h2 h5 h6 h7 h9 h8 hi rfl rfl) h3 h4 h
theorem aq {x:Code} {Q:AX->AS->Prop} (α:Type) (I:α->Prop) (σ:α->AS) (μ:α->Nat) (x0:α) (h0:I x0) (hw:aM s (σ x0)) (h:∀y,I y->fP P T n x (CK (fun s'=>∃z,I z/\μ z<μ y/\aM s' (σ z)) Q) (σ y)):fP P T n (.loop x) Q s:=⟨α,I,σ,μ,⟨x0,h0,hw⟩,h⟩
theorem dp {Q:AX->AS->Prop} (h:Q .normal s):fP P T n .skip Q s:=h
theorem iA {i:Nat} {Q:AX->AS->Prop} (h:Q (.exit i) s):fP P T n (.exit i) Q s:=h
theorem cU {v v':Value} {rb:List Nat} (h1:gd ops s o=some true) (h2:fv T (id*1000+k) s o=some (⟨.d (.leaf (.val v)),none⟩,rb)) (h3:aL n o.dst=true) (h4:fg draw ops (aA ops o ⟨.d (.leaf (.val v')),none⟩ rb) k fps=true) (hv:v=v')
 (h:ar P T n ops id draw K (k+1) os (s.eff o.dst ⟨.d (.leaf (.val v')),none⟩) (aA ops o ⟨.d (.leaf (.val v')),none⟩ rb::fps)):ar P T n ops id draw K k (o::os) s fps:=by
 subst hv;exact .run h1 (.op h2) h3 h4 h
theorem FX {j:Nat} {op:BinOp} {t t':TypeId} {x y:Operand} {u v r:Value} (ho:o.op= .binOp op t x y t') (hx:s.ev x= .d (.leaf (.val u))) (hy:s.ev y= .d (.leaf (.val v))) (hr:j7 op t x y u v=some r) (h1:r.oneCell'=true):fv T j s o=some (⟨.d (.leaf (.val r)),none⟩,[]):=by
 unfold fv;rw[ho]
 simp only[hx,hy,hr,h1]
theorem ax {op:BinOp} {t t':TypeId} {x y:Operand} {u v r:Value} (h1:gd ops s o=some true) (ho:o.op= .binOp op t x y t') (hx:s.ev x= .d (.leaf (.val u))) (hy:s.ev y= .d (.leaf (.val v))) (hp:r.oneCell'=true) (h3:aL n o.dst=true) (h4:fg draw ops (aA ops o ⟨.d (.leaf (.val r)),none⟩ []) k fps=true) (hr:j7 op t x y u v=some r)
 (h:ar P T n ops id draw K (k+1) os (s.eff o.dst ⟨.d (.leaf (.val r)),none⟩) (aA ops o ⟨.d (.leaf (.val r)),none⟩ []::fps)):ar P T n ops id draw K k (o::os) s fps:= .run h1 (.op (FX ho hx hy hr hp)) h3 h4 h
theorem sP {t:TypeId} {x y:Operand} {q:IntKind} {a b:Int} (hb:b≠0):j7 .rem t x y (.int q a) (.int q b)=some (.int q (a.tmod b)):=by
 show xK (do eqGuard .rem t x y (.int q a) (.int q b);binOp .rem t (.int q a) (.int q b))=_
 have:binOp .rem t (.int q a) (.int q b)= .pure (.int q (a.tmod b)):=by
  simp only[binOp,ne_eq,not_true_eq_false,if_false,Op.intDiv,hb]
  rfl
 simp only[this]
 rfl
theorem P0 {d:Nat} {x y:Operand} {t et q m1 m2:Nat} {ty te:Ty} {dead:Option Nat} {cs xs:List AV} (hm:0<m2) (hb:(m1+m2)*te.bytes<=140737488355328) (hxs:xs.length=m2*q) (h0:draw=false) (h1:gd ops s o=some true) (ho:o.op= .call ⟨.builtin .append,#[x,y],#[t,t]⟩) (hd:o.dst=some d) (h3:aL n o.dst=true) (ht:T t=some ty) (hel:ty.elem=some (et,q)) (hte:T et=some te) (hq:te.size=q) (hq0:(Nat.ble 1 q && Nat.ble 1 te.bytes)=true)
 (hbase:eK s x m1 q et dead cs) (hy:s.ev y= .d (.leaf (.sl m2 xs))) (hnew:fJ s (1000000+(id*1000+k))=true)
 (h:ar P T n ops id draw K (k+1) os ⟨(d, .own (1000000+(id*1000+k)) (m1+m2) q et)::s.t,(1000000+(id*1000+k),some (cs.take (m1*q)++xs))::fB dead s.b⟩ (aA ops o ⟨.junk,none⟩ []::fps)):ar P T n ops id draw K k (o::os) s fps:= .app h0 h1 ho hd h3 ht hel hte hq hq0 hbase hy hxs hm hb hnew h
theorem bK {rs:List ResultVar} {r:RV} {l:List DV} (h1:ki T s rs=some l) (h2:yt l=r):∃l,ki T s rs=some l/\yt l=r:=⟨l,h1,h2⟩
theorem bu {x y:Code} {Q:AX->AS->Prop} (h:fP P T n x (CK (fP P T n y Q) Q) s):fP P T n (.seq x y) Q s:=h
theorem bG {Q:AX->AS->Prop} (h1:(draw && !(tj ops && dY [] s.b))=false) (h:ar P T n ops id draw (fun s'=>Q .normal s') 0 ops.toList s []):fP P T n (.region id ops draw) Q s:=⟨_, .one (aM.refl s),fun _ e=>e ▸ ⟨h1,h⟩⟩
theorem dh {Q:AX->AS->Prop} {s1:AS} (hw:aM s s1) (h1:(draw && !(tj ops && dY [] s1.b))=false) (h:ar P T n ops id draw (fun s'=>Q .normal s') 0 ops.toList s1 []):fP P T n (.region id ops draw) Q s:=⟨_, .one hw,fun _ e=>e ▸ ⟨h1,h⟩⟩
theorem M0 {Q:AX->AS->Prop} (Φ:AS->Prop) (hw:AD s Φ) (h:∀s1,Φ s1->fP P T n (.region id ops draw) Q s1):fP P T n (.region id ops draw) Q s:=by
 refine⟨fun s2=>∃s1,∃h1:Φ s1,Classical.choose (h s1 h1) s2,fun n S0 w0 a w hM=>?_,?_⟩
 ·obtain⟨s1,h1,hM1⟩:=hw n S0 w0 a w hM
  obtain⟨s2,h2,hM2⟩:=(Classical.choose_spec (h s1 h1)).1 n S0 w0 a w hM1;exact⟨s2,⟨s1,h1,h2⟩,hM2⟩
 ·rintro s2 ⟨s1,h1,h2⟩
  exact(Classical.choose_spec (h s1 h1)).2 s2 h2
theorem bf {q j m k e:Nat} {cs:List AV} (hq:s.tv q= .own j m k e) (hj:s.bx j=some cs):aM s ⟨(q, .d (.leaf (.sl m cs)))::s.t,(j,none)::s.b⟩:=fun _ _ _ _ _ ⟨g,h⟩=>⟨g,h.freeze hq hj⟩
theorem ir {c:Operand} {x y:Code} {Q:AX->AS->Prop} {t:Bool} (hc:s.ev c= .d (.leaf (.val (.bool t)))) (h1:t=true->fP P T n x Q s) (h2:t=false->fP P T n y Q s):fP P T n (.cond c x y) Q s:=⟨t,hc,h1,h2⟩
theorem fj {c:Operand} {x y:Code} {Q:AX->AS->Prop} (hc:s.ev c= .d (.leaf (.val (.bool true)))) (h1:fP P T n x Q s):fP P T n (.cond c x y) Q s:=⟨true,hc,fun _=>h1,fun h=>(by cases h)⟩
theorem dX {c:Operand} {x y:Code} {Q:AX->AS->Prop} (hc:s.ev c= .d (.leaf (.val (.bool false)))) (h1:fP P T n y Q s):fP P T n (.cond c x y) Q s:=⟨false,hc,fun h=>(by cases h),fun _=>h1⟩
theorem eE {c:Operand} {x y:Code} {Q:AX->AS->Prop} {t:Bool} (hc:s.ev c= .d (.leaf (.val (.bool t)))) (ht:t=true) (h1:fP P T n x Q s):fP P T n (.cond c x y) Q s:=by subst ht;exact fj hc h1
theorem d4 {c:Operand} {x y:Code} {Q:AX->AS->Prop} {t:Bool} (hc:s.ev c= .d (.leaf (.val (.bool t)))) (ht:t=false) (h1:fP P T n y Q s):fP P T n (.cond c x y) Q s:=by subst ht;exact dX hc h1
theorem cX {b:Nat} {x:Code} {Q:AX->AS->Prop} (h:fP P T n x (wK b Q) s):fP P T n (.block b x) Q s:=h
end
end Go.Proofs.YtnchbpoopnjghaaGreatDoor
