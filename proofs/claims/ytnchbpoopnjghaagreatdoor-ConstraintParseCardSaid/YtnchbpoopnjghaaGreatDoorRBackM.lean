/- slices.Backward over words below a bound. -/
import Derived.Test.YtnchbpoopnjghaaGreatDoorRAe
set_option maxHeartbeats 100000000
set_option linter.all false
open Go.Proofs.Tryz
namespace Go.Proofs.YtnchbpoopnjghaaGreatDoor
open Go.RowKit
section
open Go.RowKit Go.Shelf
attribute [local go_sem] Oper.semAt_some
abbrev Jg(M:Nat)(x:Nat × Nat):Array Value:= #[.int .i64 (x.1:Int),bP (x.2%M)]
def xo{M:Nat}{xs:List Nat}(h0:0<M)(h:∀x∈xs,x<M)(i:Nat):xs.getD i 0<M:=by
 rw[H_];cases hx:xs[i]? with
 |none=>exact h0
 |some x=>exact h x (M_ hx)
set_option maxRecDepth 100000 in
def Fq(F:Fence)(n:Nat)(X:F.fn 286)(G:F.round=none)(hn:1<=n)(l Bs:Nat)(A:Option Addr)(a m:Nat)(d:List Nat)(M:Nat)(z:0<M)(N:∀x∈d,x<M)(w:World)(j:a7 w A a m d)(J H:List (Nat × Nat)->World->Prop)(Z:∀pre x W,J pre W->pre.length<a->YieldAt F (n-1) prog l (Jg M x) W fun e h=>
  (e= .returned (.bool true)/\J (pre++[x]) h/\KB w.heap.size Bs W h)∨(e= .returned (.bool false)/\H (pre++[x]) h))(W:World)(B:gi w W)(u:W.cell? ⟨Bs,0,none⟩=some (.slice A a m))(h0:J [] W):
 CallsIn F n prog 286 #[.func (.yield l) #[] #[], .pointer (some ⟨Bs,0,none⟩)] W fun e h=>(∃v,e= .returned v) /\
  ((∃T,T=upto (du d) a/\J T h)∨(∃pre,True/\H pre h)):=by
 have Q:=j.cap;have R:=j.lim;have hlen:=j.len;have q:=j.wd;have U:=Lib.hid j;have HM:=Lib.hid N;have Hlen:=Lib.hid hlen;have Hwd:=Lib.hid q;clear j hlen q N;refine callsIn_of_wp func286 rfl X ?_ G;simp only[ntmps286,List.size_toArray,List.length_cons,List.length_nil,Nat.reduceAdd,Nat.reduceSub,Array.replicate_succ,Array.replicate_zero,List.push_toArray,List.append_toArray,List.nil_append,List.cons_append]
 gi_wp2
 gi_loopw [3] (fun i wr=>∃k:Nat,k<=a/\i= .int .i64 ((a:Int)-1-k)/\J (upto (du d) k) wr/\KB w.heap.size Bs W wr)
  (fun i _=>(intOf i+1).toNat)
 case atStart=>exact⟨0,Nat.zero_le _,by go_num,h0,KB.refl _ _ _⟩
 case round=>
  obtain⟨k,hk,rfl,f,g⟩:=hrel;have ad:=(g.cell 0).trans u;by_cases E:k<a
  ·obtain⟨b,s,rfl,O,P⟩:=U.out.at O_;have C:=(g.1.cell (p:=⟨b,s+(a-1-k),none⟩) O).trans ((B.cell (p:=⟨b,s+(a-1-k),none⟩) O).trans (P (a-1-k) O_));obtain⟨fn,S,t,I,r,Y⟩:=Z _ (du d k) wr f (by rw[qQ];exact E);have K:du d k=(a-1-k,d.getD (a-1-k) 0):=by unfold du;rw[Hlen.out]
   rw[K]at r;have L:((a-1-k:Nat):Int)=(a:Int)-1-k:=O_;dsimp only[Jg]at r;rw[L]at r;obtain⟨x,c⟩:∃x,x=d.getD (a-1-k) 0:=⟨_,rfl⟩;rw[<- c]at r C;rw[Nat.mod_eq_of_lt (by rw[c];exact xo z HM.out _)]at r;have V:(0:Int)<=(a:Int)-1-k:=O_;have g2:(a:Int)-1-k<a:=O_;have g3:((a:Int)-1-k).toNat=a-1-k:=O_;clear K L P;have Hxx:=Lib.hid c;clear c
   gi_wp2
   refine Y.mono ?_;rintro e W3 (⟨rfl,y,D⟩| ⟨rfl,o⟩)
   ·gi_wp2
    go_roundw
    case rel=>exact⟨k+1,by omega,by go_num,by rw[p8];exact y,g.trans D⟩
    case measure=>simp[intOf];omega
   ·gi_wp2
    refine bodyPost_ret (results_none rfl _ _ _) rfl ?_;exact⟨⟨_,rfl⟩, .inr ⟨_,trivial,o⟩⟩
  ·obtain rfl:k=a:=O_;have V:¬((k:Int)<=(k:Int)-1):=O_
   gi_wp2
   go_end0
   first|exact⟨⟨_,rfl⟩, .inl ⟨_,rfl,f⟩⟩|exact⟨⟨_,rfl⟩, .inl f⟩
def qB(F:Fence)(n:Nat)(g:F.fn 286)(d:F.round=none)(k:1<=n)(Bs:Nat)(A:Option Addr)(len cap:Nat)(xs:List Nat)(M:Nat)(c:0<M)(h:∀x∈xs,x<M)(w0 w:World)(m:a7 w0 A len cap xs)(h0:gi w0 w)(a:Bs<w.heap.size)(j:w.cell? ⟨Bs,0,none⟩=some (.slice A len cap)):
 SeqStopsK F n prog 286 #[.pointer (some ⟨Bs,0,none⟩)] (Jg M) (KB w0.heap.size Bs) (fun o=>o=upto (du xs) len) (fun _=>True) len w:=fun l J f W e _ _ i b=>
 Fq F n g d k l Bs A len cap xs M c h w0 m J f i W (h0.more e) ((e.cell (p:=⟨Bs,0,none⟩) a).trans j) b
end
end Go.Proofs.YtnchbpoopnjghaaGreatDoor
