/- Two structs that are alike are equal. -/
import Derived.Test.YtnchbpoopnjghaaGreatDoorCZ11
set_option maxHeartbeats 100000000
set_option maxRecDepth 100000
set_option linter.all false
namespace Go.Proofs.YtnchbpoopnjghaaGreatDoor
open Go.RowKit
def Ua (P:Program) (xs:Array Value) (f:Field):Bool:=!(f.name == "_") && match P.underlying f.type,xs[f.offset]? with
 |some (.int _),some (.int _ _)=>true
 |some .bool,some (.bool _)=>true
 |_,_=>false
theorem TM {P:Program} {w:World} {d:Nat} {xs:Array Value}:∀{fs:List Field},fs.all (Ua P xs)=true->(Op.eqFields (d+1) xs xs fs).run P w= .ok true w
 | [],_=>rfl
 |f::fs,h=>by
  rw[List.all_cons,Bool.and_eq_true]at h;obtain⟨h1,h2⟩:=h;unfold Ua at h1;rw[Bool.and_eq_true]at h1;obtain⟨hn,h3⟩:=h1;have hn':f.name≠ "_" :=by simpa using hn
  rw[Op.eqFields,if_pos hn']
  split at h3
  ·rename_i k k' a hu hv
   have hp:(Go.part f.type xs f.offset).run P w= .ok (.int k' a) w:=by
    simp[Go.part,isAgg,Sem.run_bind,run_underlying hu w,hv]
   simp[Sem.run_bind,hp,run_equalIn_int w d _ k' _ a a hu,TM h2]
  ·rename_i b hu hv
   have hp:(Go.part f.type xs f.offset).run P w= .ok (.bool b) w:=by
    simp[Go.part,isAgg,Sem.run_bind,run_underlying hu w,hv]
   simp[Sem.run_bind,hp,run_equalIn_bool w d _ b b hu,TM h2]
  ·cases h3
theorem TZ {P:Program} {t:TypeId} {xs:Array Value} (h2:P.underlying t=some (.struct (P.fieldsOf t))) (h3:P.stoodInHeld t=false) (h4:(P.fieldsOf t).toList.all (Ua P xs)=true) (w:World):
 (binOp .eql t (.agg xs) (.agg xs)).run P w= .ok (.bool true) w:=by
 rw[run_eql_struct,run_equalIn_agg w 9999 _ _ _ h2 h3,TM h4];rfl
theorem TR {S:Nat->Prop} {w:World}:∀{us vs:List Value},CM S w (us.map .val) vs->vs=us
 | [],vs,h=>List.eq_nil_of_length_eq_zero h.1.symm
 |u::us,[],h=>by cases h.1
 |u::us,v::vs,h=>by
  have e:u=v:=(aT (h.2 0 (.val u) v rfl rfl)).symm;rw[e,TR ⟨Nat.succ.inj h.1,fun i a x h1 h2=>h.2 (i+1) a x h1 h2⟩]
section
variable {P:Program} {T:TypeId->Option Ty} {n:Nat} {ops:Array Oper} {id:Nat} {draw:Bool} {K:AS->Prop} {s:AS} {k:Nat} {o:Oper} {os:List Oper} {fps:List FP}
theorem TQ {S0:Nat->Prop} {w0:ee} {g:Nat->Nat} {a:Act} {w:World} (hM:MG n S0 w0 g s a w) {x:Operand} {us:List Value} (hx:s.ev x= .d (.agg (us.map .val))):a.eval x= .agg us.toArray:=by
 have h:=hM.ev x;rw[hx]at h;obtain⟨vs,e,hc⟩:=(show DV.M (Own S0 g s) w (.agg (us.map .val)) (a.eval x) from h);rw[e,TR hc]
theorem TN {t t':TypeId} {x y:Operand} {us:List Value} (h5:P.eqGuardType P.depth t=false) (h6:P.underlying t=some (.struct (P.fieldsOf t))) (h7:P.stoodInHeld t=false) (h8:(P.fieldsOf t).toList.all (Ua P us.toArray)=true) (h1:gd ops s o=some true) (ho:o.op= .binOp .eql t x y t') (hx:s.ev x= .d (.agg (us.map .val))) (hy:s.ev y= .d (.agg (us.map .val)))
 (h3:aB n o.dst=true) (h4:eZ draw ops (au ops o ⟨.d (dB true),none⟩ []) k fps=true) (h:ak P T n ops id draw K (k+1) os (s.eff o.dst ⟨.d (dB true),none⟩) (au ops o ⟨.d (dB true),none⟩ []::fps)):ak P T n ops id draw K k (o::os) s fps:=by
 refine .run h1 (.gen fun s2 ht _=>?_) h3 h4 h;have hx2:=(aq ht (x:=x) (by simp[ho,Op.operands])).trans hx;have hy2:=(aq ht (x:=y) (by simp[ho,Op.operands])).trans hy;refine ah fun n S0 w0 g a w hM=>⟨.bool true,w,?_,Below.refl _ _,AV.M.val rfl⟩
 unfold execOp;rw[ho]
 simp only[TQ hM hx2,TQ hM hy2,Sem.run_bind,run_eqGuard_agg w _ _ _ _ _ _ h5,Result.andThen_ok,TZ h6 h7 h8 w]
 rfl
end
def T8 (a b c d:Int) (e f g:Bool):List Value:=[.int .i64 a, .int .i64 b, .int .i64 c, .int .i64 d, .bool e, .bool f, .bool g]
set_option maxRecDepth 100000 in
theorem TX (a b c d:Int) (e f g:Bool):(Tryz.prog.fieldsOf 60).toList.all (Ua Tryz.prog (T8 a b c d e f g).toArray)=true:=by kernel_rfl
theorem TU:Tryz.prog.eqGuardType Tryz.prog.depth 60=false:=by kernel_rfl
theorem TW:Tryz.prog.stoodInHeld 60=false:=by kernel_rfl
set_option maxRecDepth 100000 in
theorem TY:Tryz.prog.underlying 60=some (.struct (Tryz.prog.fieldsOf 60)):=by kernel_rfl
end Go.Proofs.YtnchbpoopnjghaaGreatDoor
