/- Parts of a proof: contracts of the functions that the laws reach. -/
import Derived.Test.YtmkggcjajcdlcaaGreatDoorEZ14
set_option maxHeartbeats 100000000
set_option linter.all false
open Go.Proofs.Tryz
namespace Go.Proofs.YtmkggcjajcdlcaaGreatDoor
open Go.RowKit
theorem Ul:aa Tryz.prog 166 [dL [98]] (yG (.ok [(1,[98],0),(0,[],1)])):=by
 have w0:aa Tryz.prog 116 [dL [98],dN .i64 0] (.one (dN .i64 1)):=de [98] 0 (by decide) (by decide);have hB:(Bs [98]).size=1:=aS [98];refine DD ?_;refine eX 2 ?_;refine aN ⟨[(0, .d (dL [98])),(2, .nil),(3, .d (dN .i64 0)),(4, .d (dN .i64 0)),(5, .nil),(6, .d (dN .i64 0))],[]⟩ kw ?_;refine px ?_;refine bY ac (i:=0) (c:=98) rfl rfl rfl rfl rfl rfl rfl rfl rfl ?_
 refine kO4 ?_
 refine bY ac (i:=0) (c:=98) rfl rfl rfl rfl rfl rfl rfl rfl rfl ?_;refine kW ?_;refine kQ (w0) ?_;refine oR ac (l:=[98]) (i:=0) (j:=1) (by decide) (by decide) rfl rfl rfl rfl rfl rfl rfl rfl rfl ?_;refine Mv ?_;refine aN ⟨[(0, .d (dL [98])),(2, .nil),(3, .d (dN .i64 0)),(4, .d (dN .i64 0)),(5, .own 13002 1 3 166),(6, .d (dN .i64 1))],[(13002,some (iW [(1,[98],0)]))]⟩ kw ?_;refine pA ?_;refine jR ?_;refine kI ?_
 refine kO2 ?_
 refine m4 (v':= .int .i64 ((1:Nat))) rfl rfl rfl rfl ?_ ?_
 ·exact congrArg (Value.int .i64) (by rw[hB])
 refine kO2 ?_
 refine cY 15002 (m1:=1) (m2:=1) ac (by decide) (by decide) rfl rfl rfl rfl rfl rfl rfl rfl rfl rfl rfl (.own rfl rfl) rfl rfl rfl ?_;refine CT ?_;exact ax
theorem T6:aa Tryz.prog 166 [dL [50,32,109,109]] (yG (.ok [(2,[50],0),(1,[109,109],2),(0,[],4)])):=by
 have w0:aa Tryz.prog 116 [dL [50,32,109,109],dN .i64 0] (.one (dN .i64 0)):=de [50,32,109,109] 0 (by decide) (by decide);have n0:aa Tryz.prog 235 [dL [50,32,109,109],dN .i64 0] (.one (dN .i64 1)):=fa [50,32,109,109] 0 (by decide) (by decide) (r:=1) rfl;have w2:aa Tryz.prog 116 [dL [50,32,109,109],dN .i64 2] (.one (dN .i64 4)):=de [50,32,109,109] 2 (by decide) (by decide);have hB:(Bs [50,32,109,109]).size=4:=aS _;refine DD ?_;refine eX 4 ?_;refine aN ⟨[(0, .d (dL [50,32,109,109])),(2, .nil),(3, .d (dN .i64 0)),(4, .d (dN .i64 0)),(5, .nil),(6, .d (dN .i64 0))],[]⟩ kw ?_;refine px ?_;refine bY ac (i:=0) (c:=50) rfl rfl rfl rfl rfl rfl rfl rfl rfl ?_
 refine kO4 ?_
 refine bY ac (i:=0) (c:=50) rfl rfl rfl rfl rfl rfl rfl rfl rfl ?_;refine kW ?_;refine kQ (w0) ?_;refine kQ (n0) ?_;refine oR ac (l:=[50,32,109,109]) (i:=0) (j:=1) (by decide) (by decide) rfl rfl rfl rfl rfl rfl rfl rfl rfl ?_;refine Mv ?_;refine aN ⟨[(0, .d (dL [50,32,109,109])),(2, .nil),(3, .d (dN .i64 0)),(4, .d (dN .i64 0)),(5, .own 13002 1 3 166),(6, .d (dN .i64 1))],[(13002,some (iW [(2,[50],0)]))]⟩ kw ?_;refine px ?_;refine HT ?_;refine aN ⟨[(0, .d (dL [50,32,109,109])),(2, .nil),(3, .d (dN .i64 0)),(4, .d (dN .i64 0)),(5, .own 13002 1 3 166),(6, .d (dN .i64 2))],[(13002,some (iW [(2,[50],0)]))]⟩ kw ?_;refine px ?_;refine bY ac (i:=2) (c:=109) rfl rfl rfl rfl rfl rfl rfl rfl rfl ?_
 refine kO4 ?_
 refine bY ac (i:=2) (c:=109) rfl rfl rfl rfl rfl rfl rfl rfl rfl ?_;refine kW ?_;refine kQ (w2) ?_;refine oR ac (l:=[50,32,109,109]) (i:=2) (j:=4) (by decide) (by decide) rfl rfl rfl rfl rfl rfl rfl rfl rfl ?_;refine Iw ?_;refine aN ⟨[(0, .d (dL [50,32,109,109])),(2, .nil),(3, .d (dN .i64 0)),(4, .d (dN .i64 0)),(5, .own 13003 2 3 166),(6, .d (dN .i64 4))],[(13003,some (iW [(2,[50],0),(1,[109,109],2)]))]⟩ kw ?_;refine pA ?_;refine jR ?_;refine kI ?_
 refine kO2 ?_
 refine m4 (v':= .int .i64 ((4:Nat))) rfl rfl rfl rfl ?_ ?_
 ·exact congrArg (Value.int .i64) (by rw[hB])
 refine kO2 ?_
 refine cY 15002 (m1:=2) (m2:=1) ac (by decide) (by decide) rfl rfl rfl rfl rfl rfl rfl rfl rfl rfl rfl (.own rfl rfl) rfl rfl rfl ?_;refine CT ?_;exact ax
theorem Rt:aa Tryz.prog 236 [dL [51,32,42,32,97],dN .i64 2] (.tup [dN .i64 2,dL []]):=by
 have hB:(Bs [51,32,42,32,97]).size=5:=aS _;exact Np
theorem T9:aa Tryz.prog 166 [dL [51,32,42,32,97]] (yG (.ok [(2,[51],0),(4,[42],2),(1,[97],4),(0,[],5)])):=by
 have w0:aa Tryz.prog 116 [dL [51,32,42,32,97],dN .i64 0] (.one (dN .i64 0)):=de [51,32,42,32,97] 0 (by decide) (by decide);have n0:aa Tryz.prog 235 [dL [51,32,42,32,97],dN .i64 0] (.one (dN .i64 1)):=fa [51,32,42,32,97] 0 (by decide) (by decide) (r:=1) rfl;have w2:aa Tryz.prog 116 [dL [51,32,42,32,97],dN .i64 2] (.one (dN .i64 2)):=de [51,32,42,32,97] 2 (by decide) (by decide);have n2:aa Tryz.prog 235 [dL [51,32,42,32,97],dN .i64 2] (.one (dN .i64 2)):=fa [51,32,42,32,97] 2 (by decide) (by decide) (r:=2) rfl;have y2:aa Tryz.prog 237 [dN .u8 42] (.one (dB true)):=mz 42;have w4:aa Tryz.prog 116 [dL [51,32,42,32,97],dN .i64 4] (.one (dN .i64 5)):=de [51,32,42,32,97] 4 (by decide) (by decide)
 have hB:(Bs [51,32,42,32,97]).size=5:=aS _;refine DD ?_;refine eX 6 ?_;refine aN ⟨[(0, .d (dL [51,32,42,32,97])),(2, .nil),(3, .d (dN .i64 0)),(4, .d (dN .i64 0)),(5, .nil),(6, .d (dN .i64 0))],[]⟩ kw ?_;refine px ?_;refine OQ ?_;refine oR ac (l:=[51,32,42,32,97]) (i:=0) (j:=1) (by decide) (by decide) rfl rfl rfl rfl rfl rfl rfl rfl rfl ?_;refine Mv ?_;refine aN ⟨[(0, .d (dL [51,32,42,32,97])),(2, .nil),(3, .d (dN .i64 0)),(4, .d (dN .i64 0)),(5, .own 13002 1 3 166),(6, .d (dN .i64 1))],[(13002,some (iW [(2,[51],0)]))]⟩ kw ?_;refine px ?_;refine HT ?_;refine aN ⟨[(0, .d (dL [51,32,42,32,97])),(2, .nil),(3, .d (dN .i64 0)),(4, .d (dN .i64 0)),(5, .own 13002 1 3 166),(6, .d (dN .i64 2))],[(13002,some (iW [(2,[51],0)]))]⟩ kw ?_;refine Nk ?_;refine kC (Rt) ?_
 refine kW ?_;refine I0 ?_;refine kQ (y2) ?_;refine oR ac (l:=[51,32,42,32,97]) (i:=2) (j:=3) (by decide) (by decide) rfl rfl rfl rfl rfl rfl rfl rfl rfl ?_;refine Iw ?_;refine aN ⟨[(0, .d (dL [51,32,42,32,97])),(2, .nil),(3, .d (dN .i64 0)),(4, .d (dN .i64 0)),(5, .own 13003 2 3 166),(6, .d (dN .i64 3))],[(13003,some (iW [(2,[51],0),(4,[42],2)]))]⟩ kw ?_;refine px ?_;refine bY ac (i:=3) (c:=32) rfl rfl rfl rfl rfl rfl rfl rfl rfl ?_;refine kW ?_;refine aN ⟨[(0, .d (dL [51,32,42,32,97])),(2, .nil),(3, .d (dN .i64 0)),(4, .d (dN .i64 0)),(5, .own 13003 2 3 166),(6, .d (dN .i64 4))],[(13003,some (iW [(2,[51],0),(4,[42],2)]))]⟩ kw ?_;refine px ?_;refine bY ac (i:=4) (c:=97) rfl rfl rfl rfl rfl rfl rfl rfl rfl ?_
 refine kO4 ?_
 refine bY ac (i:=4) (c:=97) rfl rfl rfl rfl rfl rfl rfl rfl rfl ?_;refine kW ?_;refine kQ (w4) ?_;refine oR ac (l:=[51,32,42,32,97]) (i:=4) (j:=5) (by decide) (by decide) rfl rfl rfl rfl rfl rfl rfl rfl rfl ?_;refine Ol ?_;refine aN ⟨[(0, .d (dL [51,32,42,32,97])),(2, .nil),(3, .d (dN .i64 0)),(4, .d (dN .i64 0)),(5, .own 13004 3 3 166),(6, .d (dN .i64 5))],[(13004,some (iW [(2,[51],0),(4,[42],2),(1,[97],4)]))]⟩ kw ?_;refine pA ?_;refine jR ?_;refine Nh ?_;refine CT ?_;exact ax
theorem SQ:aa Tryz.prog 236 [dL [51,32,42,32,119],dN .i64 2] (.tup [dN .i64 2,dL []]):=by
 have hB:(Bs [51,32,42,32,119]).size=5:=aS _;exact Np
theorem T4:aa Tryz.prog 166 [dL [51,32,42,32,119]] (yG (.ok [(2,[51],0),(4,[42],2),(1,[119],4),(0,[],5)])):=by
 have w0:aa Tryz.prog 116 [dL [51,32,42,32,119],dN .i64 0] (.one (dN .i64 0)):=de [51,32,42,32,119] 0 (by decide) (by decide);have n0:aa Tryz.prog 235 [dL [51,32,42,32,119],dN .i64 0] (.one (dN .i64 1)):=fa [51,32,42,32,119] 0 (by decide) (by decide) (r:=1) rfl;have w2:aa Tryz.prog 116 [dL [51,32,42,32,119],dN .i64 2] (.one (dN .i64 2)):=de [51,32,42,32,119] 2 (by decide) (by decide);have n2:aa Tryz.prog 235 [dL [51,32,42,32,119],dN .i64 2] (.one (dN .i64 2)):=fa [51,32,42,32,119] 2 (by decide) (by decide) (r:=2) rfl;have y2:aa Tryz.prog 237 [dN .u8 42] (.one (dB true)):=mz 42;have w4:aa Tryz.prog 116 [dL [51,32,42,32,119],dN .i64 4] (.one (dN .i64 5)):=de [51,32,42,32,119] 4 (by decide) (by decide)
 have hB:(Bs [51,32,42,32,119]).size=5:=aS _;refine DD ?_;refine eX 6 ?_;refine aN ⟨[(0, .d (dL [51,32,42,32,119])),(2, .nil),(3, .d (dN .i64 0)),(4, .d (dN .i64 0)),(5, .nil),(6, .d (dN .i64 0))],[]⟩ kw ?_;refine px ?_;refine OQ ?_;refine oR ac (l:=[51,32,42,32,119]) (i:=0) (j:=1) (by decide) (by decide) rfl rfl rfl rfl rfl rfl rfl rfl rfl ?_;refine Mv ?_;refine aN ⟨[(0, .d (dL [51,32,42,32,119])),(2, .nil),(3, .d (dN .i64 0)),(4, .d (dN .i64 0)),(5, .own 13002 1 3 166),(6, .d (dN .i64 1))],[(13002,some (iW [(2,[51],0)]))]⟩ kw ?_;refine px ?_;refine HT ?_;refine aN ⟨[(0, .d (dL [51,32,42,32,119])),(2, .nil),(3, .d (dN .i64 0)),(4, .d (dN .i64 0)),(5, .own 13002 1 3 166),(6, .d (dN .i64 2))],[(13002,some (iW [(2,[51],0)]))]⟩ kw ?_;refine Nk ?_;refine kC (SQ) ?_
 refine kW ?_;refine I0 ?_;refine kQ (y2) ?_;refine oR ac (l:=[51,32,42,32,119]) (i:=2) (j:=3) (by decide) (by decide) rfl rfl rfl rfl rfl rfl rfl rfl rfl ?_;refine Iw ?_;refine aN ⟨[(0, .d (dL [51,32,42,32,119])),(2, .nil),(3, .d (dN .i64 0)),(4, .d (dN .i64 0)),(5, .own 13003 2 3 166),(6, .d (dN .i64 3))],[(13003,some (iW [(2,[51],0),(4,[42],2)]))]⟩ kw ?_;refine px ?_;refine bY ac (i:=3) (c:=32) rfl rfl rfl rfl rfl rfl rfl rfl rfl ?_;refine kW ?_;refine aN ⟨[(0, .d (dL [51,32,42,32,119])),(2, .nil),(3, .d (dN .i64 0)),(4, .d (dN .i64 0)),(5, .own 13003 2 3 166),(6, .d (dN .i64 4))],[(13003,some (iW [(2,[51],0),(4,[42],2)]))]⟩ kw ?_;refine px ?_;refine bY ac (i:=4) (c:=119) rfl rfl rfl rfl rfl rfl rfl rfl rfl ?_
 refine kO4 ?_
 refine bY ac (i:=4) (c:=119) rfl rfl rfl rfl rfl rfl rfl rfl rfl ?_;refine kW ?_;refine kQ (w4) ?_;refine oR ac (l:=[51,32,42,32,119]) (i:=4) (j:=5) (by decide) (by decide) rfl rfl rfl rfl rfl rfl rfl rfl rfl ?_;refine Ol ?_;refine aN ⟨[(0, .d (dL [51,32,42,32,119])),(2, .nil),(3, .d (dN .i64 0)),(4, .d (dN .i64 0)),(5, .own 13004 3 3 166),(6, .d (dN .i64 5))],[(13004,some (iW [(2,[51],0),(4,[42],2),(1,[119],4)]))]⟩ kw ?_;refine pA ?_;refine jR ?_;refine Nh ?_;refine CT ?_;exact ax
theorem Li:aa Tryz.prog 308 [dL [50]] (.tup [dQ ((2:Int):Rat),dN .i64 0]):=by
 have hB:(Bs [50]).size=1:=aS _;have c1:=oq [50];rw[IB (fun c hc=>by cases List.mem_singleton.1 hc;decide) (by decide),if_pos (O6 50 (by decide) (by decide))]at c1;have cd:=oO (t:=[50]) (by decide);have cm:=mC (k:=1) (n:=2) (d:=1) (q:=((2:Int):Rat)) (Sz.small (by decide)) (Sz.small (by decide)) (by decide) (by decide) rfl;refine kU func308 ?_;refine kq ?_;refine kE ?_;refine kG ?_;refine kO ?_;refine aC rfl rfl rfl rfl rfl rfl rfl (gA (a:=[50]) (b:=[]) (by simp)) ?_
 refine kO2 ?_
 refine bY ac (l:=[50]) (i:=0) rfl rfl rfl rfl rfl rfl rfl rfl rfl ?_;refine kW ?_;refine kQ (cd) ?_;refine GO ac (l:=[50]) (l':=[50]) (i:=1) rfl (by decide) rfl rfl rfl rfl rfl rfl rfl rfl ?_;refine kC (c1) ?_;refine KV ?_;refine JB ac (l:=[50]) (l':=[]) (i:=1) rfl (by decide) rfl rfl rfl rfl rfl rfl rfl rfl ?_;refine OR ?_;exact ax
theorem DZ:aa Tryz.prog 308 [dL [51]] (.tup [dQ ((3:Int):Rat),dN .i64 0]):=by
 have hB:(Bs [51]).size=1:=aS _;have c1:=oq [51];rw[IB (fun c hc=>by cases List.mem_singleton.1 hc;decide) (by decide),if_pos (O6 51 (by decide) (by decide))]at c1;have cd:=oO (t:=[51]) (by decide);have cm:=mC (k:=1) (n:=3) (d:=1) (q:=((3:Int):Rat)) (Sz.small (by decide)) (Sz.small (by decide)) (by decide) (by decide) rfl;refine kU func308 ?_;refine kq ?_;refine kE ?_;refine kG ?_;refine kO ?_;refine aC rfl rfl rfl rfl rfl rfl rfl (gA (a:=[51]) (b:=[]) (by simp)) ?_
 refine kO2 ?_
 refine bY ac (l:=[51]) (i:=0) rfl rfl rfl rfl rfl rfl rfl rfl rfl ?_;refine kW ?_;refine kQ (cd) ?_;refine GO ac (l:=[51]) (l':=[51]) (i:=1) rfl (by decide) rfl rfl rfl rfl rfl rfl rfl rfl ?_;refine kC (c1) ?_;refine KV ?_;refine JB ac (l:=[51]) (l':=[]) (i:=1) rfl (by decide) rfl rfl rfl rfl rfl rfl rfl rfl ?_;refine OR ?_;exact ax
theorem Uk:fmt 3=[51]:=by
 unfold fmt;rw[if_neg (by decide),if_neg (by decide)];show []++nQ 3=_;rw[ff (by decide)];show []++(nQ 0++[dg 3])=_;rw[eY];rfl
theorem TF:ja ((3:Int):Rat)=some [51]:=by
 unfold ja;rw[if_neg (by decide),qp,if_pos (by rfl),show(pw ((3:Int):Rat) 0).num=3 from rfl,Uk];rfl
theorem TE (z:Int) (h:z.natAbs<4294967296):cZ 1 (z:Rat):=⟨Sz.small h,Sz.small (by show(1:Int).natAbs<_;decide)⟩
theorem BQ {z:Int} (h:z.natAbs<4294967296) {u:List UInt8} (hd:ja (z:Rat)=some u):∃t,aa Tryz.prog 244 [dQ (z:Rat)] (.tup [dL t,dB true]):=by
 obtain⟨t,c,_⟩:=qj (TE z h) (by decide);rw[hd]at c;exact⟨t,c⟩
abbrev wt (fid:FuncId) (xs:List TV) (ts:List Tk) (e:Ex) (r:List Tk):Prop:=bA Tryz.prog fid (.box 900 0::xs) [(900,Bx ts 0 0 0)] (.v (.one (dE e))) [(900,Bx r 0 0 0)]
section
variable {s tx:List UInt8} {q:Rat} (cp:aa Tryz.prog 308 [dL s] (.tup [dQ q,dN .i64 0])) (cd:aa Tryz.prog 244 [dQ q] (.tup [dL tx,dB true])) (p:Nat)
include cp cd
theorem Me (x:List UInt8) (pu:Nat) (r:List Tk):wt 295 [.d (.agg (Nx (2,s,p)))] ((1,x,pu)::r) (.num q x) r:=by
 refine Oq ?_;refine kZ (eF (1,x,pu) r 0 0 0) ?_;refine kZ (eF (1,x,pu) r 0 0 0) ?_;refine zU (m:=((1,x,pu)::r).length) (i:=1) (q:=3) ac (by rw[oN];exact Nat.le_refl _) (by simp) rfl rfl rfl rfl rfl rfl rfl rfl ?_;exact jb
theorem EA (u:Tk) (r:List Tk) (hu:u.1≠1):wt 295 [.d (.agg (Nx (2,s,p)))] (u::r) (.num q []) (u::r):=by
 refine Oq ?_;refine kD (eF u r 0 0 0) ?_;refine kO ?_;refine kE ?_;exact jb
end
theorem wW (x:List UInt8) (p:Nat) (r:List Tk):wt 275 [] ((1,x,p)::r) (.nam x) r:=by
 refine bv ac fH func275 rfl rfl rfl rfl rfl (kg) ?_;refine kW ?_;refine kZ (iz 40 (1,x,p) r 0 0 rfl) ?_;refine kZ (eF (1,x,p) r 0 0 0) ?_;refine zU (m:=((1,x,p)::r).length) (i:=1) (q:=3) ac (by rw[oN];exact Nat.le_refl _) (by simp) rfl rfl rfl rfl rfl rfl rfl rfl ?_;exact jb
theorem xO {x:List UInt8} {p:Nat} {ts r:List Tk} {e:Ex} (cy:wt 295 [.d (.agg (Nx (2,x,p)))] ts e r):wt 275 [] ((2,x,p)::ts) e r:=by
 obtain⟨o1,na1,xs1,nb1,ys1,nm1,n1,cs1,hA⟩:=bO e;unfold wt at cy ⊢;rw[show dE e= .agg (ab o1 na1 xs1 nb1 ys1 nm1 n1 cs1) from congrArg DV.agg hA]at cy ⊢;refine bv ac fH func275 rfl rfl rfl rfl rfl (kg) ?_;refine kW ?_;refine kZ (iz 40 (2,x,p) ts 0 0 rfl) ?_;refine kZ (eF (2,x,p) ts 0 0 0) ?_;refine zU (m:=((2,x,p)::ts).length) (i:=1) (q:=3) ac (by rw[oN];exact Nat.le_refl _) (by simp) rfl rfl rfl rfl rfl rfl rfl rfl ?_;refine kW ?_;refine kD (cy) ?_;exact jb
theorem jv {t:Tk} {ts r:List Tk} {e:Ex} (h:ot 45 (t::ts)=none) (cy:wt 275 [] (t::ts) e r):wt 168 [.d (dN .i64 3)] (t::ts) e r:=by
 obtain⟨o1,na1,xs1,nb1,ys1,nm1,n1,cs1,hA⟩:=bO e;unfold wt at cy ⊢;rw[show dE e= .agg (ab o1 na1 xs1 nb1 ys1 nm1 n1 cs1) from congrArg DV.agg hA]at cy ⊢
 have cu:bA Tryz.prog 238 [.box 900 0] [(900,Bx (t::ts) 0 0 0)] (.v (.one (.agg (ab o1 na1 xs1 nb1 ys1 nm1 n1 cs1)))) [(900,Bx r 0 0 0)]:=by
  refine bv ac fH func238 rfl rfl rfl rfl rfl (kg) ?_;refine kW ?_;refine kZ (iz 45 t ts 0 0 h) ?_;refine kD (cy) ?_;exact jb
 refine DO ?_;refine kD (cu) ?_;exact jb
def rQ (nn:Int) (c1 c2:List AV):AS:=⟨[(0, .box 900 0),(1, .d (dN .i64 nn)),(4, .box 0 0),(5, .box 3004 0)],[(0,some (ab 0 false [] false [] [] 0 [])),(3004,some c1),(900,some c2)]⟩
theorem xZ {ts:List Tk} {e:Ex} {t:Tk} {r:List Tk} (c0:wt 168 [.d (dN .i64 2)] ts e (t::r)) (h1:ot 43 (t::r)=none) (h2:ot 45 (t::r)=none):wt 168 [.d (dN .i64 1)] ts e (t::r):=by
 obtain⟨o1,na1,xs1,nb1,ys1,nm1,n1,cs1,hA⟩:=bO e;unfold wt at c0 ⊢;rw[show dE e= .agg (ab o1 na1 xs1 nb1 ys1 nm1 n1 cs1) from congrArg DV.agg hA]at c0 ⊢;refine DO ?_;refine kZ (c0) ?_;refine eX 1 ?_;refine aN (rQ 1 (ab o1 na1 xs1 nb1 ys1 nm1 n1 cs1) (Bx (t::r) 0 0 0)) kw ?_;unfold rQ;refine kW ?_;refine kZ (iz 43 t r 0 0 h1) ?_;refine kD (iz 45 t r 0 0 h2) ?_;exact jb
theorem E8 {ts:List Tk} {e:Ex} {t:Tk} {r:List Tk} (c0:wt 168 [.d (dN .i64 3)] ts e (t::r)) (h1:ot 42 (t::r)=none) (h2:ot 47 (t::r)=none):wt 168 [.d (dN .i64 2)] ts e (t::r):=by
 obtain⟨o1,na1,xs1,nb1,ys1,nm1,n1,cs1,hA⟩:=bO e;unfold wt at c0 ⊢;rw[show dE e= .agg (ab o1 na1 xs1 nb1 ys1 nm1 n1 cs1) from congrArg DV.agg hA]at c0 ⊢;refine DO ?_;refine kZ (c0) ?_;refine eX 1 ?_;refine aN (rQ 2 (ab o1 na1 xs1 nb1 ys1 nm1 n1 cs1) (Bx (t::r) 0 0 0)) kw ?_;exact On
theorem KI {ts:List Tk} {e e2:Ex} {p:Nat} {r2:List Tk} {t:Tk} {r:List Tk} (c0:wt 168 [.d (dN .i64 3)] ts e ((4,[42],p)::r2)) (cy:wt 168 [.d (dN .i64 3)] r2 e2 (t::r)) (h1:ot 42 (t::r)=none) (h2:ot 47 (t::r)=none):wt 168 [.d (dN .i64 2)] ts (.bin .mul e e2) (t::r):=by
 obtain⟨o1,na1,xs1,nb1,ys1,nm1,n1,cs1,hA⟩:=bO e;obtain⟨o2,na2,xs2,nb2,ys2,nm2,n2,cs2,hA2⟩:=bO e2;have hbin:=tW .mul e e2;rw[hA,hA2]at hbin;unfold wt at c0 cy ⊢;rw[show dE e= .agg (ab o1 na1 xs1 nb1 ys1 nm1 n1 cs1) from congrArg DV.agg hA]at c0;rw[show dE e2= .agg (ab o2 na2 xs2 nb2 ys2 nm2 n2 cs2) from congrArg DV.agg hA2]at cy;rw[show dE (.bin .mul e e2)= .agg _ from congrArg DV.agg hbin];refine DO ?_;refine kZ (c0) ?_;refine eX 2 ?_;refine aN (rQ 2 (ab o1 na1 xs1 nb1 ys1 nm1 n1 cs1) (Bx ((4,[42],p)::r2) 0 0 0)) kw ?_;unfold rQ;refine kW ?_;refine kZ (IG 42 p r2 0 0) ?_;refine kZ (cy) ?_;refine aN (rQ 2 (ab 6 false [] false [] [] 2 (ab o1 na1 xs1 nb1 ys1 nm1 n1 cs1++ab o2 na2 xs2 nb2 ys2 nm2 n2 cs2)) (Bx (t::r) 0 0 0)) kw ?_
 exact On
theorem nK {s:List UInt8} {t0:Tk} {r0:List Tk} {e:Ex} {p:Nat} (c1:aa Tryz.prog 166 [dL s] (yG (.ok (t0::r0)))) (cs:wt 168 [.d (dN .i64 1)] (t0::r0) e [(0,[],p)]) (hw:j0 (rx e)) (hsz:gL (rx e)<=120) (hd:AP (rx e)<=40):aa Tryz.prog 104 [dL s] (.tup [dE e,dN .i64 0,dN .i64 0]):=by
 have c1:aa Tryz.prog 166 [dL s] (.tup [.leaf (.sl (t0::r0).length (iW (t0::r0))),dN .i64 0,dN .i64 0]):=c1;have cf0:=(eF t0 r0 0 0 0).ren0 2002 rfl rfl rfl;have cs:=cs.ren1 2002 rfl rfl rfl;have cn:=(eF (0,[],p) [] 0 0 0).ren0 2002 rfl rfl rfl;have cd:=zR (rx e) hw (by omega);obtain⟨o1,na1,xs1,nb1,ys1,nm1,n1,cs1,hA⟩:=bO e;have hE:dE e= .agg (ab o1 na1 xs1 nb1 ys1 nm1 n1 cs1):=congrArg DV.agg hA;rw[hE]at cs ⊢;rw[show dR (rx e)= .agg (ab o1 na1 xs1 nb1 ys1 nm1 n1 cs1) from congrArg DV.agg hA]at cd;refine kU func104 ?_;refine fT ?_;refine kQ (c1) ?_;refine kZ (cf0) ?_;refine kZ (cs) ?_;refine kZ (cn) ?_;refine kC (cd) ?_;refine kE ?_;exact ax
def uw:Ex:= .num ((2:Int):Rat) [109,109]
def uX:Ex:= .bin .mul (.num ((3:Int):Rat) []) (.nam [97])
def wM:Ex:= .nam [98]
def yD:Ex:= .bin .mul (.num ((3:Int):Rat) []) (.nam [119])
theorem rK {n:Nat} (h:n<4294967296):(digs n).length<=8:=Nat.le_trans (aY (k:=1) (by simpa using h)) (by decide)
theorem EB {e:Ex} (h1:uy e) (h2:j0 (rx e)) (h4:AP (rx e)<=40) (hlt:mE (rx e)=true) (hsz:gL (rx e)<=120):pe (rx e)/\qi (rx e)=0/\uy e:=by
 refine⟨⟨h2,hlt,hsz⟩,?_,h1⟩;unfold qi;rw[if_pos (x6 e h1),if_pos h4]
theorem BO (v:Rat) (u:List UInt8) (hu:u.length<=60):j0 (rx (.num v u)):= .mk (by decide) (by decide) (ay _) (ay _) (by omega) (by simp) (fun x hx=>by cases hx)
theorem C6 (u:List UInt8) (hu:u.length<=60):j0 (rx (.nam u)):= .mk (by decide) (by decide) pO pO (by omega) (by simp) (fun x hx=>by cases hx)
theorem S6:j0 (rx uw):=BO _ _ (by decide)
theorem SS:j0 (rx wM):=C6 _ (by decide)
theorem TX:uy uw:=⟨by rw[Up];rfl,(TE 2 (by decide)).mono (by decide), .inr (by decide)⟩
theorem QJ:pe (rx uw)/\qi (rx uw)=0/\uy uw:=EB TX S6 (by decide) (by
 have h1:(digs 2).length<=8:=rK (by decide);have h2:(digs 1).length<=8:=rK (by decide)
 simp[uw,rx,mE,mO]
 exact⟨h1,h2⟩) (by simp[uw,rx,gL,eB])
theorem Js:pe (rx wM)/\qi (rx wM)=0/\uy wM:=EB (show n6 [98]=true by decide) SS (by decide) (by
 have h2:(digs 0).length<=8:=rK (by decide)
 simp[wM,rx,mE,mO]) (by simp[wM,rx,gL,eB])
theorem Ue:aa Tryz.prog 104 [dL [50,32,109,109]] (.tup [dE uw,dN .i64 0,dN .i64 0]):=by
 obtain⟨t,cd⟩:=BQ (z:=2) (by decide) Up;exact nK T6 (xZ (E8 (jv rfl (xO (Me Li cd _ _ _ _))) rfl rfl) rfl rfl) S6 (by simp[uw,rx,gL,eB]) (by decide)
theorem Uc:aa Tryz.prog 104 [dL [98]] (.tup [dE wM,dN .i64 0,dN .i64 0]):=nK Ul (xZ (E8 (jv rfl (wW _ _ _)) rfl rfl) rfl rfl) SS (by simp[wM,rx,gL,eB]) (by decide)
theorem Sf:j0 (rx uX):= .mk (by decide) (by decide) pO pO (by decide) (by simp) (fun x hx=>by
 rcases List.mem_cons.1 hx with rfl|hx
 ·exact BO _ _ (by decide)
 ·cases List.mem_singleton.1 hx;exact C6 _ (by decide))
theorem T0:uy uX:=⟨⟨by rw[TF];rfl,(TE 3 (by decide)).mono (by decide), .inl rfl⟩,(by decide:n6 [97]=true)⟩
theorem Mh:pe (rx uX)/\qi (rx uX)=0/\uy uX:=EB T0 Sf (by decide) (by
 have h1:(digs 3).length<=8:=rK (by decide);have h2:(digs 1).length<=8:=rK (by decide)
 simp[uX,rx,mE,mO]
 exact⟨h1,h2⟩) (by simp[uX,rx,gL,eB])
theorem TQ:aa Tryz.prog 104 [dL [51,32,42,32,97]] (.tup [dE uX,dN .i64 0,dN .i64 0]):=by
 obtain⟨t,cd⟩:=BQ (z:=3) (by decide) TF;exact nK T9 (xZ (KI (jv rfl (xO (EA DZ cd _ _ _ (by decide)))) (jv rfl (wW _ _ _)) rfl rfl) rfl rfl) Sf (by simp[uX,rx,gL,eB]) (by decide)
theorem RY:j0 (rx yD):= .mk (by decide) (by decide) pO pO (by decide) (by simp) (fun x hx=>by
 rcases List.mem_cons.1 hx with rfl|hx
 ·exact BO _ _ (by decide)
 ·cases List.mem_singleton.1 hx;exact C6 _ (by decide))
theorem TZ:uy yD:=⟨⟨by rw[TF];rfl,(TE 3 (by decide)).mono (by decide), .inl rfl⟩,(by decide:n6 [119]=true)⟩
theorem RX:pe (rx yD)/\qi (rx yD)=0/\uy yD:=EB TZ RY (by decide) (by
 have h1:(digs 3).length<=8:=rK (by decide);have h2:(digs 1).length<=8:=rK (by decide)
 simp[yD,rx,mE,mO]
 exact⟨h1,h2⟩) (by simp[yD,rx,gL,eB])
theorem Uf:aa Tryz.prog 104 [dL [51,32,42,32,119]] (.tup [dE yD,dN .i64 0,dN .i64 0]):=by
 obtain⟨t,cd⟩:=BQ (z:=3) (by decide) TF;exact nK T4 (xZ (KI (jv rfl (xO (EA DZ cd _ _ _ (by decide)))) (jv rfl (wW _ _ _)) rfl rfl) rfl rfl) RY (by simp[yD,rx,gL,eB]) (by decide)
theorem JI:ej (rx uw)=[]:=by simp[uw,rx,ej,fR,gJ]
theorem BK:ej (rx uX)=[[97]]:=by rfl
theorem RZ:ej (rx wM)=[[98]]:=by rfl
def iU:Tb:=[([97],rx uw),([98],rx uX)]
theorem SF:n6 [97]=true:=by decide
theorem SH:n6 [98]=true:=by decide
theorem ST:n6 [119]=true:=by decide
theorem kS:jP iU:=fun p hp=>by
 rcases List.mem_cons.1 hp with rfl|hp
 ·exact⟨by decide,QJ.1⟩
 ·rcases List.mem_cons.1 hp with rfl|hp
  ·exact⟨by decide,Mh.1⟩
  ·cases hp
theorem tb:gC iU=0:=by
 simp[gC,A7,iU,QJ.2.1,Mh.2.1,SF,SH,bX]
theorem PD:lM iU:=lz tb
theorem Ed:bf iU=([[97],[98]],0):=by
 have h1:pd iU []=[97]:=by simp[pd,iU,ij,pU,pQ,JI,BK]
 have h2:pd iU [[97]]=[98]:=by simp[pd,iU,ij,pU,pQ,JI,BK]
 have h3:fk iU iU.length []=some [[97],[98]]:=by
  show fk iU 2 []=_;rw[fk,h1,if_neg (by decide),fk];show(if pd iU [[97]]=[]then none else fk iU 0 ([[97]]++[pd iU [[97]]]))=_;rw[h2,if_neg (by decide)];rfl
 unfold bf;rw[if_pos tb,if_pos (by simp[iU,pQ,JI,BK]),h3]
theorem PT:Qz [109,109]=some ((1:Int):Rat):=by rfl
def Uq:EL:=[([97],(((2:Int):Rat)*((1:Int):Rat),1)),([98],(((3:Int):Rat)*(((2:Int):Rat)*((1:Int):Rat)),1))]
theorem Jm:qc iU= .ok Uq:=by
 unfold qc;rw[Ed,if_pos rfl];have f1:BM iU [97]=rx uw:=by simp[BM,iU,bX]
 have f2:BM iU [98]=rx uX:=by simp[BM,iU,bX]
 have e1:bh (az []) uw= .ok (((2:Int):Rat)*((1:Int):Rat),1):=by
  rw[uw,bh,if_neg (by decide),PT]
 have e2:bh (az [([97],(((2:Int):Rat)*((1:Int):Rat),1))]) uX= .ok (((3:Int):Rat)*(((2:Int):Rat)*((1:Int):Rat)),1):=by
  simp[uX,bh,az,Br,nY]
  rfl
 simp only[jk,f1,f2,yg QJ.2.2,yg Mh.2.2,e1]
 rw[show f8 [] [97] (((2:Int):Rat)*((1:Int):Rat),1)=[([97],(((2:Int):Rat)*((1:Int):Rat),1))] from rfl,e2];rfl
theorem K9:((3:Int):Rat)*(((2:Int):Rat)*((1:Int):Rat))=((6:Int):Rat):=by kernel_rfl
theorem Qg:lM iU->I6 iU:=fun h=>h.fx_of kS
theorem Sm:GN iU:=by
 refine⟨kS,by decide,fun n x h=>?_⟩;obtain⟨_,_,_,hk,hv,_⟩:=pV Qg Jm;obtain⟨u,hu⟩:=(hk n).2 h.mem;have:x=u:=h.fn PD (hv _ hu);subst this;have h1:cZ 1 ((1:Int):Rat):=⟨Sz.small (by show(1:Int).natAbs<_;decide),Sz.small (by show(1:Int).natAbs<_;decide)⟩;have h2:cZ 1 ((2:Int):Rat):=⟨Sz.small (by show(2:Int).natAbs<_;decide),Sz.small (by show(1:Int).natAbs<_;decide)⟩;have h3:cZ 1 ((3:Int):Rat):=⟨Sz.small (by show(3:Int).natAbs<_;decide),Sz.small (by show(1:Int).natAbs<_;decide)⟩;rcases List.mem_cons.1 hu with e|hu
 ·cases e;exact⟨(h2.mul h1).mono (by decide),rfl⟩
 ·rcases List.mem_cons.1 hu with e|hu
  ·cases e;exact⟨(h3.mul (h2.mul h1)).mono (by decide),rfl⟩
  ·cases hu
theorem PX:J0 iU (rx wM)= .tup [mx ((6:Int):Rat) 1,dN .i64 0]:=by
 unfold J0;rw[if_pos Js.2.1,Jm];dsimp only;rw[yg Js.2.2,show bh (az Uq) wM= .ok (((6:Int):Rat),1) by rw[<- K9];rfl];rfl
def GZ:Tb:=[([97],rx wM),([98],rx uX)]
theorem QS:yC iU ([97],rx wM)=([],9):=by
 have hs:dl iU ([97],rx wM)=GZ:=by simp[dl,iU,bX,GZ]
 have hv:gC GZ=0:=by simp[gC,A7,GZ,Js.2.1,Mh.2.1,SF,SH,bX]
 have ho:bf GZ=([],9):=by
  have h1:pd GZ []=[]:=by simp[pd,GZ,ij,pU,pQ,RZ,BK]
  have h3:fk GZ GZ.length []=none:=by
   show fk GZ 2 []=_;rw[fk,if_pos h1]
  unfold bf;rw[if_pos hv,if_pos (by simp[GZ,pQ,RZ,BK]),h3]
 unfold yC;rw[hs,ho,if_neg (by decide)]
theorem QA:Bw iU [97]=([],14):=by
 unfold Bw;rw[if_pos tb]
 simp[iU,bX,BK]
theorem PN:Lp iU [97] [119]=([([119],mT [97] [119] (rx uw)),([98],rx yD)],0):=by
 have h:mT [97] [119] (rx uX)=rx yD:=by simp[uX,yD,rx,mT,GG]
 unfold Lp;rw[if_pos tb]
 simp[iU,bX,ST,P6,h]
theorem QZ:gH iU [97]=[[98]]:=by
 have hd:K4 iU [97]=[[98]]:=by
  refine oT (rD _ _) (List.pairwise_singleton _ _) fun x=>?_
  rw[rF]
  constructor
  ·intro h
   cases h with
   | @base p hp hn=>
    rcases List.mem_cons.1 hp with rfl|hp
    ·rw[JI]at hn;cases hn
    ·rcases List.mem_cons.1 hp with rfl|hp
     ·simp
     ·cases hp
   | @step p y hp hy _=>
    rcases List.mem_cons.1 hp with rfl|hp
    ·rw[JI]at hy;cases hy
    ·rcases List.mem_cons.1 hp with rfl|hp
     ·simp
     ·cases hp
  ·intro h
   rw[List.mem_singleton.1 h];exact .base (p:=([98],rx uX)) (by simp[iU]) (by rw[BK];simp)
 unfold gH;rw[if_pos ⟨tb,by simp[gt,iU,bX]⟩,hd]
theorem qD {x:Rx} (h:pe x):aa Tryz.prog 65 [dR x] (.one (dR x)):=pW x h.wd (by have:=h.sz;omega)
theorem nX (l:Tb) (p:Pm) (hs:jP l) (hp:p.1.length<=60/\pe p.2) (hl:l.length<=500):aa Tryz.prog 22 [bF l,sW p] (CZ (yC l p)):=zJ l p hs hp hl (fun x hx=>qD (hs x hx).2) (qD hp.2)
theorem vt (l:Tb) (x:Rx) (hs:jP l) (hx:pe x) (hl:l.length<=500) (hvs:(bf l).2=0->GN l):aa Tryz.prog 27 [bF l,dR x] (J0 l x):=xW l x (ko l hs hl hvs) hs hx hvs
theorem UF {A B:List AV} (hA:A.length=8):∀(j:Nat) (a:AV),B[j]? =some a->(A++B)[1*8+j]? =some a:=fun j a h=>by
 rw[List.getElem?_append_right (by omega),hA,show 1*8+j-8=j by omega];exact h
theorem fK {s:List UInt8} {e:Ex} (c:aa Tryz.prog 104 [dL s] (.tup [dE e,dN .i64 0,dN .i64 0])):aa Tryz.prog 51 [dL s] (.one (dR (rx e))):=by
 obtain⟨o1,na1,xs1,nb1,ys1,nm1,n1,cs1,hA⟩:=bz (rx e);rw[show dE e= .agg (ab o1 na1 xs1 nb1 ys1 nm1 n1 cs1) from congrArg DV.agg hA]at c;rw[show dR (rx e)= .agg (ab o1 na1 xs1 nb1 ys1 nm1 n1 cs1) from congrArg DV.agg hA];refine kU func51 ?_;exact vl
theorem nO:aa Tryz.prog 12 [] (.one (dB true)):=by
 have ca:=fK Ue;have cb:=fK TQ;have cc:=fK Uc;have cd:=fK Uf;have cO:=ir iU kS (by decide);have cE:=vt iU (rx wM) kS Js.1 (by decide) (fun _=>Sm);have cS:=nX iU ([97],rx wM) kS ⟨by decide,Js.1⟩ (by decide);have cR:=qF iU [97] kS (by decide);have cN:=yP iU [97] [119] kS (by decide) (by decide);have cD:=j8 iU [97] kS (by decide);have cQ:=uS (rx yD) RX.1.lw (rx yD) RX.1.lw;rw[J5]at cQ;rw[Ed]at cO;rw[PX]at cE;rw[QS]at cS;rw[QA]at cR;rw[PN]at cN;rw[QZ]at cD;have e1:=g8 [[97],[98]] (by decide);have e2:=g8 [[98]] (by decide);have cF:=ew 6 (by decide) (by decide) (q:=((6:Int):Rat)) rfl
 have cM:=qf (k:=1) (a:=((6:Int):Rat)) (b:=((6:Int):Rat)) (p:=1) (p':=1) ⟨Sz.small (by show(6:Int).natAbs<_;decide),Sz.small (by show(1:Int).natAbs<_;decide)⟩ (by decide) (t:=true) (by simp);obtain⟨o1,na1,xs1,nb1,ys1,nm1,n1,cs1,h1⟩:=bz (rx uw);obtain⟨o2,na2,xs2,nb2,ys2,nm2,n2,cs2,h2⟩:=bz (rx uX);obtain⟨o3,na3,xs3,nb3,ys3,nm3,n3,cs3,h3⟩:=bz (rx wM);obtain⟨o4,na4,xs4,nb4,ys4,nm4,n4,cs4,h4⟩:=bz (rx yD);obtain⟨o5,na5,xs5,nb5,ys5,nm5,n5,cs5,h5⟩:=bz (mT [97] [119] (rx uw))
 have hT:bF iU= .leaf (.sl 2 (a6 [97] o1 na1 xs1 nb1 ys1 nm1 n1 cs1++a6 [98] o2 na2 xs2 nb2 ys2 nm2 n2 cs2)):=by
  show DV.leaf (.sl 2 ((.val (vL [97])::aR (rx uw))++((.val (vL [98])::aR (rx uX))++[])))=_;rw[h1,h2,List.append_nil];rfl
 have hN:bF [([119],mT [97] [119] (rx uw)),([98],rx yD)]= .leaf (.sl 2 (a6 [119] o5 na5 xs5 nb5 ys5 nm5 n5 cs5++a6 [98] o4 na4 xs4 nb4 ys4 nm4 n4 cs4)):=by
  show DV.leaf (.sl 2 ((.val (vL [119])::aR (mT [97] [119] (rx uw)))++((.val (vL [98])::aR (rx yD))++[])))=_;rw[h5,h4,List.append_nil];rfl
 have hP:sW ([97],rx wM)= .agg (a6 [97] o3 na3 xs3 nb3 ys3 nm3 n3 cs3):=by
  show DV.agg (.val (vL [97])::aR (rx wM))=_;rw[h3];rfl
 unfold CZ at cN;dsimp only at cN;rw[hT]at cO cE cS cR cN cD;rw[hN]at cN;rw[hP]at cS;rw[show dR (rx uw)= .agg (ab o1 na1 xs1 nb1 ys1 nm1 n1 cs1) from congrArg DV.agg h1]at ca;rw[show dR (rx uX)= .agg (ab o2 na2 xs2 nb2 ys2 nm2 n2 cs2) from congrArg DV.agg h2]at cb;rw[show dR (rx wM)= .agg (ab o3 na3 xs3 nb3 ys3 nm3 n3 cs3) from congrArg DV.agg h3]at cc cE;rw[show dR (rx yD)= .agg (ab o4 na4 xs4 nb4 ys4 nm4 n4 cs4) from congrArg DV.agg h4]at cd cQ;clear h1 h2 h3 h4 h5 hT hN hP;refine kV func12 ?_;refine kC (ca) ?_;refine kO ?_;refine kQ (cb) ?_;refine kQ (cO) ?_;refine kC (cc) ?_;refine kQ (cE) ?_;refine kC (cc) ?_;refine kO ?_;refine kQ (cS) ?_;refine kQ (cR) ?_;refine kQ (cN) ?_;refine kQ (e1) ?_;refine kC (cF) ?_
 refine kO ?_;refine kQ (cM) ?_;refine kC (cD) ?_;refine kO ?_;refine kQ (e2) ?_;refine bB (i:=1) (cs':=a6 [98] o4 na4 xs4 nb4 ys4 nm4 n4 cs4) (by decide) (UF rfl) (Nat.zero_lt_succ 7) rfl rfl rfl rfl rfl rfl rfl rfl ?_
 refine kO2 ?_
 refine kC (cd) ?_;refine kC (cQ) ?_;exact ax
section
open Go.ChangeShapes Go.WideShapes Go.ChangeAt Go.RowKit Go.Joins
def K5 (l:Tb):Prop:=∀p∈l,p.1.length<=9223372036854775807/\j0 p.2
def Qc:List TypeId:=[43,41,38,36,4,34,133,3,9,39,22]
theorem wD:sD Tryz.prog Qc=true:=by kernel_rfl
set_option maxRecDepth 100000 in
theorem z7 {n:Nat} {cs:List AV} (h:Sh Tryz.prog n 43 cs):∃p:Pm,cs=wQ p/\p.1.length<=9223372036854775807/\j0 p.2:=by
 cases n with
 |zero=>exact h.elim
 |succ n=>
  simp only[Sh,underlying43,List.forall_mem_cons,List.not_mem_nil,false_imp_iff,implies_true,and_true]at h
  obtain⟨hl,h0,h1⟩:=h;rw[show Tryz.prog.cellsOf 43=8 by kernel_rfl]at hl;rw[show Tryz.prog.cellsOf 9=1 by kernel_rfl]at h0;rw[show Tryz.prog.cellsOf 41=7 by kernel_rfl]at h1
  match cs,hl with
  | [c0,c1,c2,c3,c4,c5,c6,c7],_=>
   obtain⟨nm,e0,hn⟩:=wL h0;obtain⟨x,e1,hx⟩:=E1 n _ h1;have e0:[c0]=[.val (vL nm)]:=e0;have e1:[c1,c2,c3,c4,c5,c6,c7]=aR x:=e1;refine⟨(nm,x),?_,hn,hx⟩;show [c0,c1,c2,c3,c4,c5,c6,c7]= .val (vL nm)::aR x;rw[<- e1]
   simp at e0
   rw[e0]
set_option maxRecDepth 100000 in
theorem Qh {n:Nat} {cs:List AV} (h:Sh Tryz.prog n 22 cs):∃l:Tb,cs=[.sl l.length (bR l)]/\K5 l:=by
 cases n with
 |zero=>exact h.elim
 |succ n=>
  simp only[Sh,underlying22]at h
  obtain⟨rows,e,_,hr⟩:=h
  have key:∀rows:List (List AV),(∀r∈rows,Sh Tryz.prog n 43 r/\r.length=Tryz.prog.cellsOf 43)-> ∃l:Tb,rows.length=l.length/\rows.flatten=bR l/\K5 l:=by
   intro rows
   induction rows with
   |nil=>intro _;exact⟨[],rfl,rfl,fun x hx=>by cases hx⟩
   |cons r rows ihr=>
    intro hr;obtain⟨l,k1,k2,k3⟩:=ihr (fun r hm=>hr r (by simp[hm]));obtain⟨p,k4,k5,k6⟩:=z7 (hr r (by simp)).1;refine⟨p::l,by simp[k1],by rw[List.flatten_cons,k2,k4];rfl,fun y hy=>?_⟩;rcases List.mem_cons.1 hy with rfl|hy
    ·exact⟨k5,k6⟩
    ·exact k3 y hy
  obtain⟨l,k1,k2,k3⟩:=key rows hr;exact⟨l,by rw[e,k1,k2],k3⟩
set_option maxRecDepth 100000 in
theorem Cz {H:Type} {enc:TypeId × Value->H} {W:World} {r:Reach} {b0:Nat} {v:Value} {d:DataW H} {p:List MemPlace} (hv:Value.okWide Tryz.prog W r b0 43 v) (h:DataW.Trod enc Tryz.prog W 0 (fun _=>true) true 43 v d p):
 ∃q:Pm,DV.M (fun _=>False) W (sW q) v/\q.1.length<=9223372036854775807/\j0 q.2:=by
 obtain⟨n,cs,h1,h2⟩:=qk wD (by decide) underlying43 hv h;obtain⟨q,rfl,h3⟩:=z7 h2;exact⟨q,h1,h3⟩
set_option maxRecDepth 100000 in
theorem jt {H:Type} {enc:TypeId × Value->H} {W:World} {r:Reach} {b0:Nat} {v:Value} {d:DataW H} {p:List MemPlace} (hv:Value.okWide Tryz.prog W r b0 22 v) (h:DataW.Trod enc Tryz.prog W 0 (fun _=>true) true 22 v d p):
 ∃l:Tb,DV.M (fun _=>False) W (bF l) v/\K5 l:=by
 obtain⟨A,n,c,rfl⟩:=okWide_slice underlying22 hv;obtain⟨n,cs,h1,h2⟩:=DF wD (by decide) h;obtain⟨l,rfl,h3⟩:=Qh h2;exact⟨l,h1.2 0 _ _ rfl rfl,h3⟩
end
theorem lR {P:Program} {f:FuncId} {l:Tb} {ds:List DV} {r:RV} (hent:∀args w,(callFunc f args).run P w= .ok (.enter f args) w) (h:l.length<=9223372036854775807->aa P f (bF l::ds) r):aa P f (bF l::ds) r:=
 ⟨hent,fun S w vs hS hv=>by
  match vs,hv with
  |v::vs,⟨h1,h2⟩=>
   have hl:l.length<=9223372036854775807:=by
    have h1:AV.M S w (.sl l.length (bR l)) v:=h1;generalize bR l=cs at h1;generalize l.length=m at h1 ⊢;cases h1 with
    |emp a b _=>omega
    |sl f a b _ _ _ _=>omega
   exact(h hl).calls S w _ hS ⟨h1,h2⟩⟩
theorem jx {l:Tb} (hw:K5 l) (h:AI l=true):jP l/\l.length<=220/\((bf l).2=0->GN l):=by
 obtain⟨h1,_,h3,h4⟩:=Qw (fun p hp=>(hw p hp).2) h;refine⟨h1,by omega,fun h0=>?_⟩;rcases h4 with h4|h4
 ·exact GN.of h1 h3 h4 h0
 ·exfalso
  unfold bf gC at h0;rw[if_pos h4.1,if_neg (by decide)]at h0;cases h0
theorem MI {x:Rx} (hx:j0 x) (h:(decide (pY x 120<=120) && mE x)=true):pe x:=by
 rw[Bool.and_eq_true,decide_eq_true_eq]at h;exact⟨hx,h.2,by rw[<- (pC x 120).2.2 h.1];exact h.1⟩
theorem Ll {p:Pm} (hp:p.1.length<=9223372036854775807/\j0 p.2) (h:AI [p]=true):p.1.length<=60/\pe p.2:=
 (jx (l:=[p]) (fun q hq=>by rw[List.mem_singleton.1 hq];exact hp) h).1 p (by simp)
theorem Jk:aa Tryz.prog 28 [vd,vd] (.one (dB true)):=by
 have c:=qB (na:=false) (nb:=false) (xs:=[]) (ys:=[]) (by decide) (by decide);refine kU func28 ?_;exact vl
theorem Bk {l:Tb} {n x:L8} (h:x∈gH l n):Bq l n x:=by
 unfold gH at h
 split at h
 ·exact rF.1 h
 ·cases h
theorem zK (l:Tb) (n:L8):(gH l n).length<=l.length:=by
 have hnd:(gH l n).Nodup:=by
  unfold gH
  split
  ·exact List.nodup_iff_pairwise_ne.2 ((rD l n).imp fun {a b} hab e=>by rw[e,gE]at hab;cases hab)
  ·exact List.nodup_nil
 have:=gZ (b:=l.map (·.1)) hnd fun x hx=>by
  obtain⟨p,hp,e⟩:=(Bk hx).mem;exact List.mem_map.2 ⟨p,hp,e⟩
 simpa using this
theorem vy {l:Tb} (h:(bf l).2≠0):(bf l).1=[]:=by
 unfold bf at h ⊢
 split
 ·rename_i h1
  rw[if_pos h1]at h
  split
  ·rename_i h2
   rw[if_pos h2]at h;cases ho:fk l l.length []with
   |some o=>rw[ho]at h;exact absurd rfl h
   |none=>rfl
  ·rfl
 ·rfl
end Go.Proofs.YtmkggcjajcdlcaaGreatDoor
