/- Part Lb: PxW03 Px03A Px03L. -/
import Derived.Test.YtghhopjjddppbaaGreatDoorLa
import Derived.Test.YtghhopjjddppbaaGreatDoorSh
namespace Go.Px
open Go.Proofs
set_option linter.unusedVariables false
set_option maxRecDepth 100000
set_option maxHeartbeats 4000000
noncomputable def q8q (f0:zpb) (f1:vn) (x:Zx):Option yh:=(if decide (x.snd < 0)=true then some (x.fst,x.snd,true) else some (x.fst,x.snd,decide ((↑(ByteArray.size x.fst):Int) < x.snd))).bind fun (y0:zbx)=>if y0.snd.snd=true then some (0,0) else (Zl y0.fst 0 y0.snd.fst).bind fun (y1:zf)=>(Zl y0.fst 0 y0.snd.fst).bind fun (y2:zf)=>(f0 (y1,lit [10])).bind fun (y3:Int)=>(f1 (y2,10)).bind fun (y4:Int)=>some (IntKind.i64.wrap (y3+1),IntKind.i64.wrap (y0.snd.fst - y4))
theorem qcv {f0 g0:W7→Option Int}(h0:∀ x,Le (f0 x) (g0 x)) {f1 g1:Zx→Option Int}(h1:∀ x,Le (f1 x) (g1 x)) (x):Le (q8q f0 f1 x) (q4x g0 g1 x):=by
  unfold q8q q4x
  repeat (first | with_reducible exact Le.refl _ | with_reducible exact h0 _ | with_reducible exact h1 _ | (refine Le.lpW (fun _=>?_) _) | (with_reducible refine Le.bind ?_ (fun _=>?_)) | (with_reducible refine Le.ite ?_ ?_) | (with_reducible refine Le.gag ?_ ?_) | (with_reducible refine Le.cond ?_ ?_) | (with_reducible refine Le.elim (fun _=>?_) (fun _=>?_)))
noncomputable def qbt:Zx→Option yh:=q8q q5h q2p
theorem qdf (x):Le (qbt x) (qy x):=qcv (fun x=>Le.refl _) (fun x=>Le.refl _) x
noncomputable def q6i (x:Int):Option yN:=(if decide (x=4)=true then some (x,decide (x=4)) else (if decide (x=11)=true then some (x,decide (x=11)) else (if decide (x=21)=true then some (x,decide (x=21)) else some (x,decide (x=22))).bind fun (y0:zby)=>some y0).bind fun (y1:zby)=>some y1).bind fun (y2:zby)=>(if y2.snd=true then some (Sum.inl (true,Sl.mk [5,5] true)) else (if decide (y2.fst=7)=true then some (Sum.inl (true,Sl.mk [8] true)) else (if decide (y2.fst=15)=true then some (Sum.inl (true,Sl.mk [5,5,9,9] true)) else (if decide (y2.fst=16)=true then some (Sum.inl (true,Sl.mk [5,5,9] true)) else (if decide (y2.fst=20)=true then some (Sum.inl (true,Sl.mk [28] true)) else (if decide (y2.fst=25)=true then some (Sum.inl (true,Sl.mk [5] true)) else (if decide (y2.fst=5)=true then some (decide (y2.fst=5)) else (if decide (y2.fst=12)=true then some (decide (y2.fst=12)) else (if decide (y2.fst=13)=true then some (decide (y2.fst=13)) else (if decide (y2.fst=14)=true then some (decide (y2.fst=14)) else (if decide (y2.fst=18)=true then some (decide (y2.fst=18)) else (if decide (y2.fst=23)=true then some (decide (y2.fst=23)) else (if decide (y2.fst=24)=true then some (decide (y2.fst=24)) else (if decide (y2.fst=26)=true then some (decide (y2.fst=26)) else some (decide (y2.fst=27))).bind fun (y3:Bool)=>some y3).bind fun (y4:Bool)=>some y4).bind fun (y5:Bool)=>some y5).bind fun (y6:Bool)=>some y6).bind fun (y7:Bool)=>some y7).bind fun (y8:Bool)=>some y8).bind fun (y9:Bool)=>some y9).bind fun (y10:Bool)=>if y10=true then some (Sum.inl (true,Sl.mk [] false)) else some (Sum.inr ())).bind fun (y11:Xp)=>Sum.elim (fun (y12:yN)=>some (Sum.inl y12)) (fun (y13:Unit)=>some (Sum.inr ())) y11).bind fun (y14:Xp)=>Sum.elim (fun (y15:yN)=>some (Sum.inl y15)) (fun (y16:Unit)=>some (Sum.inr ())) y14).bind fun (y17:Xp)=>Sum.elim (fun (y18:yN)=>some (Sum.inl y18)) (fun (y19:Unit)=>some (Sum.inr ())) y17).bind fun (y20:Xp)=>Sum.elim (fun (y21:yN)=>some (Sum.inl y21)) (fun (y22:Unit)=>some (Sum.inr ())) y20).bind fun (y23:Xp)=>Sum.elim (fun (y24:yN)=>some (Sum.inl y24)) (fun (y25:Unit)=>some (Sum.inr ())) y23).bind fun (y26:Xp)=>Sum.elim (fun (y27:yN)=>some y27) (fun (y28:Unit)=>some (false,Sl.mk [] false)) y26
theorem qbp (x):Le (q6i x) (q43 x):=by
  unfold q6i q43
  repeat (first | with_reducible exact Le.refl _ | (refine Le.lpW (fun _=>?_) _) | (with_reducible refine Le.bind ?_ (fun _=>?_)) | (with_reducible refine Le.ite ?_ ?_) | (with_reducible refine Le.gag ?_ ?_) | (with_reducible refine Le.cond ?_ ?_) | (with_reducible refine Le.elim (fun _=>?_) (fun _=>?_)))
noncomputable def q9h:wZ:=q6i
theorem qc5 (x):Le (q9h x) (q2h x):=qbp x
noncomputable def q6j:zbu→Option (Step zbu ZA):=fun (y0:zbu)=>if decide (y0.snd.snd.snd < y0.snd.snd.fst)=true then (zt y0.snd.fst y0.snd.snd.snd).bind fun (y1:q9)=>(zt y0.fst y0.snd.snd.snd).bind fun (y2:Int)=>if decide (y1.Kind_≠y2)=true then some (Step.done (Sum.inl false)) else some (Step.next (y0.fst,y0.snd.fst,y0.snd.snd.fst,IntKind.i64.wrap (y0.snd.snd.snd+1))) else some (Step.done (Sum.inr ()))
theorem qbq (y):Le (q6j y) (q2i y):=by
  unfold q6j q2i
  repeat (first | with_reducible exact Le.refl _ | (refine Le.lpW (fun _=>?_) _) | (with_reducible refine Le.bind ?_ (fun _=>?_)) | (with_reducible refine Le.ite ?_ ?_) | (with_reducible refine Le.gag ?_ ?_) | (with_reducible refine Le.cond ?_ ?_) | (with_reducible refine Le.elim (fun _=>?_) (fun _=>?_)))
noncomputable def q76 (x:wD):Option Bool:=if decide (Sl.len x.fst≠Sl.len x.snd)=true then some false else (lpW q6j (x.snd,x.fst,Sl.len x.fst,0)).bind fun (y3:ZA)=>Sum.elim (fun (y4:Bool)=>some y4) (fun (y5:Unit)=>some true) y3
theorem qc6 (x):Le (q76 x) (q4i x):=by
  unfold q76 q4i
  repeat (first | with_reducible exact Le.refl _ | (refine qbq _ <;> assumption) | (refine Le.lpW (fun _=>?_) _) | (with_reducible refine Le.bind ?_ (fun _=>?_)) | (with_reducible refine Le.ite ?_ ?_) | (with_reducible refine Le.gag ?_ ?_) | (with_reducible refine Le.cond ?_ ?_) | (with_reducible refine Le.elim (fun _=>?_) (fun _=>?_)))
noncomputable def qa0:wD→Option Bool:=q76
theorem qc9 (x):Le (qa0 x) (q2t x):=qc6 x
noncomputable def q88:We→Option (Step We ZA):=fun (y0:We)=>if decide (y0.snd.snd.snd < y0.snd.snd.fst)=true then (zt y0.snd.fst y0.snd.snd.snd).bind fun (y1:q9)=>if decide (y1.Kind_≠y0.fst)=true then some (Step.done (Sum.inl false)) else some (Step.next (y0.fst,y0.snd.fst,y0.snd.snd.fst,IntKind.i64.wrap (y0.snd.snd.snd+1))) else some (Step.done (Sum.inr ()))
theorem qcm (y):Le (q88 y) (q44 y):=by
  unfold q88 q44
  repeat (first | with_reducible exact Le.refl _ | (refine Le.lpW (fun _=>?_) _) | (with_reducible refine Le.bind ?_ (fun _=>?_)) | (with_reducible refine Le.ite ?_ ?_) | (with_reducible refine Le.gag ?_ ?_) | (with_reducible refine Le.cond ?_ ?_) | (with_reducible refine Le.elim (fun _=>?_) (fun _=>?_)))
noncomputable def q8r (x:wF):Option Bool:=(lpW q88 (x.snd,x.fst,Sl.len x.fst,0)).bind fun (y2:ZA)=>Sum.elim (fun (y3:Bool)=>some y3) (fun (y4:Unit)=>some true) y2
theorem qcw (x):Le (q8r x) (q5n x):=by
  unfold q8r q5n
  repeat (first | with_reducible exact Le.refl _ | (refine qcm _ <;> assumption) | (refine Le.lpW (fun _=>?_) _) | (with_reducible refine Le.bind ?_ (fun _=>?_)) | (with_reducible refine Le.ite ?_ ?_) | (with_reducible refine Le.gag ?_ ?_) | (with_reducible refine Le.cond ?_ ?_) | (with_reducible refine Le.elim (fun _=>?_) (fun _=>?_)))
noncomputable def qbu:wF→Option Bool:=q8r
theorem qdg (x):Le (qbu x) (q4m x):=qcw x
noncomputable def q61 (x:Int):Option Bool:=(if decide (10≤x)=true then some (decide (x≤20)) else some false).bind fun (y0:Bool)=>some y0
theorem qbe (x):Le (q61 x) (q3w x):=by
  unfold q61 q3w
  repeat (first | with_reducible exact Le.refl _ | (refine Le.lpW (fun _=>?_) _) | (with_reducible refine Le.bind ?_ (fun _=>?_)) | (with_reducible refine Le.ite ?_ ?_) | (with_reducible refine Le.gag ?_ ?_) | (with_reducible refine Le.cond ?_ ?_) | (with_reducible refine Le.elim (fun _=>?_) (fun _=>?_)))
noncomputable def q6k:zH:=q61
theorem q8h (x):Le (q6k x) (qq x):=qbe x
noncomputable def q5o (x:Int):Option Bool:=(if decide (x=5)=true then some true else if decide (21≤x)=true then some (decide (x≤28)) else some false).bind fun (y0:Bool)=>some y0
theorem qb6 (x):Le (q5o x) (q3a x):=by
  unfold q5o q3a
  repeat (first | with_reducible exact Le.refl _ | (refine Le.lpW (fun _=>?_) _) | (with_reducible refine Le.bind ?_ (fun _=>?_)) | (with_reducible refine Le.ite ?_ ?_) | (with_reducible refine Le.gag ?_ ?_) | (with_reducible refine Le.cond ?_ ?_) | (with_reducible refine Le.elim (fun _=>?_) (fun _=>?_)))
noncomputable def q62:zH:=q5o
theorem q81 (x):Le (q62 x) (qu x):=qb6 x
noncomputable def q8s (f57:wZ) (f58:za3) (f59:W6) (f60:zH) (f61:zH):Xq→Option (Step Xq ZA):=fun (y2:Xq)=>if decide (y2.snd.snd < y2.snd.fst)=true then (zt y2.fst y2.snd.snd).bind fun (y3:q9)=>(if decide (y3.Kind_≠1)=true then some (y2.fst,y2.snd.fst,y2.snd.snd,decide (y3.Kind_≠6)) else some (y2.fst,y2.snd.fst,y2.snd.snd,false)).bind fun (y4:Sl q9×Int×Int×Bool)=>if y4.snd.snd.snd=true then some (Step.done (Sum.inl false)) else some (Step.next (y4.fst,y4.snd.fst,IntKind.i64.wrap (y4.snd.snd.fst+1))) else some (Step.done (Sum.inr ()))
theorem q89 {f57 g57:Int→Option yN}(h57:∀ x,Le (f57 x) (g57 x)) {f58 g58:wD→Option Bool}(h58:∀ x,Le (f58 x) (g58 x)) {f59 g59:wF→Option Bool}(h59:∀ x,Le (f59 x) (g59 x)) {f60 g60:Int→Option Bool}(h60:∀ x,Le (f60 x) (g60 x)) {f61 g61:Int→Option Bool}(h61:∀ x,Le (f61 x) (g61 x)) (y):Le (q8s f57 f58 f59 f60 f61 y) (q4n g57 g58 g59 g60 g61 y):=by
  unfold q8s q4n
  repeat (first | with_reducible exact Le.refl _ | with_reducible exact h57 _ | with_reducible exact h58 _ | with_reducible exact h59 _ | with_reducible exact h60 _ | with_reducible exact h61 _ | (refine Le.lpW (fun _=>?_) _) | (with_reducible refine Le.bind ?_ (fun _=>?_)) | (with_reducible refine Le.ite ?_ ?_) | (with_reducible refine Le.gag ?_ ?_) | (with_reducible refine Le.cond ?_ ?_) | (with_reducible refine Le.elim (fun _=>?_) (fun _=>?_)))
noncomputable def q8t (f57:wZ) (f58:za3) (f59:W6) (f60:zH) (f61:zH):YX→Option (Step YX YX):=fun (y8:YX)=>(if decide (y8.snd.fst≤y8.fst)=true then (zt y8.snd.snd.snd.snd.snd.snd y8.snd.fst).bind fun (y9:q9)=>some (y8.fst,y8.snd.fst,decide (y9.Kind_=3),y8.snd.snd) else some (y8.fst,y8.snd.fst,false,y8.snd.snd)).bind fun (y10:vm)=>if y10.snd.snd.fst=true then some (Step.next (y10.fst,IntKind.i64.wrap (y10.snd.fst+1),y10.snd.snd.snd)) else some (Step.done (y10.fst,y10.snd.fst,y10.snd.snd.snd))
theorem qax {f57 g57:Int→Option yN}(h57:∀ x,Le (f57 x) (g57 x)) {f58 g58:wD→Option Bool}(h58:∀ x,Le (f58 x) (g58 x)) {f59 g59:wF→Option Bool}(h59:∀ x,Le (f59 x) (g59 x)) {f60 g60:Int→Option Bool}(h60:∀ x,Le (f60 x) (g60 x)) {f61 g61:Int→Option Bool}(h61:∀ x,Le (f61 x) (g61 x)) (y):Le (q8t f57 f58 f59 f60 f61 y) (q2y g57 g58 g59 g60 g61 y):=by
  unfold q8t q2y
  repeat (first | with_reducible exact Le.refl _ | with_reducible exact h57 _ | with_reducible exact h58 _ | with_reducible exact h59 _ | with_reducible exact h60 _ | with_reducible exact h61 _ | (refine q89 ?_ ?_ ?_ ?_ ?_ _ <;> assumption) | (refine Le.lpW (fun _=>?_) _) | (with_reducible refine Le.bind ?_ (fun _=>?_)) | (with_reducible refine Le.ite ?_ ?_) | (with_reducible refine Le.gag ?_ ?_) | (with_reducible refine Le.cond ?_ ?_) | (with_reducible refine Le.elim (fun _=>?_) (fun _=>?_)))
noncomputable def q8u (f57:wZ) (f58:za3) (f59:W6) (f60:zH) (f61:zH):Xq→Option (Step Xq ZA):=fun (y26:Xq)=>if decide (y26.snd.snd < y26.snd.fst)=true then (zt y26.fst y26.snd.snd).bind fun (y27:q9)=>(f60 y27.Kind_).bind fun (y28:Bool)=>if (!y28)=true then some (Step.done (Sum.inl false)) else some (Step.next (y26.fst,y26.snd.fst,IntKind.i64.wrap (y26.snd.snd+1))) else some (Step.done (Sum.inr ()))
theorem qcx {f57 g57:Int→Option yN}(h57:∀ x,Le (f57 x) (g57 x)) {f58 g58:wD→Option Bool}(h58:∀ x,Le (f58 x) (g58 x)) {f59 g59:wF→Option Bool}(h59:∀ x,Le (f59 x) (g59 x)) {f60 g60:Int→Option Bool}(h60:∀ x,Le (f60 x) (g60 x)) {f61 g61:Int→Option Bool}(h61:∀ x,Le (f61 x) (g61 x)) (y):Le (q8u f57 f58 f59 f60 f61 y) (q4o g57 g58 g59 g60 g61 y):=by
  unfold q8u q4o
  repeat (first | with_reducible exact Le.refl _ | with_reducible exact h57 _ | with_reducible exact h58 _ | with_reducible exact h59 _ | with_reducible exact h60 _ | with_reducible exact h61 _ | (refine q89 ?_ ?_ ?_ ?_ ?_ _ <;> assumption) | (refine qax ?_ ?_ ?_ ?_ ?_ _ <;> assumption) | (refine Le.lpW (fun _=>?_) _) | (with_reducible refine Le.bind ?_ (fun _=>?_)) | (with_reducible refine Le.ite ?_ ?_) | (with_reducible refine Le.gag ?_ ?_) | (with_reducible refine Le.cond ?_ ?_) | (with_reducible refine Le.elim (fun _=>?_) (fun _=>?_)))
noncomputable def q9o (f57:wZ) (f58:za3) (f59:W6) (f60:zH) (f61:zH) (x:q9):Option Bool:=(f57 x.Kind_).bind fun (y0:yN)=>if y0.fst=true then (f58 (x.Kids_,y0.snd)).bind fun (y1:Bool)=>some y1 else (if decide (x.Kind_=0)=true then (lpW (q8s f57 f58 f59 f60 f61) (x.Kids_,x.Kids_.len,0)).bind fun (y5:ZA)=>Sum.elim (fun (y6:Bool)=>some (Sum.inl y6)) (fun (y7:Unit)=>some (Sum.inl true)) y5 else (if decide (x.Kind_=1)=true then (lpW (q8t f57 f58 f59 f60 f61) (IntKind.i64.wrap (x.Kids_.len - 1),1,x.Kind_,x.Text_,x.Num_,x.At_,x.Kids_)).bind fun (y11:YX)=>(if decide (0≤y11.fst)=true then (zt y11.snd.snd.snd.snd.snd.snd 0).bind fun (y12:q9)=>if decide (y12.Kind_=2)=true then (zV y11.snd.snd.snd.snd.snd.snd y11.snd.fst (Sl.len y11.snd.snd.snd.snd.snd.snd)).bind fun (y13:Sl q9)=>(f59 (y13,4)).bind fun (y14:Bool)=>some y14 else some false else some false).bind fun (y15:Bool)=>some (Sum.inl y15) else (if decide (x.Kind_=2)=true then some (IntKind.i64.wrap (x.Kids_.len - 1),x.Kind_,decide (x.Kind_=2),x.Kind_,x.Text_,x.Num_,x.At_,x.Kids_) else (if decide (x.Kind_=3)=true then some (IntKind.i64.wrap (x.Kids_.len - 1),x.Kind_,decide (x.Kind_=3),x.Kind_,x.Text_,x.Num_,x.At_,x.Kids_) else (if decide (x.Kind_=17)=true then some (IntKind.i64.wrap (x.Kids_.len - 1),x.Kind_,decide (x.Kind_=17),x.Kind_,x.Text_,x.Num_,x.At_,x.Kids_) else some (IntKind.i64.wrap (x.Kids_.len - 1),x.Kind_,decide (x.Kind_=8),x.Kind_,x.Text_,x.Num_,x.At_,x.Kids_)).bind fun (y16:vm)=>some y16).bind fun (y17:vm)=>some y17).bind fun (y18:vm)=>(if y18.snd.snd.fst=true then (if decide (y18.fst < 1)=true then (f59 (y18.snd.snd.snd.snd.snd.snd.snd,5)).bind fun (y19:Bool)=>some y19 else some false).bind fun (y20:Bool)=>some (Sum.inl y20) else (if decide (y18.snd.fst=6)=true then (if decide (1≤y18.fst)=true then (zV y18.snd.snd.snd.snd.snd.snd.snd 0 (IntKind.i64.wrap (y18.fst - 1))).bind fun (y21:Sl q9)=>(f59 (y21,7)).bind fun (y22:Bool)=>if y22=true then (zV y18.snd.snd.snd.snd.snd.snd.snd (IntKind.i64.wrap (y18.fst - 1)) (Sl.len y18.snd.snd.snd.snd.snd.snd.snd)).bind fun (y23:Sl q9)=>(f58 (y23,Sl.mk [8,9] true)).bind fun (y24:Bool)=>some y24 else some false else some false).bind fun (y25:Bool)=>some (Sum.inl y25) else (if decide (y18.snd.fst=9)=true then (lpW (q8u f57 f58 f59 f60 f61) (y18.snd.snd.snd.snd.snd.snd.snd,Sl.len y18.snd.snd.snd.snd.snd.snd.snd,0)).bind fun (y29:ZA)=>Sum.elim (fun (y30:Bool)=>some (Sum.inl y30)) (fun (y31:Unit)=>some (Sum.inl true)) y29 else (if decide (y18.snd.fst=10)=true then (if decide (y18.fst=0)=true then (zt y18.snd.snd.snd.snd.snd.snd.snd 0).bind fun (y32:q9)=>(f61 y32.Kind_).bind fun (y33:Bool)=>some y33 else some false).bind fun (y34:Bool)=>some (Sum.inl y34) else (if decide (y18.snd.fst=19)=true then some (decide (y18.snd.fst=19),y18.snd.snd.snd) else some (decide (y18.snd.fst=28),y18.snd.snd.snd)).bind fun (y35:zja)=>if y35.fst=true then (f59 (y35.snd.snd.snd.snd.snd,5)).bind fun (y36:Bool)=>some (Sum.inl y36) else some (Sum.inr ())).bind fun (y37:ZA)=>Sum.elim (fun (y38:Bool)=>some (Sum.inl y38)) (fun (y39:Unit)=>some (Sum.inr ())) y37).bind fun (y40:ZA)=>Sum.elim (fun (y41:Bool)=>some (Sum.inl y41)) (fun (y42:Unit)=>some (Sum.inr ())) y40).bind fun (y43:ZA)=>Sum.elim (fun (y44:Bool)=>some (Sum.inl y44)) (fun (y45:Unit)=>some (Sum.inr ())) y43).bind fun (y46:ZA)=>Sum.elim (fun (y47:Bool)=>some (Sum.inl y47)) (fun (y48:Unit)=>some (Sum.inr ())) y46).bind fun (y49:ZA)=>Sum.elim (fun (y50:Bool)=>some (Sum.inl y50)) (fun (y51:Unit)=>some (Sum.inr ())) y49).bind fun (y52:ZA)=>Sum.elim (fun (y53:Bool)=>some y53) (fun (y54:Unit)=>some false) y52
theorem qdh {f57 g57:Int→Option yN}(h57:∀ x,Le (f57 x) (g57 x)) {f58 g58:wD→Option Bool}(h58:∀ x,Le (f58 x) (g58 x)) {f59 g59:wF→Option Bool}(h59:∀ x,Le (f59 x) (g59 x)) {f60 g60:Int→Option Bool}(h60:∀ x,Le (f60 x) (g60 x)) {f61 g61:Int→Option Bool}(h61:∀ x,Le (f61 x) (g61 x)) (x):Le (q9o f57 f58 f59 f60 f61 x) (q65 g57 g58 g59 g60 g61 x):=by
  unfold q9o q65
  repeat (first | with_reducible exact Le.refl _ | with_reducible exact h57 _ | with_reducible exact h58 _ | with_reducible exact h59 _ | with_reducible exact h60 _ | with_reducible exact h61 _ | (refine q89 ?_ ?_ ?_ ?_ ?_ _ <;> assumption) | (refine qax ?_ ?_ ?_ ?_ ?_ _ <;> assumption) | (refine qcx ?_ ?_ ?_ ?_ ?_ _ <;> assumption) | (refine Le.lpW (fun _=>?_) _) | (with_reducible refine Le.bind ?_ (fun _=>?_)) | (with_reducible refine Le.ite ?_ ?_) | (with_reducible refine Le.gag ?_ ?_) | (with_reducible refine Le.cond ?_ ?_) | (with_reducible refine Le.elim (fun _=>?_) (fun _=>?_)))
noncomputable def qca:VP:=q9o q9h qa0 qbu q6k q62
theorem qdt (x):Le (qca x) (q4j x):=qdh qc5 qc9 qdg q8h q81 x
noncomputable def q7p (f63:zmI) (x:Int):Option ByteArray:=(f63 (x,10)).bind fun (y0:zf)=>some y0
theorem qcb {f63 g63:yh→Option ByteArray}(h63:∀ x,Le (f63 x) (g63 x)) (x):Le (q7p f63 x) (q5t g63 x):=by
  unfold q7p q5t
  repeat (first | with_reducible exact Le.refl _ | with_reducible exact h63 _ | (refine Le.lpW (fun _=>?_) _) | (with_reducible refine Le.bind ?_ (fun _=>?_)) | (with_reducible refine Le.ite ?_ ?_) | (with_reducible refine Le.gag ?_ ?_) | (with_reducible refine Le.cond ?_ ?_) | (with_reducible refine Le.elim (fun _=>?_) (fun _=>?_)))
noncomputable def q6h:wB:=q7p q5e
theorem q7q (x):Le (q6h x) (q2n x):=qcb (fun x=>Le.refl _) x
noncomputable def q8v (f64:wB) (x:q9):Option ByteArray:=(if decide (x.Text_=lit [])=true then (f64 x.Num_).bind fun (y0:zf)=>some (Sum.inl y0) else (if decide (0 < x.Num_)=true then bif !false && decide (x.Text_.size+3≤9223372036854775807) then (f64 x.Num_).bind fun (y1:zf)=>bif !false && decide ((x.Text_++lit [32,43,32]).size+y1.size≤9223372036854775807) then some (Sum.inl (x.Text_++lit [32,43,32]++y1)) else none else none else if decide (x.Num_ < 0)=true then bif !false && decide (x.Text_.size+3≤9223372036854775807) then (f64 x.Num_).bind fun (y2:zf)=>(Zl y2 1 (↑y2.size:Int)).bind fun (y3:zf)=>bif !false && decide ((x.Text_++lit [32,45,32]).size+y3.size≤9223372036854775807) then some (Sum.inl (x.Text_++lit [32,45,32]++y3)) else none else none else some (Sum.inr (x.Kind_,x.Text_,x.Num_,x.At_,x.Kids_))).bind fun (y4:Yr)=>Sum.elim (fun (y5:zf)=>some (Sum.inl y5)) (fun (y6:yU)=>some (Sum.inr y6)) y4).bind fun (y7:Yr)=>Sum.elim (fun (y8:zf)=>some y8) (fun (y9:yU)=>some y9.snd.fst) y7
theorem qcy {f64 g64:Int→Option ByteArray}(h64:∀ x,Le (f64 x) (g64 x)) (x):Le (q8v f64 x) (q5p g64 x):=by
  unfold q8v q5p
  repeat (first | with_reducible exact Le.refl _ | with_reducible exact h64 _ | (refine Le.lpW (fun _=>?_) _) | (with_reducible refine Le.bind ?_ (fun _=>?_)) | (with_reducible refine Le.ite ?_ ?_) | (with_reducible refine Le.gag ?_ ?_) | (with_reducible refine Le.cond ?_ ?_) | (with_reducible refine Le.elim (fun _=>?_) (fun _=>?_)))
noncomputable def qbv:xq:=q8v q6h
theorem qdi (x):Le (qbv x) (q5c x):=qcy q7q x
noncomputable def q7r (f67:zi6) (f68:zje) (f81:zU) (f69:zjd):zdZ→Option (Step zdZ Xo):=fun (y1:zdZ)=>if decide (y1.snd.snd.snd.fst < y1.snd.snd.fst)=true then (zt y1.snd.fst y1.snd.snd.snd.fst).bind fun (y2:q9)=>(f68 (lit [32,32,32,32],IntKind.i64.wrap (y1.fst+1))).bind fun (y3:zf)=>(f81 (q9.mk y2.Kind_ y2.Text_ y2.Num_ y2.At_ y2.Kids_,IntKind.i64.wrap (y1.fst+1))).bind fun (y4:zf)=>bif !false && decide (y3.size+y4.size≤9223372036854775807) then bif !false && decide ((y3++y4).size+1≤9223372036854775807) then (f67 (y3++y4++lit [10],y1.snd.snd.snd.snd)).bind fun (y5:Xo)=>some (Step.next (y1.fst,y1.snd.fst,y1.snd.snd.fst,IntKind.i64.wrap (y1.snd.snd.snd.fst+1),y5.snd)) else none else none else some (Step.done (y1.fst,y1.snd.snd.snd.snd))
theorem qcc {f67 g67:ByteArray×ByteArray×Sl Unit→Option Xo}(h67:∀ x,Le (f67 x) (g67 x)) {f68 g68:Zx→Option ByteArray}(h68:∀ x,Le (f68 x) (g68 x)) {f81 g81:q9×Int→Option ByteArray}(h81:∀ x,Le (f81 x) (g81 x)) {f69 g69:ByteArray×Sl Unit→Option ByteArray}(h69:∀ x,Le (f69 x) (g69 x)) (y):Le (q7r f67 f68 f81 f69 y) (q2o g67 g68 g81 g69 y):=by
  unfold q7r q2o
  repeat (first | with_reducible exact Le.refl _ | with_reducible exact h67 _ | with_reducible exact h68 _ | with_reducible exact h81 _ | with_reducible exact h69 _ | (refine Le.lpW (fun _=>?_) _) | (with_reducible refine Le.bind ?_ (fun _=>?_)) | (with_reducible refine Le.ite ?_ ?_) | (with_reducible refine Le.gag ?_ ?_) | (with_reducible refine Le.cond ?_ ?_) | (with_reducible refine Le.elim (fun _=>?_) (fun _=>?_)))
noncomputable def q8a (f67:zi6) (f68:zje) (f81:zU) (f69:zjd) (x:q9×Int):Option ByteArray:=(f67 (lit [123,10],lit [],Sl.mk [] false)).bind fun (y0:Xo)=>(lpW (q7r f67 f68 f81 f69) (x.snd,x.fst.Kids_,x.fst.Kids_.len,0,y0.snd)).bind fun (y6:Xo)=>(f68 (lit [32,32,32,32],y6.fst)).bind fun (y7:zf)=>bif !false && decide (y7.size+1≤9223372036854775807) then (f67 (y7++lit [125],y6.snd)).bind fun (y8:Xo)=>(f69 y8.snd).bind fun (y9:zf)=>some y9 else none
theorem qcn {f67 g67:ByteArray×ByteArray×Sl Unit→Option Xo}(h67:∀ x,Le (f67 x) (g67 x)) {f68 g68:Zx→Option ByteArray}(h68:∀ x,Le (f68 x) (g68 x)) {f81 g81:q9×Int→Option ByteArray}(h81:∀ x,Le (f81 x) (g81 x)) {f69 g69:ByteArray×Sl Unit→Option ByteArray}(h69:∀ x,Le (f69 x) (g69 x)) (x):Le (q8a f67 f68 f81 f69 x) (q3u g67 g68 g81 g69 x):=by
  unfold q8a q3u
  repeat (first | with_reducible exact Le.refl _ | with_reducible exact h67 _ | with_reducible exact h68 _ | with_reducible exact h81 _ | with_reducible exact h69 _ | (refine qcc ?_ ?_ ?_ ?_ _ <;> assumption) | (refine Le.lpW (fun _=>?_) _) | (with_reducible refine Le.bind ?_ (fun _=>?_)) | (with_reducible refine Le.ite ?_ ?_) | (with_reducible refine Le.gag ?_ ?_) | (with_reducible refine Le.cond ?_ ?_) | (with_reducible refine Le.elim (fun _=>?_) (fun _=>?_)))
noncomputable def q8b (h:zD):zD:=q8a qg q1m h qt
theorem qa1 {h g:(q9×Int)→Option ByteArray}(hh:∀ x,Le (h x) (g x)) (x):Le (q8b h x) (q1d g x):=qcn (fun x=>Le.refl _) (fun x=>Le.refl _) hh (fun x=>Le.refl _) x
noncomputable def q8c (f81:zU) (f65:zi9):zdY→Option (Step zdY zeO):=fun (y0:zdY)=>if decide (y0.snd.snd.snd.snd.fst < y0.snd.snd.snd.fst)=true then (zt y0.snd.snd.fst y0.snd.snd.snd.snd.fst).bind fun (y1:q9)=>(f81 (q9.mk y1.Kind_ y1.Text_ y1.Num_ y1.At_ y1.Kids_,y0.snd.fst)).bind fun (y2:zf)=>(ZM 16 y0.snd.snd.snd.snd.snd [y2]).bind fun (y3:Sl ByteArray)=>some (Step.next (y0.fst,y0.snd.fst,y0.snd.snd.fst,y0.snd.snd.snd.fst,IntKind.i64.wrap (y0.snd.snd.snd.snd.fst+1),y3)) else some (Step.done (y0.fst,y0.snd.snd.snd.snd.snd))
theorem qco {f81 g81:q9×Int→Option ByteArray}(h81:∀ x,Le (f81 x) (g81 x)) {f65 g65:Sl ByteArray×ByteArray→Option ByteArray}(h65:∀ x,Le (f65 x) (g65 x)) (y):Le (q8c f81 f65 y) (q3b g81 g65 y):=by
  unfold q8c q3b
  repeat (first | with_reducible exact Le.refl _ | with_reducible exact h81 _ | with_reducible exact h65 _ | (refine Le.lpW (fun _=>?_) _) | (with_reducible refine Le.bind ?_ (fun _=>?_)) | (with_reducible refine Le.ite ?_ ?_) | (with_reducible refine Le.gag ?_ ?_) | (with_reducible refine Le.cond ?_ ?_) | (with_reducible refine Le.elim (fun _=>?_) (fun _=>?_)))
noncomputable def q8w (f81:zU) (f65:zi9) (x:xS):Option ByteArray:=(lpW (q8c f81 f65) (x.snd.fst,x.snd.snd,x.fst,Sl.len x.fst,0,Sl.mk [] false)).bind fun (y4:zeO)=>(f65 (y4.snd,y4.fst)).bind fun (y5:zf)=>some y5
theorem qcz {f81 g81:q9×Int→Option ByteArray}(h81:∀ x,Le (f81 x) (g81 x)) {f65 g65:Sl ByteArray×ByteArray→Option ByteArray}(h65:∀ x,Le (f65 x) (g65 x)) (x):Le (q8w f81 f65 x) (q3c g81 g65 x):=by
  unfold q8w q3c
  repeat (first | with_reducible exact Le.refl _ | with_reducible exact h81 _ | with_reducible exact h65 _ | (refine qco ?_ ?_ _ <;> assumption) | (refine Le.lpW (fun _=>?_) _) | (with_reducible refine Le.bind ?_ (fun _=>?_)) | (with_reducible refine Le.ite ?_ ?_) | (with_reducible refine Le.gag ?_ ?_) | (with_reducible refine Le.cond ?_ ?_) | (with_reducible refine Le.elim (fun _=>?_) (fun _=>?_)))
noncomputable def q45 (h:zD):xS→Option ByteArray:=q8w h q4y
theorem q4f {h g:(q9×Int)→Option ByteArray}(hh:∀ x,Le (h x) (g x)) (x):Le (q45 h x) (qn g x):=qcz hh (fun x=>Le.refl _) x
noncomputable def q8x (f71:wY) (x:q9×Int):Option ByteArray:=(f71 (x.fst.Kids_,lit [],x.snd)).bind fun (y0:zf)=>(if decide (x.fst.Text_=lit [38])=true then bif !false && decide (1+y0.size≤9223372036854775807) then some (Sum.inl (lit [38]++y0)) else none else (if decide (x.fst.Text_=lit [38,109,117,116])=true then some (y0,decide (x.fst.Text_=lit [38,109,117,116]),x.fst.Kind_,x.fst.Text_,x.fst.Num_,x.fst.At_,x.fst.Kids_) else some (y0,decide (x.fst.Text_=lit [111,119,110]),x.fst.Kind_,x.fst.Text_,x.fst.Num_,x.fst.At_,x.fst.Kids_)).bind fun (y1:zo7)=>if y1.snd.fst=true then bif !false && decide (ByteArray.size y1.snd.snd.snd.fst+1≤9223372036854775807) then bif !false && decide ((y1.snd.snd.snd.fst++lit [32]).size+ByteArray.size y1.fst≤9223372036854775807) then some (Sum.inl (y1.snd.snd.snd.fst++lit [32]++y1.fst)) else none else none else some (Sum.inr y1.snd.snd)).bind fun (y2:Yr)=>Sum.elim (fun (y3:zf)=>some y3) (fun (y4:yU)=>some y4.snd.fst) y2
theorem qd0 {f71 g71:xS→Option ByteArray}(h71:∀ x,Le (f71 x) (g71 x)) (x):Le (q8x f71 x) (q46 g71 x):=by
  unfold q8x q46
  repeat (first | with_reducible exact Le.refl _ | with_reducible exact h71 _ | (refine Le.lpW (fun _=>?_) _) | (with_reducible refine Le.bind ?_ (fun _=>?_)) | (with_reducible refine Le.ite ?_ ?_) | (with_reducible refine Le.gag ?_ ?_) | (with_reducible refine Le.cond ?_ ?_) | (with_reducible refine Le.elim (fun _=>?_) (fun _=>?_)))
noncomputable def q8y (h:zD):zD:=q8x (q45 h)
theorem qay {h g:(q9×Int)→Option ByteArray}(hh:∀ x,Le (h x) (g x)) (x):Le (q8y h x) (q1n g x):=qd0 (q4f hh) x
noncomputable def qak (f71:wY) (f81:zU) (x:q9×Int):Option ByteArray:=bif !false && decide (3+x.fst.Text_.size≤9223372036854775807) then bif !false && decide ((lit [102,110,32]++x.fst.Text_).size+1≤9223372036854775807) then (zV x.fst.Kids_ 0 (IntKind.i64.wrap (IntKind.i64.wrap (x.fst.Kids_.len - 1) - 1))).bind fun (y0:Sl q9)=>(f71 (y0,lit [44,32],x.snd)).bind fun (y1:zf)=>bif !false && decide ((lit [102,110,32]++x.fst.Text_++lit [40]).size+y1.size≤9223372036854775807) then bif !false && decide ((lit [102,110,32]++x.fst.Text_++lit [40]++y1).size+1≤9223372036854775807) then (zt x.fst.Kids_ (IntKind.i64.wrap (IntKind.i64.wrap (x.fst.Kids_.len - 1) - 1))).bind fun (y2:q9)=>(if decide (y2.Text_≠lit [])=true then (f81 (q9.mk y2.Kind_ y2.Text_ y2.Num_ y2.At_ y2.Kids_,x.snd)).bind fun (y3:zf)=>bif !false && decide (4+y3.size≤9223372036854775807) then bif !false && decide ((lit [102,110,32]++x.fst.Text_++lit [40]++y1++lit [41]).size+(lit [32,45,62,32]++y3).size≤9223372036854775807) then some (x.snd,IntKind.i64.wrap (x.fst.Kids_.len - 1),lit [102,110,32]++x.fst.Text_++lit [40]++y1++lit [41]++(lit [32,45,62,32]++y3),x.fst.Kind_,x.fst.Text_,x.fst.Num_,x.fst.At_,x.fst.Kids_) else none else none else some (x.snd,IntKind.i64.wrap (x.fst.Kids_.len - 1),lit [102,110,32]++x.fst.Text_++lit [40]++y1++lit [41],x.fst.Kind_,x.fst.Text_,x.fst.Num_,x.fst.At_,x.fst.Kids_)).bind fun (y4:zi8)=>bif !false && decide (ByteArray.size y4.snd.snd.fst+1≤9223372036854775807) then (zt y4.snd.snd.snd.snd.snd.snd.snd y4.snd.fst).bind fun (y5:q9)=>(f81 (q9.mk y5.Kind_ y5.Text_ y5.Num_ y5.At_ y5.Kids_,y4.fst)).bind fun (y6:zf)=>bif !false && decide ((y4.snd.snd.fst++lit [32]).size+y6.size≤9223372036854775807) then some (y4.snd.snd.fst++lit [32]++y6) else none else none else none else none else none else none
theorem qdu {f71 g71:xS→Option ByteArray}(h71:∀ x,Le (f71 x) (g71 x)) {f81 g81:q9×Int→Option ByteArray}(h81:∀ x,Le (f81 x) (g81 x)) (x):Le (qak f71 f81 x) (q57 g71 g81 x):=by
  unfold qak q57
  repeat (first | with_reducible exact Le.refl _ | with_reducible exact h71 _ | with_reducible exact h81 _ | (refine Le.lpW (fun _=>?_) _) | (with_reducible refine Le.bind ?_ (fun _=>?_)) | (with_reducible refine Le.ite ?_ ?_) | (with_reducible refine Le.gag ?_ ?_) | (with_reducible refine Le.cond ?_ ?_) | (with_reducible refine Le.elim (fun _=>?_) (fun _=>?_)))
noncomputable def qal (h:zD):zD:=qak (q45 h) h
theorem qbw {h g:(q9×Int)→Option ByteArray}(hh:∀ x,Le (h x) (g x)) (x):Le (qal h x) (q2j g x):=qdu (q4f hh) hh x
noncomputable def q8z (f81:zU) (f71:wY):YX→Option (Step YX YX):=fun (y0:YX)=>(if decide (y0.snd.fst < Sl.len y0.snd.snd.snd.snd.snd.snd)=true then (zt y0.snd.snd.snd.snd.snd.snd y0.snd.fst).bind fun (y1:q9)=>some (y0.fst,y0.snd.fst,decide (y1.Kind_=3),y0.snd.snd) else some (y0.fst,y0.snd.fst,false,y0.snd.snd)).bind fun (y2:vm)=>if y2.snd.snd.fst=true then some (Step.next (y2.fst,IntKind.i64.wrap (y2.snd.fst+1),y2.snd.snd.snd)) else some (Step.done (y2.fst,y2.snd.fst,y2.snd.snd.snd))
theorem qd1 {f81 g81:q9×Int→Option ByteArray}(h81:∀ x,Le (f81 x) (g81 x)) {f71 g71:xS→Option ByteArray}(h71:∀ x,Le (f71 x) (g71 x)) (y):Le (q8z f81 f71 y) (q42 g81 g71 y):=by
  unfold q8z q42
  repeat (first | with_reducible exact Le.refl _ | with_reducible exact h81 _ | with_reducible exact h71 _ | (refine Le.lpW (fun _=>?_) _) | (with_reducible refine Le.bind ?_ (fun _=>?_)) | (with_reducible refine Le.ite ?_ ?_) | (with_reducible refine Le.gag ?_ ?_) | (with_reducible refine Le.cond ?_ ?_) | (with_reducible refine Le.elim (fun _=>?_) (fun _=>?_)))
noncomputable def q9p (f81:zU) (f71:wY) (x:q9×Int):Option ByteArray:=(lpW (q8z f81 f71) (x.snd,1,x.fst.Kind_,x.fst.Text_,x.fst.Num_,x.fst.At_,x.fst.Kids_)).bind fun (y3:YX)=>bif !false && decide (5+ByteArray.size y3.snd.snd.snd.fst≤9223372036854775807) then bif !false && decide ((lit [116,121,112,101,32]++y3.snd.snd.snd.fst).size+1≤9223372036854775807) then (zt y3.snd.snd.snd.snd.snd.snd 0).bind fun (y4:q9)=>(f81 (q9.mk y4.Kind_ y4.Text_ y4.Num_ y4.At_ y4.Kids_,y3.fst)).bind fun (y5:zf)=>bif !false && decide ((lit [116,121,112,101,32]++y3.snd.snd.snd.fst++lit [32]).size+y5.size≤9223372036854775807) then (if decide (1 < y3.snd.fst)=true then (zV y3.snd.snd.snd.snd.snd.snd 1 y3.snd.fst).bind fun (y6:Sl q9)=>(f71 (y6,lit [44,32],y3.fst)).bind fun (y7:zf)=>bif !false && decide (3+y7.size≤9223372036854775807) then bif !false && decide ((lit [32,123,32]++y7).size+2≤9223372036854775807) then bif !false && decide ((lit [116,121,112,101,32]++y3.snd.snd.snd.fst++lit [32]++y5).size+(lit [32,123,32]++y7++lit [32,125]).size≤9223372036854775807) then some (y3.fst,y3.snd.fst,lit [116,121,112,101,32]++y3.snd.snd.snd.fst++lit [32]++y5++(lit [32,123,32]++y7++lit [32,125]),y3.snd.snd) else none else none else none else some (y3.fst,y3.snd.fst,lit [116,121,112,101,32]++y3.snd.snd.snd.fst++lit [32]++y5,y3.snd.snd)).bind fun (y8:zi8)=>(if decide (y8.snd.fst < Sl.len y8.snd.snd.snd.snd.snd.snd.snd)=true then (zV y8.snd.snd.snd.snd.snd.snd.snd y8.snd.fst (Sl.len y8.snd.snd.snd.snd.snd.snd.snd)).bind fun (y9:Sl q9)=>(f71 (y9,lit [44,32],y8.fst)).bind fun (y10:zf)=>bif !false && decide (7+y10.size≤9223372036854775807) then bif !false && decide (ByteArray.size y8.snd.snd.fst+(lit [32,119,104,101,114,101,32]++y10).size≤9223372036854775807) then some (y8.snd.snd.fst++(lit [32,119,104,101,114,101,32]++y10)) else none else none else some y8.snd.snd.fst).bind fun (y11:zf)=>bif !false && decide (y11.size+1≤9223372036854775807) then some (y11++lit [59]) else none else none else none else none
theorem qdj {f81 g81:q9×Int→Option ByteArray}(h81:∀ x,Le (f81 x) (g81 x)) {f71 g71:xS→Option ByteArray}(h71:∀ x,Le (f71 x) (g71 x)) (x):Le (q9p f81 f71 x) (q4p g81 g71 x):=by
  unfold q9p q4p
  repeat (first | with_reducible exact Le.refl _ | with_reducible exact h81 _ | with_reducible exact h71 _ | (refine qd1 ?_ ?_ _ <;> assumption) | (refine Le.lpW (fun _=>?_) _) | (with_reducible refine Le.bind ?_ (fun _=>?_)) | (with_reducible refine Le.ite ?_ ?_) | (with_reducible refine Le.gag ?_ ?_) | (with_reducible refine Le.cond ?_ ?_) | (with_reducible refine Le.elim (fun _=>?_) (fun _=>?_)))
noncomputable def q9q (h:zD):zD:=q9p h (q45 h)
theorem qbf {h g:(q9×Int)→Option ByteArray}(hh:∀ x,Le (h x) (g x)) (x):Le (q9q h x) (q22 g x):=qdj hh (q4f hh) x
noncomputable def q7s (f81:zU) (x:yT):Option zy:=(zt x.snd.fst.snd.snd.snd.snd x.fst).bind fun (y0:q9)=>(f81 (q9.mk y0.Kind_ y0.Text_ y0.Num_ y0.At_ y0.Kids_,x.snd.snd)).bind fun (y1:zf)=>some (y1,x.snd)
theorem qcd {f81 g81:q9×Int→Option ByteArray}(h81:∀ x,Le (f81 x) (g81 x)) (x):Le (q7s f81 x) (q28 g81 x):=by
  unfold q7s q28
  repeat (first | with_reducible exact Le.refl _ | with_reducible exact h81 _ | (refine Le.lpW (fun _=>?_) _) | (with_reducible refine Le.bind ?_ (fun _=>?_)) | (with_reducible refine Le.ite ?_ ?_) | (with_reducible refine Le.gag ?_ ?_) | (with_reducible refine Le.cond ?_ ?_) | (with_reducible refine Le.elim (fun _=>?_) (fun _=>?_)))
noncomputable def q7t (h:zD):yT→Option zy:=q7s h
theorem q9i {h g:(q9×Int)→Option ByteArray}(hh:∀ x,Le (h x) (g x)) (x):Le (q7t h x) (qz g x):=qcd hh x
noncomputable def q7u (f81:zU) (x:yT):Option zy:=(zt x.snd.fst.snd.snd.snd.snd x.fst).bind fun (y0:q9)=>(f81 (q9.mk y0.Kind_ y0.Text_ y0.Num_ y0.At_ y0.Kids_,x.snd.snd)).bind fun (y1:zf)=>some (y1,x.snd)
theorem qce {f81 g81:q9×Int→Option ByteArray}(h81:∀ x,Le (f81 x) (g81 x)) (x):Le (q7u f81 x) (q2u g81 x):=by
  unfold q7u q2u
  repeat (first | with_reducible exact Le.refl _ | with_reducible exact h81 _ | (refine Le.lpW (fun _=>?_) _) | (with_reducible refine Le.bind ?_ (fun _=>?_)) | (with_reducible refine Le.ite ?_ ?_) | (with_reducible refine Le.gag ?_ ?_) | (with_reducible refine Le.cond ?_ ?_) | (with_reducible refine Le.elim (fun _=>?_) (fun _=>?_)))
noncomputable def q7v (h:zD):yT→Option zy:=q7u h
theorem q9j {h g:(q9×Int)→Option ByteArray}(hh:∀ x,Le (h x) (g x)) (x):Le (q7v h x) (q1f g x):=qce hh x
noncomputable def q90 (f66:xq) (f76:zaY) (f64:wB) (f71:wY) (x:q9×Int):Option ByteArray:=(if decide (x.fst.Kind_=5)=true then (f66 (q9.mk x.fst.Kind_ x.fst.Text_ x.fst.Num_ x.fst.At_ x.fst.Kids_)).bind fun (y0:zf)=>some (Sum.inl y0) else (if decide (x.fst.Kind_=21)=true then (f76 (0,(x.fst.Kind_,x.fst.Text_,x.fst.Num_,x.fst.At_,x.fst.Kids_),x.snd)).bind fun (y1:zy)=>bif !false && decide (ByteArray.size y1.fst+3≤9223372036854775807) then (f76 (1,y1.snd)).bind fun (y2:zy)=>bif !false && decide ((y1.fst++lit [32,43,32]).size+ByteArray.size y2.fst≤9223372036854775807) then some (Sum.inl (y1.fst++lit [32,43,32]++y2.fst)) else none else none else (if decide (x.fst.Kind_=22)=true then (f76 (0,(x.fst.Kind_,x.fst.Text_,x.fst.Num_,x.fst.At_,x.fst.Kids_),x.snd)).bind fun (y3:zy)=>bif !false && decide (ByteArray.size y3.fst+3≤9223372036854775807) then (f76 (1,y3.snd)).bind fun (y4:zy)=>bif !false && decide ((y3.fst++lit [32,45,32]).size+ByteArray.size y4.fst≤9223372036854775807) then some (Sum.inl (y3.fst++lit [32,45,32]++y4.fst)) else none else none else (if decide (x.fst.Kind_=23)=true then (f64 x.fst.Num_).bind fun (y5:zf)=>bif !false && decide (4+y5.size≤9223372036854775807) then some (Sum.inl (lit [110,101,119,32]++y5)) else none else (if decide (x.fst.Kind_=24)=true then bif !false && decide (6+x.fst.Text_.size≤9223372036854775807) then some (Sum.inl (lit [97,114,114,97,121,32]++x.fst.Text_)) else none else (if decide (x.fst.Kind_=25)=true then (WB (bif !false && decide (x.fst.Text_.size+1≤9223372036854775807) then (f76 (0,(x.fst.Kind_,x.fst.Text_,x.fst.Num_,x.fst.At_,x.fst.Kids_),x.snd)).bind fun (y6:zy)=>bif !false && decide ((x.fst.Text_++lit [91]).size+ByteArray.size y6.fst≤9223372036854775807) then bif !false && decide ((x.fst.Text_++lit [91]++y6.fst).size+1≤9223372036854775807) then some (x.fst.Text_++lit [91]++y6.fst++lit [93]) else none else none else none) ((f76 (0,(x.fst.Kind_,x.fst.Text_,x.fst.Num_,x.fst.At_,x.fst.Kids_),x.snd)).bind fun (y7:zy)=>bif !false && decide (ByteArray.size y7.snd.fst.snd.fst+1≤9223372036854775807) then bif !false && decide ((y7.snd.fst.snd.fst++lit [91]).size+ByteArray.size y7.fst≤9223372036854775807) then bif !false && decide ((y7.snd.fst.snd.fst++lit [91]++y7.fst).size+1≤9223372036854775807) then some (y7.snd.fst.snd.fst++lit [91]++y7.fst++lit [93]) else none else none else none)).bind fun (y8:zf)=>some (Sum.inl y8) else (if decide (x.fst.Kind_=26)=true then bif !false && decide (1+x.fst.Text_.size≤9223372036854775807) then some (Sum.inl (lit [38]++x.fst.Text_)) else none else if decide (x.fst.Kind_=27)=true then bif !false && decide (5+x.fst.Text_.size≤9223372036854775807) then some (Sum.inl (lit [38,109,117,116,32]++x.fst.Text_)) else none else some (Sum.inr ((x.fst.Kind_,x.fst.Text_,x.fst.Num_,x.fst.At_,x.fst.Kids_),x.snd))).bind fun (y9:ZV)=>Sum.elim (fun (y10:zf)=>some (Sum.inl y10)) (fun (y11:ZW)=>some (Sum.inr y11)) y9).bind fun (y12:ZV)=>Sum.elim (fun (y13:zf)=>some (Sum.inl y13)) (fun (y14:ZW)=>some (Sum.inr y14)) y12).bind fun (y15:ZV)=>Sum.elim (fun (y16:zf)=>some (Sum.inl y16)) (fun (y17:ZW)=>some (Sum.inr y17)) y15).bind fun (y18:ZV)=>Sum.elim (fun (y19:zf)=>some (Sum.inl y19)) (fun (y20:ZW)=>some (Sum.inr y20)) y18).bind fun (y21:ZV)=>Sum.elim (fun (y22:zf)=>some (Sum.inl y22)) (fun (y23:ZW)=>some (Sum.inr y23)) y21).bind fun (y24:ZV)=>Sum.elim (fun (y25:zf)=>some (Sum.inl y25)) (fun (y26:ZW)=>some (Sum.inr y26)) y24).bind fun (y27:ZV)=>Sum.elim (fun (y28:zf)=>some y28) (fun (y29:ZW)=>bif !false && decide (ByteArray.size y29.fst.snd.fst+1≤9223372036854775807) then (f71 (y29.fst.snd.snd.snd.snd,lit [44,32],y29.snd)).bind fun (y30:zf)=>bif !false && decide ((y29.fst.snd.fst++lit [40]).size+y30.size≤9223372036854775807) then bif !false && decide ((y29.fst.snd.fst++lit [40]++y30).size+1≤9223372036854775807) then some (y29.fst.snd.fst++lit [40]++y30++lit [41]) else none else none else none) y27
theorem qd2 {f66 g66:q9→Option ByteArray}(h66:∀ x,Le (f66 x) (g66 x)) {f76 g76:yT→Option zy}(h76:∀ x,Le (f76 x) (g76 x)) {f64 g64:Int→Option ByteArray}(h64:∀ x,Le (f64 x) (g64 x)) {f71 g71:xS→Option ByteArray}(h71:∀ x,Le (f71 x) (g71 x)) (x):Le (q90 f66 f76 f64 f71 x) (q47 g66 g76 g64 g71 x):=by
  unfold q90 q47
  repeat (first | with_reducible exact Le.refl _ | with_reducible exact h66 _ | with_reducible exact h76 _ | with_reducible exact h64 _ | with_reducible exact h71 _ | (refine Le.lpW (fun _=>?_) _) | (with_reducible refine Le.bind ?_ (fun _=>?_)) | (with_reducible refine Le.ite ?_ ?_) | (with_reducible refine Le.gag ?_ ?_) | (with_reducible refine Le.cond ?_ ?_) | (with_reducible refine Le.elim (fun _=>?_) (fun _=>?_)))
noncomputable def q91 (h:zD):zD:=q90 qbv (q7v h) q6h (q45 h)
theorem qaz {h g:(q9×Int)→Option ByteArray}(hh:∀ x,Le (h x) (g x)) (x):Le (q91 h x) (q1o g x):=qd2 qdi (q9j hh) q7q (q4f hh) x
noncomputable def q7w (f81:zU) (x:W8):Option ByteArray:=bif !false && decide (ByteArray.size x.fst+1≤9223372036854775807) then (zt x.snd.fst.Kids_ 0).bind fun (y0:q9)=>(zt x.snd.fst.Kids_ 1).bind fun (y1:q9)=>(zt x.snd.fst.Kids_ 2).bind fun (y2:q9)=>(f81 (q9.mk y0.Kind_ y0.Text_ y0.Num_ y0.At_ y0.Kids_,x.snd.snd)).bind fun (y3:zf)=>bif !false && decide ((x.fst++lit [32]).size+y3.size≤9223372036854775807) then bif !false && decide ((x.fst++lit [32]++y3).size+1≤9223372036854775807) then bif !false && decide ((x.fst++lit [32]++y3++lit [32]).size+x.snd.fst.Text_.size≤9223372036854775807) then bif !false && decide ((x.fst++lit [32]++y3++lit [32]++x.snd.fst.Text_).size+1≤9223372036854775807) then (f81 (q9.mk y1.Kind_ y1.Text_ y1.Num_ y1.At_ y1.Kids_,x.snd.snd)).bind fun (y4:zf)=>bif !false && decide ((x.fst++lit [32]++y3++lit [32]++x.snd.fst.Text_++lit [32]).size+y4.size≤9223372036854775807) then bif !false && decide ((x.fst++lit [32]++y3++lit [32]++x.snd.fst.Text_++lit [32]++y4).size+1≤9223372036854775807) then (f81 (q9.mk y2.Kind_ y2.Text_ y2.Num_ y2.At_ y2.Kids_,x.snd.snd)).bind fun (y5:zf)=>bif !false && decide ((x.fst++lit [32]++y3++lit [32]++x.snd.fst.Text_++lit [32]++y4++lit [32]).size+y5.size≤9223372036854775807) then some (x.fst++lit [32]++y3++lit [32]++x.snd.fst.Text_++lit [32]++y4++lit [32]++y5) else none else none else none else none else none else none else none else none
theorem qcf {f81 g81:q9×Int→Option ByteArray}(h81:∀ x,Le (f81 x) (g81 x)) (x):Le (q7w f81 x) (q2v g81 x):=by
  unfold q7w q2v
  repeat (first | with_reducible exact Le.refl _ | with_reducible exact h81 _ | (refine Le.lpW (fun _=>?_) _) | (with_reducible refine Le.bind ?_ (fun _=>?_)) | (with_reducible refine Le.ite ?_ ?_) | (with_reducible refine Le.gag ?_ ?_) | (with_reducible refine Le.cond ?_ ?_) | (with_reducible refine Le.elim (fun _=>?_) (fun _=>?_)))
noncomputable def q7x (h:zD):W8→Option ByteArray:=q7w h
theorem q9k {h g:(q9×Int)→Option ByteArray}(hh:∀ x,Le (h x) (g x)) (x):Le (q7x h x) (q1w g x):=qcf hh x
noncomputable def q7y (f81:zU) (x:yT):Option zy:=(zt x.snd.fst.snd.snd.snd.snd x.fst).bind fun (y0:q9)=>(f81 (q9.mk y0.Kind_ y0.Text_ y0.Num_ y0.At_ y0.Kids_,x.snd.snd)).bind fun (y1:zf)=>some (y1,x.snd)
theorem qcg {f81 g81:q9×Int→Option ByteArray}(h81:∀ x,Le (f81 x) (g81 x)) (x):Le (q7y f81 x) (q2w g81 x):=by
  unfold q7y q2w
  repeat (first | with_reducible exact Le.refl _ | with_reducible exact h81 _ | (refine Le.lpW (fun _=>?_) _) | (with_reducible refine Le.bind ?_ (fun _=>?_)) | (with_reducible refine Le.ite ?_ ?_) | (with_reducible refine Le.gag ?_ ?_) | (with_reducible refine Le.cond ?_ ?_) | (with_reducible refine Le.elim (fun _=>?_) (fun _=>?_)))
noncomputable def q7z (h:zD):yT→Option zy:=q7y h
theorem q9l {h g:(q9×Int)→Option ByteArray}(hh:∀ x,Le (h x) (g x)) (x):Le (q7z h x) (q1g g x):=qcg hh x
noncomputable def q92 (f64:wB) (f79:zaY) (f78:zo9) (f71:wY) (x:q9×Int):Option ByteArray:=bif !false && decide (x.fst.Text_.size+1≤9223372036854775807) then (f64 x.fst.Num_).bind fun (y0:zf)=>bif !false && decide ((x.fst.Text_++lit [91]).size+y0.size≤9223372036854775807) then bif !false && decide ((x.fst.Text_++lit [91]++y0).size+2≤9223372036854775807) then (if decide (x.fst.Kind_=10)=true then (WB (bif !false && decide (x.fst.Text_.size+3≤9223372036854775807) then (f79 (0,(x.fst.Kind_,x.fst.Text_,x.fst.Num_,x.fst.At_,x.fst.Kids_),x.snd)).bind fun (y1:zy)=>bif !false && decide ((x.fst.Text_++lit [32,61,32]).size+ByteArray.size y1.fst≤9223372036854775807) then bif !false && decide ((x.fst.Text_++lit [32,61,32]++y1.fst).size+1≤9223372036854775807) then some (x.fst.Text_++lit [32,61,32]++y1.fst++lit [59]) else none else none else none) ((f79 (0,(x.fst.Kind_,x.fst.Text_,x.fst.Num_,x.fst.At_,x.fst.Kids_),x.snd)).bind fun (y2:zy)=>bif !false && decide (ByteArray.size y2.snd.fst.snd.fst+3≤9223372036854775807) then bif !false && decide ((y2.snd.fst.snd.fst++lit [32,61,32]).size+ByteArray.size y2.fst≤9223372036854775807) then bif !false && decide ((y2.snd.fst.snd.fst++lit [32,61,32]++y2.fst).size+1≤9223372036854775807) then some (y2.snd.fst.snd.fst++lit [32,61,32]++y2.fst++lit [59]) else none else none else none)).bind fun (y3:zf)=>some (Sum.inl y3) else (if decide (x.fst.Kind_=11)=true then (WB (bif !false && decide (x.fst.Text_.size+1≤9223372036854775807) then (f79 (0,(x.fst.Kind_,x.fst.Text_,x.fst.Num_,x.fst.At_,x.fst.Kids_),x.snd)).bind fun (y4:zy)=>bif !false && decide ((x.fst.Text_++lit [91]).size+ByteArray.size y4.fst≤9223372036854775807) then bif !false && decide ((x.fst.Text_++lit [91]++y4.fst).size+4≤9223372036854775807) then (f79 (1,y4.snd)).bind fun (y5:zy)=>bif !false && decide ((x.fst.Text_++lit [91]++y4.fst++lit [93,32,61,32]).size+ByteArray.size y5.fst≤9223372036854775807) then bif !false && decide ((x.fst.Text_++lit [91]++y4.fst++lit [93,32,61,32]++y5.fst).size+1≤9223372036854775807) then some (x.fst.Text_++lit [91]++y4.fst++lit [93,32,61,32]++y5.fst++lit [59]) else none else none else none else none else none) ((f79 (0,(x.fst.Kind_,x.fst.Text_,x.fst.Num_,x.fst.At_,x.fst.Kids_),x.snd)).bind fun (y6:zy)=>WB (bif !false && decide (ByteArray.size y6.snd.fst.snd.fst+1≤9223372036854775807) then bif !false && decide ((y6.snd.fst.snd.fst++lit [91]).size+ByteArray.size y6.fst≤9223372036854775807) then bif !false && decide ((y6.snd.fst.snd.fst++lit [91]++y6.fst).size+4≤9223372036854775807) then (f79 (1,y6.snd)).bind fun (y7:zy)=>bif !false && decide ((y6.snd.fst.snd.fst++lit [91]++y6.fst++lit [93,32,61,32]).size+ByteArray.size y7.fst≤9223372036854775807) then bif !false && decide ((y6.snd.fst.snd.fst++lit [91]++y6.fst++lit [93,32,61,32]++y7.fst).size+1≤9223372036854775807) then some (y6.snd.fst.snd.fst++lit [91]++y6.fst++lit [93,32,61,32]++y7.fst++lit [59]) else none else none else none else none else none) ((f79 (1,y6.snd)).bind fun (y8:zy)=>bif !false && decide (ByteArray.size y8.snd.fst.snd.fst+1≤9223372036854775807) then bif !false && decide ((y8.snd.fst.snd.fst++lit [91]).size+ByteArray.size y6.fst≤9223372036854775807) then bif !false && decide ((y8.snd.fst.snd.fst++lit [91]++y6.fst).size+4≤9223372036854775807) then bif !false && decide ((y8.snd.fst.snd.fst++lit [91]++y6.fst++lit [93,32,61,32]).size+ByteArray.size y8.fst≤9223372036854775807) then bif !false && decide ((y8.snd.fst.snd.fst++lit [91]++y6.fst++lit [93,32,61,32]++y8.fst).size+1≤9223372036854775807) then some (y8.snd.fst.snd.fst++lit [91]++y6.fst++lit [93,32,61,32]++y8.fst++lit [59]) else none else none else none else none else none))).bind fun (y9:zf)=>some (Sum.inl y9) else (if decide (x.fst.Kind_=12)=true then bif !false && decide (5+x.fst.Text_.size≤9223372036854775807) then bif !false && decide ((lit [102,114,101,101,32]++x.fst.Text_).size+1≤9223372036854775807) then some (Sum.inl (lit [102,114,101,101,32]++x.fst.Text_++lit [59])) else none else none else (if decide (x.fst.Kind_=13)=true then bif !false && decide (5+(x.fst.Text_++lit [91]++y0++lit [93,59]).size≤9223372036854775807) then some (Sum.inl (lit [108,111,99,107,32]++(x.fst.Text_++lit [91]++y0++lit [93,59]))) else none else (if decide (x.fst.Kind_=14)=true then bif !false && decide (7+(x.fst.Text_++lit [91]++y0++lit [93,59]).size≤9223372036854775807) then some (Sum.inl (lit [117,110,108,111,99,107,32]++(x.fst.Text_++lit [91]++y0++lit [93,59]))) else none else (if decide (x.fst.Kind_=15)=true then (zt x.fst.Kids_ 3).bind fun (y10:q9)=>if decide (0 < y10.Kids_.len)=true then (f78 (lit [105,102],q9.mk x.fst.Kind_ x.fst.Text_ x.fst.Num_ x.fst.At_ x.fst.Kids_,x.snd)).bind fun (y11:zf)=>bif !false && decide (y11.size+6≤9223372036854775807) then (f79 (3,(x.fst.Kind_,x.fst.Text_,x.fst.Num_,x.fst.At_,x.fst.Kids_),x.snd)).bind fun (y12:zy)=>bif !false && decide ((y11++lit [32,101,108,115,101,32]).size+ByteArray.size y12.fst≤9223372036854775807) then some (Sum.inl (y11++lit [32,101,108,115,101,32]++y12.fst)) else none else none else (f78 (lit [105,102],q9.mk x.fst.Kind_ x.fst.Text_ x.fst.Num_ x.fst.At_ x.fst.Kids_,x.snd)).bind fun (y13:zf)=>some (Sum.inl y13) else (if decide (x.fst.Kind_=16)=true then (f78 (lit [119,104,105,108,101],q9.mk x.fst.Kind_ x.fst.Text_ x.fst.Num_ x.fst.At_ x.fst.Kids_,x.snd)).bind fun (y14:zf)=>some (Sum.inl y14) else (if decide (x.fst.Kind_=17)=true then if decide (0 < x.fst.Kids_.len)=true then (f79 (0,(x.fst.Kind_,x.fst.Text_,x.fst.Num_,x.fst.At_,x.fst.Kids_),x.snd)).bind fun (y15:zy)=>bif !false && decide (7+ByteArray.size y15.fst≤9223372036854775807) then bif !false && decide ((lit [114,101,116,117,114,110,32]++y15.fst).size+1≤9223372036854775807) then some (Sum.inl (lit [114,101,116,117,114,110,32]++y15.fst++lit [59])) else none else none else some (Sum.inl (lit [114,101,116,117,114,110,59])) else (if decide (x.fst.Kind_=18)=true then some (Sum.inl (lit [97,98,111,114,116,59])) else if decide (x.fst.Kind_=19)=true then bif !false && decide (5+x.fst.Text_.size≤9223372036854775807) then bif !false && decide ((lit [102,111,114,107,32]++x.fst.Text_).size+1≤9223372036854775807) then (f71 (x.fst.Kids_,lit [44,32],x.snd)).bind fun (y16:zf)=>bif !false && decide ((lit [102,111,114,107,32]++x.fst.Text_++lit [40]).size+y16.size≤9223372036854775807) then bif !false && decide ((lit [102,111,114,107,32]++x.fst.Text_++lit [40]++y16).size+2≤9223372036854775807) then some (Sum.inl (lit [102,111,114,107,32]++x.fst.Text_++lit [40]++y16++lit [41,59])) else none else none else none else none else some (Sum.inr ((x.fst.Kind_,x.fst.Text_,x.fst.Num_,x.fst.At_,x.fst.Kids_),x.snd))).bind fun (y17:ZV)=>Sum.elim (fun (y18:zf)=>some (Sum.inl y18)) (fun (y19:ZW)=>some (Sum.inr y19)) y17).bind fun (y20:ZV)=>Sum.elim (fun (y21:zf)=>some (Sum.inl y21)) (fun (y22:ZW)=>some (Sum.inr y22)) y20).bind fun (y23:ZV)=>Sum.elim (fun (y24:zf)=>some (Sum.inl y24)) (fun (y25:ZW)=>some (Sum.inr y25)) y23).bind fun (y26:ZV)=>Sum.elim (fun (y27:zf)=>some (Sum.inl y27)) (fun (y28:ZW)=>some (Sum.inr y28)) y26).bind fun (y29:ZV)=>Sum.elim (fun (y30:zf)=>some (Sum.inl y30)) (fun (y31:ZW)=>some (Sum.inr y31)) y29).bind fun (y32:ZV)=>Sum.elim (fun (y33:zf)=>some (Sum.inl y33)) (fun (y34:ZW)=>some (Sum.inr y34)) y32).bind fun (y35:ZV)=>Sum.elim (fun (y36:zf)=>some (Sum.inl y36)) (fun (y37:ZW)=>some (Sum.inr y37)) y35).bind fun (y38:ZV)=>Sum.elim (fun (y39:zf)=>some (Sum.inl y39)) (fun (y40:ZW)=>some (Sum.inr y40)) y38).bind fun (y41:ZV)=>Sum.elim (fun (y42:zf)=>some y42) (fun (y43:ZW)=>(f79 (0,y43)).bind fun (y44:zy)=>bif !false && decide (ByteArray.size y44.fst+1≤9223372036854775807) then some (y44.fst++lit [59]) else none) y41 else none else none else none
theorem qd3 {f64 g64:Int→Option ByteArray}(h64:∀ x,Le (f64 x) (g64 x)) {f79 g79:yT→Option zy}(h79:∀ x,Le (f79 x) (g79 x)) {f78 g78:W8→Option ByteArray}(h78:∀ x,Le (f78 x) (g78 x)) {f71 g71:xS→Option ByteArray}(h71:∀ x,Le (f71 x) (g71 x)) (x):Le (q92 f64 f79 f78 f71 x) (q48 g64 g79 g78 g71 x):=by
  unfold q92 q48
  repeat (first | with_reducible exact Le.refl _ | with_reducible exact h64 _ | with_reducible exact h79 _ | with_reducible exact h78 _ | with_reducible exact h71 _ | (refine Le.lpW (fun _=>?_) _) | (with_reducible refine Le.bind ?_ (fun _=>?_)) | (with_reducible refine Le.ite ?_ ?_) | (with_reducible refine Le.gag ?_ ?_) | (with_reducible refine Le.cond ?_ ?_) | (with_reducible refine Le.elim (fun _=>?_) (fun _=>?_)))
noncomputable def q93 (h:zD):zD:=q92 q6h (q7z h) (q7x h) (q45 h)
theorem qb0 {h g:(q9×Int)→Option ByteArray}(hh:∀ x,Le (h x) (g x)) (x):Le (q93 h x) (q1p g x):=qd3 q7q (q9l hh) (q9k hh) (q4f hh) x
noncomputable def q8d (f62:VP) (f60:zH) (f80:zU) (f61:zH) (f77:zU) (f75:zaY) (f74:zU) (f73:zU) (f72:zU) (f70:zU):zdW→Option (Step zdW ByteArray):=fun (y11:zdW)=>if decide (y11.snd.snd.fst < y11.snd.fst)=true then (f75 y11.snd.snd).bind fun (y12:zy)=>bif !false && decide (ByteArray.size y12.fst+1≤9223372036854775807) then bif !false && decide (ByteArray.size y11.fst+(y12.fst++lit [10]).size≤9223372036854775807) then some (Step.next (y11.fst++(y12.fst++lit [10]),y11.snd.fst,IntKind.i64.wrap (y11.snd.snd.fst+1),y12.snd)) else none else none else some (Step.done y11.fst)
theorem qcp {f62 g62:q9→Option Bool}(h62:∀ x,Le (f62 x) (g62 x)) {f60 g60:Int→Option Bool}(h60:∀ x,Le (f60 x) (g60 x)) {f80 g80:q9×Int→Option ByteArray}(h80:∀ x,Le (f80 x) (g80 x)) {f61 g61:Int→Option Bool}(h61:∀ x,Le (f61 x) (g61 x)) {f77 g77:q9×Int→Option ByteArray}(h77:∀ x,Le (f77 x) (g77 x)) {f75 g75:yT→Option zy}(h75:∀ x,Le (f75 x) (g75 x)) {f74 g74:q9×Int→Option ByteArray}(h74:∀ x,Le (f74 x) (g74 x)) {f73 g73:q9×Int→Option ByteArray}(h73:∀ x,Le (f73 x) (g73 x)) {f72 g72:q9×Int→Option ByteArray}(h72:∀ x,Le (f72 x) (g72 x)) {f70 g70:q9×Int→Option ByteArray}(h70:∀ x,Le (f70 x) (g70 x)) (y):Le (q8d f62 f60 f80 f61 f77 f75 f74 f73 f72 f70 y) (q3d g62 g60 g80 g61 g77 g75 g74 g73 g72 g70 y):=by
  unfold q8d q3d
  repeat (first | with_reducible exact Le.refl _ | with_reducible exact h62 _ | with_reducible exact h60 _ | with_reducible exact h80 _ | with_reducible exact h61 _ | with_reducible exact h77 _ | with_reducible exact h75 _ | with_reducible exact h74 _ | with_reducible exact h73 _ | with_reducible exact h72 _ | with_reducible exact h70 _ | (refine Le.lpW (fun _=>?_) _) | (with_reducible refine Le.bind ?_ (fun _=>?_)) | (with_reducible refine Le.ite ?_ ?_) | (with_reducible refine Le.gag ?_ ?_) | (with_reducible refine Le.cond ?_ ?_) | (with_reducible refine Le.elim (fun _=>?_) (fun _=>?_)))
noncomputable def q94 (f62:VP) (f60:zH) (f80:zU) (f61:zH) (f77:zU) (f75:zaY) (f74:zU) (f73:zU) (f72:zU) (f70:zU) (x:q9×Int):Option ByteArray:=(f62 (q9.mk x.fst.Kind_ x.fst.Text_ x.fst.Num_ x.fst.At_ x.fst.Kids_)).bind fun (y0:Bool)=>(if (!y0)=true then some (Sum.inl (lit [63])) else (f60 x.fst.Kind_).bind fun (y1:Bool)=>(if y1=true then (f80 (q9.mk x.fst.Kind_ x.fst.Text_ x.fst.Num_ x.fst.At_ x.fst.Kids_,x.snd)).bind fun (y2:zf)=>some (Sum.inl y2) else (f61 x.fst.Kind_).bind fun (y3:Bool)=>if y3=true then (f77 (q9.mk x.fst.Kind_ x.fst.Text_ x.fst.Num_ x.fst.At_ x.fst.Kids_,x.snd)).bind fun (y4:zf)=>some (Sum.inl y4) else some (Sum.inr ((x.fst.Kind_,x.fst.Text_,x.fst.Num_,x.fst.At_,x.fst.Kids_),x.snd))).bind fun (y5:ZV)=>Sum.elim (fun (y6:zf)=>some (Sum.inl y6)) (fun (y7:ZW)=>some (Sum.inr y7)) y5).bind fun (y8:ZV)=>Sum.elim (fun (y9:zf)=>some y9) (fun (y10:ZW)=>(if decide (y10.fst.fst=0)=true then (lpW (q8d f62 f60 f80 f61 f77 f75 f74 f73 f72 f70) (lit [],Sl.len y10.fst.snd.snd.snd.snd,0,y10)).bind fun (y13:zf)=>some (Sum.inl y13) else (if decide (y10.fst.fst=1)=true then (f74 (q9.mk y10.fst.fst y10.fst.snd.fst y10.fst.snd.snd.fst y10.fst.snd.snd.snd.fst y10.fst.snd.snd.snd.snd,y10.snd)).bind fun (y14:zf)=>some (Sum.inl y14) else (if decide (y10.fst.fst=2)=true then if decide (0 < Sl.len y10.fst.snd.snd.snd.snd)=true then (WB (bif !false && decide (ByteArray.size y10.fst.snd.fst+1≤9223372036854775807) then (f75 (0,y10)).bind fun (y15:zy)=>bif !false && decide ((y10.fst.snd.fst++lit [32]).size+ByteArray.size y15.fst≤9223372036854775807) then some (y10.fst.snd.fst++lit [32]++y15.fst) else none else none) ((f75 (0,y10)).bind fun (y16:zy)=>bif !false && decide (ByteArray.size y16.snd.fst.snd.fst+1≤9223372036854775807) then bif !false && decide ((y16.snd.fst.snd.fst++lit [32]).size+ByteArray.size y16.fst≤9223372036854775807) then some (y16.snd.fst.snd.fst++lit [32]++y16.fst) else none else none)).bind fun (y17:zf)=>some (Sum.inl y17) else some (Sum.inr y10.fst) else (if decide (y10.fst.fst=3)=true then if decide (0 < Sl.len y10.fst.snd.snd.snd.snd)=true then (WB (bif !false && decide (ByteArray.size y10.fst.snd.fst+1≤9223372036854775807) then (f75 (0,y10)).bind fun (y18:zy)=>bif !false && decide ((y10.fst.snd.fst++lit [91]).size+ByteArray.size y18.fst≤9223372036854775807) then bif !false && decide ((y10.fst.snd.fst++lit [91]++y18.fst).size+1≤9223372036854775807) then some (y10.fst.snd.fst++lit [91]++y18.fst++lit [93]) else none else none else none) ((f75 (0,y10)).bind fun (y19:zy)=>bif !false && decide (ByteArray.size y19.snd.fst.snd.fst+1≤9223372036854775807) then bif !false && decide ((y19.snd.fst.snd.fst++lit [91]).size+ByteArray.size y19.fst≤9223372036854775807) then bif !false && decide ((y19.snd.fst.snd.fst++lit [91]++y19.fst).size+1≤9223372036854775807) then some (y19.snd.fst.snd.fst++lit [91]++y19.fst++lit [93]) else none else none else none)).bind fun (y20:zf)=>some (Sum.inl y20) else some (Sum.inr y10.fst) else (if decide (y10.fst.fst=4)=true then (WB ((f75 (0,y10)).bind fun (y21:zy)=>bif !false && decide (ByteArray.size y21.fst+1≤9223372036854775807) then WB (bif !false && decide ((y21.fst++lit [32]).size+ByteArray.size y21.snd.fst.snd.fst≤9223372036854775807) then bif !false && decide ((y21.fst++lit [32]++y21.snd.fst.snd.fst).size+1≤9223372036854775807) then (f75 (1,y21.snd)).bind fun (y22:zy)=>bif !false && decide ((y21.fst++lit [32]++y21.snd.fst.snd.fst++lit [32]).size+ByteArray.size y22.fst≤9223372036854775807) then some (y21.fst++lit [32]++y21.snd.fst.snd.fst++lit [32]++y22.fst) else none else none else none) ((f75 (1,y21.snd)).bind fun (y23:zy)=>bif !false && decide ((y21.fst++lit [32]).size+ByteArray.size y23.snd.fst.snd.fst≤9223372036854775807) then bif !false && decide ((y21.fst++lit [32]++y23.snd.fst.snd.fst).size+1≤9223372036854775807) then bif !false && decide ((y21.fst++lit [32]++y23.snd.fst.snd.fst++lit [32]).size+ByteArray.size y23.fst≤9223372036854775807) then some (y21.fst++lit [32]++y23.snd.fst.snd.fst++lit [32]++y23.fst) else none else none else none) else none) ((f75 (0,y10)).bind fun (y24:zy)=>bif !false && decide (ByteArray.size y24.fst+1≤9223372036854775807) then bif !false && decide ((y24.fst++lit [32]).size+ByteArray.size y10.fst.snd.fst≤9223372036854775807) then bif !false && decide ((y24.fst++lit [32]++y10.fst.snd.fst).size+1≤9223372036854775807) then (f75 (1,y24.snd)).bind fun (y25:zy)=>bif !false && decide ((y24.fst++lit [32]++y10.fst.snd.fst++lit [32]).size+ByteArray.size y25.fst≤9223372036854775807) then some (y24.fst++lit [32]++y10.fst.snd.fst++lit [32]++y25.fst) else none else none else none else none)).bind fun (y26:zf)=>some (Sum.inl y26) else (if decide (y10.fst.fst=6)=true then (f73 (q9.mk y10.fst.fst y10.fst.snd.fst y10.fst.snd.snd.fst y10.fst.snd.snd.snd.fst y10.fst.snd.snd.snd.snd,y10.snd)).bind fun (y27:zf)=>some (Sum.inl y27) else (if decide (y10.fst.fst=7)=true then (WB (bif !false && decide (ByteArray.size y10.fst.snd.fst+2≤9223372036854775807) then (f75 (0,y10)).bind fun (y28:zy)=>bif !false && decide ((y10.fst.snd.fst++lit [58,32]).size+ByteArray.size y28.fst≤9223372036854775807) then some (y10.fst.snd.fst++lit [58,32]++y28.fst) else none else none) ((f75 (0,y10)).bind fun (y29:zy)=>bif !false && decide (ByteArray.size y29.snd.fst.snd.fst+2≤9223372036854775807) then bif !false && decide ((y29.snd.fst.snd.fst++lit [58,32]).size+ByteArray.size y29.fst≤9223372036854775807) then some (y29.snd.fst.snd.fst++lit [58,32]++y29.fst) else none else none)).bind fun (y30:zf)=>some (Sum.inl y30) else (if decide (y10.fst.fst=8)=true then (f72 (q9.mk y10.fst.fst y10.fst.snd.fst y10.fst.snd.snd.fst y10.fst.snd.snd.snd.fst y10.fst.snd.snd.snd.snd,y10.snd)).bind fun (y31:zf)=>some (Sum.inl y31) else if decide (y10.fst.fst=9)=true then (f70 (q9.mk y10.fst.fst y10.fst.snd.fst y10.fst.snd.snd.fst y10.fst.snd.snd.snd.fst y10.fst.snd.snd.snd.snd,y10.snd)).bind fun (y32:zf)=>some (Sum.inl y32) else some (Sum.inr y10.fst)).bind fun (y33:Yr)=>Sum.elim (fun (y34:zf)=>some (Sum.inl y34)) (fun (y35:yU)=>some (Sum.inr y35)) y33).bind fun (y36:Yr)=>Sum.elim (fun (y37:zf)=>some (Sum.inl y37)) (fun (y38:yU)=>some (Sum.inr y38)) y36).bind fun (y39:Yr)=>Sum.elim (fun (y40:zf)=>some (Sum.inl y40)) (fun (y41:yU)=>some (Sum.inr y41)) y39).bind fun (y42:Yr)=>Sum.elim (fun (y43:zf)=>some (Sum.inl y43)) (fun (y44:yU)=>some (Sum.inr y44)) y42).bind fun (y45:Yr)=>Sum.elim (fun (y46:zf)=>some (Sum.inl y46)) (fun (y47:yU)=>some (Sum.inr y47)) y45).bind fun (y48:Yr)=>Sum.elim (fun (y49:zf)=>some (Sum.inl y49)) (fun (y50:yU)=>some (Sum.inr y50)) y48).bind fun (y51:Yr)=>Sum.elim (fun (y52:zf)=>some (Sum.inl y52)) (fun (y53:yU)=>some (Sum.inr y53)) y51).bind fun (y54:Yr)=>Sum.elim (fun (y55:zf)=>some y55) (fun (y56:yU)=>some y56.snd.fst) y54) y8
theorem qd4 {f62 g62:q9→Option Bool}(h62:∀ x,Le (f62 x) (g62 x)) {f60 g60:Int→Option Bool}(h60:∀ x,Le (f60 x) (g60 x)) {f80 g80:q9×Int→Option ByteArray}(h80:∀ x,Le (f80 x) (g80 x)) {f61 g61:Int→Option Bool}(h61:∀ x,Le (f61 x) (g61 x)) {f77 g77:q9×Int→Option ByteArray}(h77:∀ x,Le (f77 x) (g77 x)) {f75 g75:yT→Option zy}(h75:∀ x,Le (f75 x) (g75 x)) {f74 g74:q9×Int→Option ByteArray}(h74:∀ x,Le (f74 x) (g74 x)) {f73 g73:q9×Int→Option ByteArray}(h73:∀ x,Le (f73 x) (g73 x)) {f72 g72:q9×Int→Option ByteArray}(h72:∀ x,Le (f72 x) (g72 x)) {f70 g70:q9×Int→Option ByteArray}(h70:∀ x,Le (f70 x) (g70 x)) (x):Le (q94 f62 f60 f80 f61 f77 f75 f74 f73 f72 f70 x) (q49 g62 g60 g80 g61 g77 g75 g74 g73 g72 g70 x):=by
  unfold q94 q49
  repeat (first | with_reducible exact Le.refl _ | with_reducible exact h62 _ | with_reducible exact h60 _ | with_reducible exact h80 _ | with_reducible exact h61 _ | with_reducible exact h77 _ | with_reducible exact h75 _ | with_reducible exact h74 _ | with_reducible exact h73 _ | with_reducible exact h72 _ | with_reducible exact h70 _ | (refine qcp ?_ ?_ ?_ ?_ ?_ ?_ ?_ ?_ ?_ ?_ _ <;> assumption) | (refine Le.lpW (fun _=>?_) _) | (with_reducible refine Le.bind ?_ (fun _=>?_)) | (with_reducible refine Le.ite ?_ ?_) | (with_reducible refine Le.gag ?_ ?_) | (with_reducible refine Le.cond ?_ ?_) | (with_reducible refine Le.elim (fun _=>?_) (fun _=>?_)))
noncomputable def qbg (h:zD):zD:=q94 qca q6k (q93 h) q62 (q91 h) (q7t h) (q9q h) (qal h) (q8y h) (q8b h)
theorem qd5 {h g:(q9×Int)→Option ByteArray}(hh:∀ x,Le (h x) (g x)) (x):Le (qbg h x) (q4a g x):=qd4 qdt q8h (qb0 hh) q81 (qaz hh) (q9i hh) (qbf hh) (qbw hh) (qay hh) (qa1 hh) x
noncomputable def q15:Nat→(q9×Int)→Option ByteArray
  |0=>fun _=>none
  |k+1=>qbg (q15 k)
theorem q13:∀ j k,j≤k→∀ x,Le (q15 j x) (ql k x)
  |0,k,_=>fun x a h=>by cases h
  |j+1,0,h=>by omega
  |j+1,k+1,h=>qd5 (q13 j k (by omega))
noncomputable def qc1:zD:=q15 200
theorem qdl (x):Le (qc1 x) (q80 x):=q13 200 100000 (by omega) x
noncomputable def q95 (f81:zU) (x:q9):Option ByteArray:=(f81 (q9.mk x.Kind_ x.Text_ x.Num_ x.At_ x.Kids_,0)).bind fun (y0:zf)=>some y0
theorem qda {f81 g81:q9×Int→Option ByteArray}(h81:∀ x,Le (f81 x) (g81 x)) (x):Le (q95 f81 x) (q77 g81 x):=by
  unfold q95 q77
  repeat (first | with_reducible exact Le.refl _ | with_reducible exact h81 _ | (refine Le.lpW (fun _=>?_) _) | (with_reducible refine Le.bind ?_ (fun _=>?_)) | (with_reducible refine Le.ite ?_ ?_) | (with_reducible refine Le.gag ?_ ?_) | (with_reducible refine Le.cond ?_ ?_) | (with_reducible refine Le.elim (fun _=>?_) (fun _=>?_)))
noncomputable def qc2:xq:=q95 qc1
theorem qdm (x):Le (qc2 x) (q23 x):=qda qdl x
noncomputable def q4q (f56:za2) (f2:zd0) (f82:xq) (x:Unit):Option Bool:=(f56 (lit [102,110,32,102,40,41,123,120,61,45,49,59,125])).bind fun (y0:wE)=>(f2 (lit [97,10,98,99],3)).bind fun (y1:yh)=>(if decide (y0.snd.snd=0)=true then (f82 (q9.mk y0.fst.Kind_ y0.fst.Text_ y0.fst.Num_ y0.fst.At_ y0.fst.Kids_)).bind fun (y2:zf)=>if decide (y2=lit [102,110,32,102,40,41,32,123,10,32,32,32,32,120,32,61,32,45,49,59,10,125,10])=true then if decide (y1.fst=2)=true then some (decide (y1.snd=2)) else some false else some false else some false).bind fun (y3:Bool)=>some y3
theorem q9c {f56 g56:zf→Option wE}(h56:∀ x,Le (f56 x) (g56 x)) {f2 g2:Zx→Option yh}(h2:∀ x,Le (f2 x) (g2 x)) {f82 g82:q9→Option ByteArray}(h82:∀ x,Le (f82 x) (g82 x)) (x):Le (q4q f56 f2 f82 x) (q2z g56 g2 g82 x):=by
  unfold q4q q2z
  repeat (first | with_reducible exact Le.refl _ | with_reducible exact h56 _ | with_reducible exact h2 _ | with_reducible exact h82 _ | (refine Le.lpW (fun _=>?_) _) | (with_reducible refine Le.bind ?_ (fun _=>?_)) | (with_reducible refine Le.ite ?_ ?_) | (with_reducible refine Le.gag ?_ ?_) | (with_reducible refine Le.cond ?_ ?_) | (with_reducible refine Le.elim (fun _=>?_) (fun _=>?_)))
noncomputable def qa2:wC:=q4q (fun s=>some (yH s)) qbt qc2
theorem q9r (x):Le (qa2 x) (qh x):=q9c (le_of_eq wh) qdf qdm x
end Go.Px
namespace Go.Px
set_option linter.unusedVariables false
set_option linter.unusedSimpArgs false
def ziQ:List UInt8→Nat
  |[]=>1
  |b::l=>if b=10 then 1 else ziQ l+1
theorem zhj:∀ l:List UInt8,ziQ l≤l.length+1
  |[]=>Nat.le_refl _
  |b::l=>by
    unfold ziQ
    have:=zhj l
    split
    · simp
    · simp only [List.length_cons];omega
def X1 (l:List UInt8) (k:Nat):Nat:=ziQ (l.take k).reverse
def X2 (l:List UInt8) (k:Nat):Nat:=(l.take k).count 10+1
theorem zcZ {l:List UInt8}{k:Nat}{c:UInt8}(h:l[k]?=some c):l.take (k+1)=l.take k++[c]:=by
  rw [List.take_add_one,h];rfl
theorem zaK {l:List UInt8}{k:Nat}{c:UInt8}(h:l[k]?=some c):X1 l (k+1)=if c=10 then 1 else X1 l k+1:=by
  unfold X1
  rw [zcZ h,List.reverse_append]
  rfl
theorem zet {l:List UInt8}{k:Nat}{c:UInt8}(h:l[k]?=some c):X2 l (k+1)=if c=10 then X2 l k+1 else X2 l k:=by
  unfold X2
  rw [zcZ h,List.count_append,List.count_singleton]
  by_cases hc:c=10
  · subst hc;simp
  · rw [if_neg hc];simp [hc]
theorem zdJ (l:List UInt8) (k:Nat) (h:k≤l.length):X2 l k≤l.length+1:=by
  unfold X2
  have h1:=List.count_le_length (a:=(10:UInt8)) (l:=l.take k)
  rw [List.length_take] at h1
  omega
theorem zdK (l:List UInt8) (k:Nat) (h:k≤l.length):X1 l k≤l.length+1:=by
  unfold X1
  have h1:=zhj (l.take k).reverse
  rw [List.length_reverse,List.length_take] at h1
  omega
theorem Wk (c:UInt8):((c.toNat:Int)=10)↔c=10:=by
  constructor
  · intro h
    apply UInt8.toNat_inj.1
    show c.toNat=10
    omega
  · intro h;subst h;rfl
theorem zno {s:ByteArray}{k:Nat}{c:UInt8}(h:(bs s)[k]?=some c):s.data[k]! = c:=by
  have h:s.data.toList[k]?=some c:=h
  rw [Array.getElem!_eq_getD,Array.getD_eq_getD_getElem?]
  rw [Array.getElem?_toList] at h
  rw [h];rfl
theorem zbJ (s:zf):∀ k:Nat,k≤s.size→(k:Int) - Lib.lastIdx s 10 k=(X1 (bs s) k:Nat)
  |0,_=>by
    show (0:Int) - (-1)=((1:Nat):Int)
    rfl
  |k+1,h=>by
    have hl:k < (bs s).length:=by rw [Zu];omega
    have hc:(bs s)[k]?=some (bs s)[k]:=List.getElem?_eq_getElem hl
    rw [zaK hc]
    unfold Lib.lastIdx
    rw [zno hc]
    have ih:=zbJ s k (by omega)
    by_cases h10:(bs s)[k]=10
    · rw [if_pos ((Wk _).2 h10),if_pos h10];simp;omega
    · rw [if_neg (fun e=>h10 ((Wk _).1 e)),if_neg h10];simp;omega
theorem zlE {s:ByteArray}{k:Nat}(h:k≤s.size):bs (s.extract 0 k)=(bs s).take k:=by
  rw [XZ];rfl
theorem zkk {s:ByteArray}{k:Nat}(h:k≤s.size):(s.extract 0 k).size=k:=by
  rw [← Zu,zlE h,List.length_take,Zu];omega
theorem WG {s:ByteArray}{k:Nat}(hs:s.size < 4611686018427387904) (h:k≤s.size) :
    qy (s,(k:Int))=some (((X2 (bs s) k:Nat):Int),((X1 (bs s) k:Nat):Int)):=by
  unfold qy q4x
  have e1:¬ ((k:Int) < 0):=by omega
  have e2:¬ ((s.size:Int) < (k:Int)):=by omega
  have hz:=zkk h
  have hc:q5h (s.extract 0 k,lit [10])=some ((((bs s).take k).count 10:Nat):Int):=by
    show some ((Lib.countByte (bs (s.extract 0 k)) 10:Nat):Int)=_
    rw [zlE h];rfl
  have hl:q2p (s.extract 0 k,10)=some (Lib.lastIndexByte (s.extract 0 k) 10):=by
    show yi _=_
    unfold yi
    rw [if_pos (by show (s.extract 0 k).size < _;rw [hz];omega)]
  have hcol:(k:Int) - Lib.lastIndexByte (s.extract 0 k) 10=(X1 (bs s) k:Nat):=by
    have h1:=zbJ (s.extract 0 k) k (by rw [hz];exact Nat.le_refl _)
    unfold Lib.lastIndexByte
    rw [hz,h1,zlE h]
    unfold X1
    rw [List.take_take,Nat.min_self]
  have hb1:=zdJ (bs s) k (by rw [Zu];exact h)
  have hb2:=zdK (bs s) k (by rw [Zu];exact h)
  rw [Zu] at hb1 hb2
  have hsl:Zl s 0 (k:Int)=some (s.extract 0 k):=Xf (i:=0) (Nat.zero_le _) h
  simp only [decide_eq_true_eq,if_neg e1,if_neg e2,Option.bind_some,hsl,hc,hl]
  rw [hcol]
  have hw:IntKind.i64.wrap ((((bs s).take k).count 10:Nat)+1:Int)=((X2 (bs s) k:Nat):Int):=yj (by unfold X2 at hb1;omega)
  rw [hw,zls (by omega)]
theorem zaL {s:ByteArray}(hs:s.size < 4611686018427387904) {k:Nat}(h:k≤s.size):∀ (n i:Nat),n+i=k→
    lpO q29 (s,(k:Int),((X2 (bs s) i:Nat):Int),((X1 (bs s) i:Nat):Int),(i:Int))=some (((X2 (bs s) k:Nat):Int),((X1 (bs s) k:Nat):Int))
  |0,i,hi=>by
    have hi:i=k:=by omega
    subst hi
    rw [zQ]
    unfold q29
    simp
  |n+1,i,hi=>by
    have hl:i < (bs s).length:=by rw [Zu];omega
    have hc:(bs s)[i]?=some (bs s)[i]:=List.getElem?_eq_getElem hl
    have ih:=zaL hs h n (i+1) (by omega)
    rw [zet hc,zaK hc] at ih
    have hb1:=zdJ (bs s) i (by omega)
    have hb2:=zdK (bs s) i (by omega)
    rw [Zu] at hb1 hb2
    rw [zQ]
    unfold q29
    dsimp only
    rw [if_pos (by simp;omega),Yz hc]
    rw [Option.bind_some]
    by_cases h10:(bs s)[i]=10
    · rw [if_pos h10,if_pos h10] at ih
      rw [if_pos (by simpa using (Wk _).2 h10)]
      dsimp only [Option.bind_some]
      rw [yj (by omega),yj (by omega)]
      exact ih
    · rw [if_neg h10,if_neg h10] at ih
      rw [if_neg (by simpa using fun e=>h10 ((Wk _).1 e))]
      dsimp only [Option.bind_some]
      rw [yj (by omega),yj (by omega)]
      exact ih
theorem ziR {s:ByteArray}{k:Nat}(hs:s.size < 4611686018427387904) (h:k≤s.size) :
    q16 (s,(k:Int))=some (((X2 (bs s) k:Nat):Int),((X1 (bs s) k:Nat):Int)):=by
  unfold q16 q3j
  have e1:¬ ((k:Int) < 0):=by omega
  have e2:¬ ((s.size:Int) < (k:Int)):=by omega
  have hlp:=zaL hs h k 0 (by omega)
  have h0:((X2 (bs s) 0:Nat):Int)=1:=rfl
  have h1:((X1 (bs s) 0:Nat):Int)=1:=rfl
  rw [h0,h1] at hlp
  simp only [decide_eq_true_eq,if_neg e1,if_neg e2,Option.bind_some]
  have hlp:lpO q29 (s,(k:Int),1,1,0)=_:=hlp
  rw [hlp];rfl
theorem zlF {s:ByteArray}{k:Int}(h:k < 0∨(s.size:Int) < k):qy (s,k)=some (0,0)∧q16 (s,k)=some (0,0):=by
  unfold qy q4x q16 q3j
  by_cases e1:k < 0
  · simp [e1]
  · have e2:(s.size:Int) < k:=by omega
    simp [e1,e2]
theorem zkl {s:ByteArray}(hs:s.size < 4611686018427387904) (k:Int):∃ a b,qy (s,k)=some (a,b)∧q16 (s,k)=some (a,b):=by
  by_cases h:k < 0∨(s.size:Int) < k
  · exact ⟨0,0,zlF h⟩
  · obtain ⟨n,rfl⟩:=Int.eq_ofNat_of_zero_le (show 0≤k by omega)
    have h:n≤s.size:=by omega
    exact ⟨_,_,WG hs h,ziR hs h⟩
theorem zpX {w:Unit→Option Bool}(hw:w ()=some true) {s:ByteArray}(hs:s.size < 4611686018427387904) (k:Int) :
    q25 qy q16 w (s,k)=some true:=by
  obtain ⟨a,b,h1,h2⟩:=zkl hs k
  unfold q25
  rw [h1,h2,hw]
  simp
theorem zaM {s:ByteArray}(hs:s.size < 4611686018427387904) {w:Unit→Option Bool}{k:Nat}(h:k≤s.size):∀ (n i:Nat),n+i=k→
    lpO (qw w qy) (s,((X2 (bs s) i:Nat):Int),((X1 (bs s) i:Nat):Int),(k:Int),(i:Int))=some (.inr ())
  |0,i,hi=>by
    have hi:i=k:=by omega
    subst hi
    rw [zQ]
    unfold qw
    simp
  |n+1,i,hi=>by
    have hl:i < (bs s).length:=by rw [Zu];omega
    obtain ⟨c,hc⟩:∃ c,(bs s)[i]?=some c:=⟨_,List.getElem?_eq_getElem hl⟩
    have hwi:IntKind.i64.wrap ((i:Int)+1)=(i:Int)+1:=by rw [yj (by omega)];simp
    have ih:=zaM hs (w:=w) h n (i+1) (by omega)
    have hb1:=zdJ (bs s) i (by omega)
    have hb2:=zdK (bs s) i (by omega)
    rw [Zu] at hb1 hb2
    have hL:=WG (k:=i+1) hs (by omega)
    rw [zet hc,zaK hc] at hL ih
    rw [zQ]
    generalize hG:lpO (qw w qy)=G at ih ⊢
    unfold qw
    dsimp only
    rw [if_pos (by simp;omega),yj (by omega),hL]
    rw [Option.bind_some,Yz hc]
    simp only [Option.bind_some]
    by_cases h10:c=10
    · rw [if_pos h10,if_pos h10] at ih
      simp only [if_pos h10,(Wk _).2 h10]
      rw [yj (by omega),yj (by omega)]
      simpa [hwi] using ih
    · rw [if_neg h10,if_neg h10] at ih
      have h10':¬ ((c.toNat:Int)=10):=fun e=>h10 ((Wk _).1 e)
      simp only [if_neg h10]
      rw [yj (by omega),yj (by omega)]
      simpa [h10',hwi] using ih
theorem zqs {w:Unit→Option Bool}(hw:w ()=some true) {s:ByteArray}(hs:s.size < 4611686018427387904) :
    q2d w qy s=some true:=by
  have h0:=WG (s:=s) (k:=0) hs (Nat.zero_le _)
  have e0:qy (s,0)=some (1,1):=h0
  unfold q2d
  rw [hw,e0]
  by_cases h5:500 < (s.size:Int)
  · have hlp:=zaM hs (w:=w) (k:=500) (by omega) 500 0 (by omega)
    have hlp:lpO (qw w qy) (s,1,1,500,0)=some (.inr ()):=hlp
    simp [h5,hlp]
  · have hlp:=zaM hs (w:=w) (k:=s.size) (Nat.le_refl _) s.size 0 (by omega)
    have hlp:lpO (qw w qy) (s,1,1,(s.size:Int),0)=some (.inr ()):=hlp
    simp [h5,hlp]
end Go.Px
namespace Go.Px
theorem zlG:qh ()=some true:=q9r _ _ (by kernel_rfl)
end Go.Px
