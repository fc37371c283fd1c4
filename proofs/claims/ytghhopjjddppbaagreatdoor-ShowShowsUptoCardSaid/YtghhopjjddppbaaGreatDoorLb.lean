/- Part Lb: PxW03 Px03A Px03L. -/
import Derived.Test.YtghhopjjddppbaaGreatDoorLa
import Derived.Test.YtghhopjjddppbaaGreatDoorSh
namespace Go.Px
open Go.Proofs
set_option linter.unusedVariables false
set_option maxRecDepth 100000
set_option maxHeartbeats 4000000
noncomputable def q8v (f0:zmT) (f1:XN) (x:Zt):Option ZT:=(if decide (x.snd < 0)=true then some (x.fst,x.snd,true) else some (x.fst,x.snd,decide ((↑(ByteArray.size x.fst):Int) < x.snd))).bind fun (y0:zaD)=>if y0.snd.snd=true then some (0,0) else (z8 y0.fst 0 y0.snd.fst).bind fun (y1:ze)=>(z8 y0.fst 0 y0.snd.fst).bind fun (y2:ze)=>(f0 (y1,lit [10])).bind fun (y3:Int)=>(f1 (y2,10)).bind fun (y4:Int)=>some (IntKind.i64.wrap (y3+1),IntKind.i64.wrap (y0.snd.fst - y4))
theorem qcv {f0 g0:Wi→Option Int}(h0:∀ x,Le (f0 x) (g0 x)) {f1 g1:Zt→Option Int}(h1:∀ x,Le (f1 x) (g1 x)) (x):Le (q8v f0 f1 x) (q52 g0 g1 x):=by
  unfold q8v q52
  repeat (first | with_reducible exact Le.refl _ | with_reducible exact h0 _ | with_reducible exact h1 _ | (refine Le.lpW (fun _=>?_) _) | (with_reducible refine Le.bind ?_ (fun _=>?_)) | (with_reducible refine Le.ite ?_ ?_) | (with_reducible refine Le.gag ?_ ?_) | (with_reducible refine Le.cond ?_ ?_) | (with_reducible refine Le.elim (fun _=>?_) (fun _=>?_)))
noncomputable def qbt:Zt→Option ZT:=q8v q5q q2u
theorem qdf (x):Le (qbt x) (q14 x):=qcv (fun x=>Le.refl _) (fun x=>Le.refl _) x
noncomputable def q6r (x:Int):Option yt:=(if decide (x=4)=true then some (x,decide (x=4)) else (if decide (x=11)=true then some (x,decide (x=11)) else (if decide (x=21)=true then some (x,decide (x=21)) else some (x,decide (x=22))).bind fun (y0:YQ)=>some y0).bind fun (y1:YQ)=>some y1).bind fun (y2:YQ)=>(if y2.snd=true then some (Sum.inl (true,Sl.mk [5,5] true)) else (if decide (y2.fst=7)=true then some (Sum.inl (true,Sl.mk [8] true)) else (if decide (y2.fst=15)=true then some (Sum.inl (true,Sl.mk [5,5,9,9] true)) else (if decide (y2.fst=16)=true then some (Sum.inl (true,Sl.mk [5,5,9] true)) else (if decide (y2.fst=20)=true then some (Sum.inl (true,Sl.mk [28] true)) else (if decide (y2.fst=25)=true then some (Sum.inl (true,Sl.mk [5] true)) else (if decide (y2.fst=5)=true then some (decide (y2.fst=5)) else (if decide (y2.fst=12)=true then some (decide (y2.fst=12)) else (if decide (y2.fst=13)=true then some (decide (y2.fst=13)) else (if decide (y2.fst=14)=true then some (decide (y2.fst=14)) else (if decide (y2.fst=18)=true then some (decide (y2.fst=18)) else (if decide (y2.fst=23)=true then some (decide (y2.fst=23)) else (if decide (y2.fst=24)=true then some (decide (y2.fst=24)) else (if decide (y2.fst=26)=true then some (decide (y2.fst=26)) else some (decide (y2.fst=27))).bind fun (y3:Bool)=>some y3).bind fun (y4:Bool)=>some y4).bind fun (y5:Bool)=>some y5).bind fun (y6:Bool)=>some y6).bind fun (y7:Bool)=>some y7).bind fun (y8:Bool)=>some y8).bind fun (y9:Bool)=>some y9).bind fun (y10:Bool)=>if y10=true then some (Sum.inl (true,Sl.mk [] false)) else some (Sum.inr ())).bind fun (y11:xJ)=>Sum.elim (fun (y12:yt)=>some (Sum.inl y12)) (fun (y13:Unit)=>some (Sum.inr ())) y11).bind fun (y14:xJ)=>Sum.elim (fun (y15:yt)=>some (Sum.inl y15)) (fun (y16:Unit)=>some (Sum.inr ())) y14).bind fun (y17:xJ)=>Sum.elim (fun (y18:yt)=>some (Sum.inl y18)) (fun (y19:Unit)=>some (Sum.inr ())) y17).bind fun (y20:xJ)=>Sum.elim (fun (y21:yt)=>some (Sum.inl y21)) (fun (y22:Unit)=>some (Sum.inr ())) y20).bind fun (y23:xJ)=>Sum.elim (fun (y24:yt)=>some (Sum.inl y24)) (fun (y25:Unit)=>some (Sum.inr ())) y23).bind fun (y26:xJ)=>Sum.elim (fun (y27:yt)=>some y27) (fun (y28:Unit)=>some (false,Sl.mk [] false)) y26
theorem qbp (x):Le (q6r x) (q45 x):=by
  unfold q6r q45
  repeat (first | with_reducible exact Le.refl _ | (refine Le.lpW (fun _=>?_) _) | (with_reducible refine Le.bind ?_ (fun _=>?_)) | (with_reducible refine Le.ite ?_ ?_) | (with_reducible refine Le.gag ?_ ?_) | (with_reducible refine Le.cond ?_ ?_) | (with_reducible refine Le.elim (fun _=>?_) (fun _=>?_)))
noncomputable def q9m:xH:=q6r
theorem qc5 (x):Le (q9m x) (q2k x):=qbp x
noncomputable def q6s:zaA→Option (Step zaA zL):=fun (y0:zaA)=>if decide (y0.snd.snd.snd < y0.snd.snd.fst)=true then (zk y0.snd.fst y0.snd.snd.snd).bind fun (y1:q9)=>(zk y0.fst y0.snd.snd.snd).bind fun (y2:Int)=>if decide (y1.Kind_≠y2)=true then some (Step.done (Sum.inl false)) else some (Step.next (y0.fst,y0.snd.fst,y0.snd.snd.fst,IntKind.i64.wrap (y0.snd.snd.snd+1))) else some (Step.done (Sum.inr ()))
theorem qbq (y):Le (q6s y) (q2l y):=by
  unfold q6s q2l
  repeat (first | with_reducible exact Le.refl _ | (refine Le.lpW (fun _=>?_) _) | (with_reducible refine Le.bind ?_ (fun _=>?_)) | (with_reducible refine Le.ite ?_ ?_) | (with_reducible refine Le.gag ?_ ?_) | (with_reducible refine Le.cond ?_ ?_) | (with_reducible refine Le.elim (fun _=>?_) (fun _=>?_)))
noncomputable def q7e (x:XP):Option Bool:=if decide (Sl.len x.fst≠Sl.len x.snd)=true then some false else (lpW q6s (x.snd,x.fst,Sl.len x.fst,0)).bind fun (y3:zL)=>Sum.elim (fun (y4:Bool)=>some y4) (fun (y5:Unit)=>some true) y3
theorem qc6 (x):Le (q7e x) (q4l x):=by
  unfold q7e q4l
  repeat (first | with_reducible exact Le.refl _ | (refine qbq _ <;> assumption) | (refine Le.lpW (fun _=>?_) _) | (with_reducible refine Le.bind ?_ (fun _=>?_)) | (with_reducible refine Le.ite ?_ ?_) | (with_reducible refine Le.gag ?_ ?_) | (with_reducible refine Le.cond ?_ ?_) | (with_reducible refine Le.elim (fun _=>?_) (fun _=>?_)))
noncomputable def qa5:XP→Option Bool:=q7e
theorem qc9 (x):Le (qa5 x) (q30 x):=qc6 x
noncomputable def q8a:wg→Option (Step wg zL):=fun (y0:wg)=>if decide (y0.snd.snd.snd < y0.snd.snd.fst)=true then (zk y0.snd.fst y0.snd.snd.snd).bind fun (y1:q9)=>if decide (y1.Kind_≠y0.fst)=true then some (Step.done (Sum.inl false)) else some (Step.next (y0.fst,y0.snd.fst,y0.snd.snd.fst,IntKind.i64.wrap (y0.snd.snd.snd+1))) else some (Step.done (Sum.inr ()))
theorem qcm (y):Le (q8a y) (q46 y):=by
  unfold q8a q46
  repeat (first | with_reducible exact Le.refl _ | (refine Le.lpW (fun _=>?_) _) | (with_reducible refine Le.bind ?_ (fun _=>?_)) | (with_reducible refine Le.ite ?_ ?_) | (with_reducible refine Le.gag ?_ ?_) | (with_reducible refine Le.cond ?_ ?_) | (with_reducible refine Le.elim (fun _=>?_) (fun _=>?_)))
noncomputable def q8w (x:XQ):Option Bool:=(lpW q8a (x.snd,x.fst,Sl.len x.fst,0)).bind fun (y2:zL)=>Sum.elim (fun (y3:Bool)=>some y3) (fun (y4:Unit)=>some true) y2
theorem qcw (x):Le (q8w x) (q5x x):=by
  unfold q8w q5x
  repeat (first | with_reducible exact Le.refl _ | (refine qcm _ <;> assumption) | (refine Le.lpW (fun _=>?_) _) | (with_reducible refine Le.bind ?_ (fun _=>?_)) | (with_reducible refine Le.ite ?_ ?_) | (with_reducible refine Le.gag ?_ ?_) | (with_reducible refine Le.cond ?_ ?_) | (with_reducible refine Le.elim (fun _=>?_) (fun _=>?_)))
noncomputable def qbu:XQ→Option Bool:=q8w
theorem qdg (x):Le (qbu x) (q4p x):=qcw x
noncomputable def q6b (x:Int):Option Bool:=(if decide (10≤x)=true then some (decide (x≤20)) else some false).bind fun (y0:Bool)=>some y0
theorem qbe (x):Le (q6b x) (q3z x):=by
  unfold q6b q3z
  repeat (first | with_reducible exact Le.refl _ | (refine Le.lpW (fun _=>?_) _) | (with_reducible refine Le.bind ?_ (fun _=>?_)) | (with_reducible refine Le.ite ?_ ?_) | (with_reducible refine Le.gag ?_ ?_) | (with_reducible refine Le.cond ?_ ?_) | (with_reducible refine Le.elim (fun _=>?_) (fun _=>?_)))
noncomputable def q6t:zG:=q6b
theorem q8l (x):Le (q6t x) (qx x):=qbe x
noncomputable def q5y (x:Int):Option Bool:=(if decide (x=5)=true then some true else if decide (21≤x)=true then some (decide (x≤28)) else some false).bind fun (y0:Bool)=>some y0
theorem qb6 (x):Le (q5y x) (q3h x):=by
  unfold q5y q3h
  repeat (first | with_reducible exact Le.refl _ | (refine Le.lpW (fun _=>?_) _) | (with_reducible refine Le.bind ?_ (fun _=>?_)) | (with_reducible refine Le.ite ?_ ?_) | (with_reducible refine Le.gag ?_ ?_) | (with_reducible refine Le.cond ?_ ?_) | (with_reducible refine Le.elim (fun _=>?_) (fun _=>?_)))
noncomputable def q6c:zG:=q5y
theorem q84 (x):Le (q6c x) (q11 x):=qb6 x
noncomputable def q8x (f57:xH) (f58:Wg) (f59:Wh) (f60:zG) (f61:zG):xK→Option (Step xK zL):=fun (y2:xK)=>if decide (y2.snd.snd < y2.snd.fst)=true then (zk y2.fst y2.snd.snd).bind fun (y3:q9)=>(if decide (y3.Kind_≠1)=true then some (y2.fst,y2.snd.fst,y2.snd.snd,decide (y3.Kind_≠6)) else some (y2.fst,y2.snd.fst,y2.snd.snd,false)).bind fun (y4:Sl q9×Int×Int×Bool)=>if y4.snd.snd.snd=true then some (Step.done (Sum.inl false)) else some (Step.next (y4.fst,y4.snd.fst,IntKind.i64.wrap (y4.snd.snd.fst+1))) else some (Step.done (Sum.inr ()))
theorem q8b {f57 g57:Int→Option yt}(h57:∀ x,Le (f57 x) (g57 x)) {f58 g58:XP→Option Bool}(h58:∀ x,Le (f58 x) (g58 x)) {f59 g59:XQ→Option Bool}(h59:∀ x,Le (f59 x) (g59 x)) {f60 g60:Int→Option Bool}(h60:∀ x,Le (f60 x) (g60 x)) {f61 g61:Int→Option Bool}(h61:∀ x,Le (f61 x) (g61 x)) (y):Le (q8x f57 f58 f59 f60 f61 y) (q4q g57 g58 g59 g60 g61 y):=by
  unfold q8x q4q
  repeat (first | with_reducible exact Le.refl _ | with_reducible exact h57 _ | with_reducible exact h58 _ | with_reducible exact h59 _ | with_reducible exact h60 _ | with_reducible exact h61 _ | (refine Le.lpW (fun _=>?_) _) | (with_reducible refine Le.bind ?_ (fun _=>?_)) | (with_reducible refine Le.ite ?_ ?_) | (with_reducible refine Le.gag ?_ ?_) | (with_reducible refine Le.cond ?_ ?_) | (with_reducible refine Le.elim (fun _=>?_) (fun _=>?_)))
noncomputable def q8y (f57:xH) (f58:Wg) (f59:Wh) (f60:zG) (f61:zG):Ys→Option (Step Ys Ys):=fun (y8:Ys)=>(if decide (y8.snd.fst≤y8.fst)=true then (zk y8.snd.snd.snd.snd.snd.snd y8.snd.fst).bind fun (y9:q9)=>some (y8.fst,y8.snd.fst,decide (y9.Kind_=3),y8.snd.snd) else some (y8.fst,y8.snd.fst,false,y8.snd.snd)).bind fun (y10:Wv)=>if y10.snd.snd.fst=true then some (Step.next (y10.fst,IntKind.i64.wrap (y10.snd.fst+1),y10.snd.snd.snd)) else some (Step.done (y10.fst,y10.snd.fst,y10.snd.snd.snd))
theorem qax {f57 g57:Int→Option yt}(h57:∀ x,Le (f57 x) (g57 x)) {f58 g58:XP→Option Bool}(h58:∀ x,Le (f58 x) (g58 x)) {f59 g59:XQ→Option Bool}(h59:∀ x,Le (f59 x) (g59 x)) {f60 g60:Int→Option Bool}(h60:∀ x,Le (f60 x) (g60 x)) {f61 g61:Int→Option Bool}(h61:∀ x,Le (f61 x) (g61 x)) (y):Le (q8y f57 f58 f59 f60 f61 y) (q35 g57 g58 g59 g60 g61 y):=by
  unfold q8y q35
  repeat (first | with_reducible exact Le.refl _ | with_reducible exact h57 _ | with_reducible exact h58 _ | with_reducible exact h59 _ | with_reducible exact h60 _ | with_reducible exact h61 _ | (refine q8b ?_ ?_ ?_ ?_ ?_ _ <;> assumption) | (refine Le.lpW (fun _=>?_) _) | (with_reducible refine Le.bind ?_ (fun _=>?_)) | (with_reducible refine Le.ite ?_ ?_) | (with_reducible refine Le.gag ?_ ?_) | (with_reducible refine Le.cond ?_ ?_) | (with_reducible refine Le.elim (fun _=>?_) (fun _=>?_)))
noncomputable def q8z (f57:xH) (f58:Wg) (f59:Wh) (f60:zG) (f61:zG):xK→Option (Step xK zL):=fun (y26:xK)=>if decide (y26.snd.snd < y26.snd.fst)=true then (zk y26.fst y26.snd.snd).bind fun (y27:q9)=>(f60 y27.Kind_).bind fun (y28:Bool)=>if (!y28)=true then some (Step.done (Sum.inl false)) else some (Step.next (y26.fst,y26.snd.fst,IntKind.i64.wrap (y26.snd.snd+1))) else some (Step.done (Sum.inr ()))
theorem qcx {f57 g57:Int→Option yt}(h57:∀ x,Le (f57 x) (g57 x)) {f58 g58:XP→Option Bool}(h58:∀ x,Le (f58 x) (g58 x)) {f59 g59:XQ→Option Bool}(h59:∀ x,Le (f59 x) (g59 x)) {f60 g60:Int→Option Bool}(h60:∀ x,Le (f60 x) (g60 x)) {f61 g61:Int→Option Bool}(h61:∀ x,Le (f61 x) (g61 x)) (y):Le (q8z f57 f58 f59 f60 f61 y) (q4r g57 g58 g59 g60 g61 y):=by
  unfold q8z q4r
  repeat (first | with_reducible exact Le.refl _ | with_reducible exact h57 _ | with_reducible exact h58 _ | with_reducible exact h59 _ | with_reducible exact h60 _ | with_reducible exact h61 _ | (refine q8b ?_ ?_ ?_ ?_ ?_ _ <;> assumption) | (refine qax ?_ ?_ ?_ ?_ ?_ _ <;> assumption) | (refine Le.lpW (fun _=>?_) _) | (with_reducible refine Le.bind ?_ (fun _=>?_)) | (with_reducible refine Le.ite ?_ ?_) | (with_reducible refine Le.gag ?_ ?_) | (with_reducible refine Le.cond ?_ ?_) | (with_reducible refine Le.elim (fun _=>?_) (fun _=>?_)))
noncomputable def q9t (f57:xH) (f58:Wg) (f59:Wh) (f60:zG) (f61:zG) (x:q9):Option Bool:=(f57 x.Kind_).bind fun (y0:yt)=>if y0.fst=true then (f58 (x.Kids_,y0.snd)).bind fun (y1:Bool)=>some y1 else (if decide (x.Kind_=0)=true then (lpW (q8x f57 f58 f59 f60 f61) (x.Kids_,x.Kids_.len,0)).bind fun (y5:zL)=>Sum.elim (fun (y6:Bool)=>some (Sum.inl y6)) (fun (y7:Unit)=>some (Sum.inl true)) y5 else (if decide (x.Kind_=1)=true then (lpW (q8y f57 f58 f59 f60 f61) (IntKind.i64.wrap (x.Kids_.len - 1),1,x.Kind_,x.Text_,x.Num_,x.At_,x.Kids_)).bind fun (y11:Ys)=>(if decide (0≤y11.fst)=true then (zk y11.snd.snd.snd.snd.snd.snd 0).bind fun (y12:q9)=>if decide (y12.Kind_=2)=true then (zD y11.snd.snd.snd.snd.snd.snd y11.snd.fst (Sl.len y11.snd.snd.snd.snd.snd.snd)).bind fun (y13:Sl q9)=>(f59 (y13,4)).bind fun (y14:Bool)=>some y14 else some false else some false).bind fun (y15:Bool)=>some (Sum.inl y15) else (if decide (x.Kind_=2)=true then some (IntKind.i64.wrap (x.Kids_.len - 1),x.Kind_,decide (x.Kind_=2),x.Kind_,x.Text_,x.Num_,x.At_,x.Kids_) else (if decide (x.Kind_=3)=true then some (IntKind.i64.wrap (x.Kids_.len - 1),x.Kind_,decide (x.Kind_=3),x.Kind_,x.Text_,x.Num_,x.At_,x.Kids_) else (if decide (x.Kind_=17)=true then some (IntKind.i64.wrap (x.Kids_.len - 1),x.Kind_,decide (x.Kind_=17),x.Kind_,x.Text_,x.Num_,x.At_,x.Kids_) else some (IntKind.i64.wrap (x.Kids_.len - 1),x.Kind_,decide (x.Kind_=8),x.Kind_,x.Text_,x.Num_,x.At_,x.Kids_)).bind fun (y16:Wv)=>some y16).bind fun (y17:Wv)=>some y17).bind fun (y18:Wv)=>(if y18.snd.snd.fst=true then (if decide (y18.fst < 1)=true then (f59 (y18.snd.snd.snd.snd.snd.snd.snd,5)).bind fun (y19:Bool)=>some y19 else some false).bind fun (y20:Bool)=>some (Sum.inl y20) else (if decide (y18.snd.fst=6)=true then (if decide (1≤y18.fst)=true then (zD y18.snd.snd.snd.snd.snd.snd.snd 0 (IntKind.i64.wrap (y18.fst - 1))).bind fun (y21:Sl q9)=>(f59 (y21,7)).bind fun (y22:Bool)=>if y22=true then (zD y18.snd.snd.snd.snd.snd.snd.snd (IntKind.i64.wrap (y18.fst - 1)) (Sl.len y18.snd.snd.snd.snd.snd.snd.snd)).bind fun (y23:Sl q9)=>(f58 (y23,Sl.mk [8,9] true)).bind fun (y24:Bool)=>some y24 else some false else some false).bind fun (y25:Bool)=>some (Sum.inl y25) else (if decide (y18.snd.fst=9)=true then (lpW (q8z f57 f58 f59 f60 f61) (y18.snd.snd.snd.snd.snd.snd.snd,Sl.len y18.snd.snd.snd.snd.snd.snd.snd,0)).bind fun (y29:zL)=>Sum.elim (fun (y30:Bool)=>some (Sum.inl y30)) (fun (y31:Unit)=>some (Sum.inl true)) y29 else (if decide (y18.snd.fst=10)=true then (if decide (y18.fst=0)=true then (zk y18.snd.snd.snd.snd.snd.snd.snd 0).bind fun (y32:q9)=>(f61 y32.Kind_).bind fun (y33:Bool)=>some y33 else some false).bind fun (y34:Bool)=>some (Sum.inl y34) else (if decide (y18.snd.fst=19)=true then some (decide (y18.snd.fst=19),y18.snd.snd.snd) else some (decide (y18.snd.fst=28),y18.snd.snd.snd)).bind fun (y35:zmQ)=>if y35.fst=true then (f59 (y35.snd.snd.snd.snd.snd,5)).bind fun (y36:Bool)=>some (Sum.inl y36) else some (Sum.inr ())).bind fun (y37:zL)=>Sum.elim (fun (y38:Bool)=>some (Sum.inl y38)) (fun (y39:Unit)=>some (Sum.inr ())) y37).bind fun (y40:zL)=>Sum.elim (fun (y41:Bool)=>some (Sum.inl y41)) (fun (y42:Unit)=>some (Sum.inr ())) y40).bind fun (y43:zL)=>Sum.elim (fun (y44:Bool)=>some (Sum.inl y44)) (fun (y45:Unit)=>some (Sum.inr ())) y43).bind fun (y46:zL)=>Sum.elim (fun (y47:Bool)=>some (Sum.inl y47)) (fun (y48:Unit)=>some (Sum.inr ())) y46).bind fun (y49:zL)=>Sum.elim (fun (y50:Bool)=>some (Sum.inl y50)) (fun (y51:Unit)=>some (Sum.inr ())) y49).bind fun (y52:zL)=>Sum.elim (fun (y53:Bool)=>some y53) (fun (y54:Unit)=>some false) y52
theorem qdh {f57 g57:Int→Option yt}(h57:∀ x,Le (f57 x) (g57 x)) {f58 g58:XP→Option Bool}(h58:∀ x,Le (f58 x) (g58 x)) {f59 g59:XQ→Option Bool}(h59:∀ x,Le (f59 x) (g59 x)) {f60 g60:Int→Option Bool}(h60:∀ x,Le (f60 x) (g60 x)) {f61 g61:Int→Option Bool}(h61:∀ x,Le (f61 x) (g61 x)) (x):Le (q9t f57 f58 f59 f60 f61 x) (q6f g57 g58 g59 g60 g61 x):=by
  unfold q9t q6f
  repeat (first | with_reducible exact Le.refl _ | with_reducible exact h57 _ | with_reducible exact h58 _ | with_reducible exact h59 _ | with_reducible exact h60 _ | with_reducible exact h61 _ | (refine q8b ?_ ?_ ?_ ?_ ?_ _ <;> assumption) | (refine qax ?_ ?_ ?_ ?_ ?_ _ <;> assumption) | (refine qcx ?_ ?_ ?_ ?_ ?_ _ <;> assumption) | (refine Le.lpW (fun _=>?_) _) | (with_reducible refine Le.bind ?_ (fun _=>?_)) | (with_reducible refine Le.ite ?_ ?_) | (with_reducible refine Le.gag ?_ ?_) | (with_reducible refine Le.cond ?_ ?_) | (with_reducible refine Le.elim (fun _=>?_) (fun _=>?_)))
noncomputable def qca:vW:=q9t q9m qa5 qbu q6t q6c
theorem qdt (x):Le (qca x) (q4m x):=qdh qc5 qc9 qdg q8l q84 x
noncomputable def q7s (f63:zkS) (x:Int):Option ByteArray:=(f63 (x,10)).bind fun (y0:ze)=>some y0
theorem qcb {f63 g63:ZT→Option ByteArray}(h63:∀ x,Le (f63 x) (g63 x)) (x):Le (q7s f63 x) (q63 g63 x):=by
  unfold q7s q63
  repeat (first | with_reducible exact Le.refl _ | with_reducible exact h63 _ | (refine Le.lpW (fun _=>?_) _) | (with_reducible refine Le.bind ?_ (fun _=>?_)) | (with_reducible refine Le.ite ?_ ?_) | (with_reducible refine Le.gag ?_ ?_) | (with_reducible refine Le.cond ?_ ?_) | (with_reducible refine Le.elim (fun _=>?_) (fun _=>?_)))
noncomputable def q6q:yk:=q7s q5o
theorem q7t (x):Le (q6q x) (q2s x):=qcb (fun x=>Le.refl _) x
noncomputable def q90 (f64:yk) (x:q9):Option ByteArray:=(if decide (x.Text_=lit [])=true then (f64 x.Num_).bind fun (y0:ze)=>some (Sum.inl y0) else (if decide (0 < x.Num_)=true then bif !false && decide (x.Text_.size+3≤9223372036854775807) then (f64 x.Num_).bind fun (y1:ze)=>bif !false && decide ((x.Text_++lit [32,43,32]).size+y1.size≤9223372036854775807) then some (Sum.inl (x.Text_++lit [32,43,32]++y1)) else none else none else if decide (x.Num_ < 0)=true then bif !false && decide (x.Text_.size+3≤9223372036854775807) then (f64 x.Num_).bind fun (y2:ze)=>(z8 y2 1 (↑y2.size:Int)).bind fun (y3:ze)=>bif !false && decide ((x.Text_++lit [32,45,32]).size+y3.size≤9223372036854775807) then some (Sum.inl (x.Text_++lit [32,45,32]++y3)) else none else none else some (Sum.inr (x.Kind_,x.Text_,x.Num_,x.At_,x.Kids_))).bind fun (y4:yO)=>Sum.elim (fun (y5:ze)=>some (Sum.inl y5)) (fun (y6:yD)=>some (Sum.inr y6)) y4).bind fun (y7:yO)=>Sum.elim (fun (y8:ze)=>some y8) (fun (y9:yD)=>some y9.snd.fst) y7
theorem qcy {f64 g64:Int→Option ByteArray}(h64:∀ x,Le (f64 x) (g64 x)) (x):Le (q90 f64 x) (q5z g64 x):=by
  unfold q90 q5z
  repeat (first | with_reducible exact Le.refl _ | with_reducible exact h64 _ | (refine Le.lpW (fun _=>?_) _) | (with_reducible refine Le.bind ?_ (fun _=>?_)) | (with_reducible refine Le.ite ?_ ?_) | (with_reducible refine Le.gag ?_ ?_) | (with_reducible refine Le.cond ?_ ?_) | (with_reducible refine Le.elim (fun _=>?_) (fun _=>?_)))
noncomputable def qbv:Xn:=q90 q6q
theorem qdi (x):Le (qbv x) (q5m x):=qcy q7t x
noncomputable def q7u (f67:zhL) (f68:zhT) (f81:zN) (f69:zhR):zcW→Option (Step zcW xI):=fun (y1:zcW)=>if decide (y1.snd.snd.snd.fst < y1.snd.snd.fst)=true then (zk y1.snd.fst y1.snd.snd.snd.fst).bind fun (y2:q9)=>(f68 (lit [32,32,32,32],IntKind.i64.wrap (y1.fst+1))).bind fun (y3:ze)=>(f81 (q9.mk y2.Kind_ y2.Text_ y2.Num_ y2.At_ y2.Kids_,IntKind.i64.wrap (y1.fst+1))).bind fun (y4:ze)=>bif !false && decide (y3.size+y4.size≤9223372036854775807) then bif !false && decide ((y3++y4).size+1≤9223372036854775807) then (f67 (y3++y4++lit [10],y1.snd.snd.snd.snd)).bind fun (y5:xI)=>some (Step.next (y1.fst,y1.snd.fst,y1.snd.snd.fst,IntKind.i64.wrap (y1.snd.snd.snd.fst+1),y5.snd)) else none else none else some (Step.done (y1.fst,y1.snd.snd.snd.snd))
theorem qcc {f67 g67:ByteArray×ByteArray×Sl Unit→Option xI}(h67:∀ x,Le (f67 x) (g67 x)) {f68 g68:Zt→Option ByteArray}(h68:∀ x,Le (f68 x) (g68 x)) {f81 g81:q9×Int→Option ByteArray}(h81:∀ x,Le (f81 x) (g81 x)) {f69 g69:ByteArray×Sl Unit→Option ByteArray}(h69:∀ x,Le (f69 x) (g69 x)) (y):Le (q7u f67 f68 f81 f69 y) (q2t g67 g68 g81 g69 y):=by
  unfold q7u q2t
  repeat (first | with_reducible exact Le.refl _ | with_reducible exact h67 _ | with_reducible exact h68 _ | with_reducible exact h81 _ | with_reducible exact h69 _ | (refine Le.lpW (fun _=>?_) _) | (with_reducible refine Le.bind ?_ (fun _=>?_)) | (with_reducible refine Le.ite ?_ ?_) | (with_reducible refine Le.gag ?_ ?_) | (with_reducible refine Le.cond ?_ ?_) | (with_reducible refine Le.elim (fun _=>?_) (fun _=>?_)))
noncomputable def q8c (f67:zhL) (f68:zhT) (f81:zN) (f69:zhR) (x:q9×Int):Option ByteArray:=(f67 (lit [123,10],lit [],Sl.mk [] false)).bind fun (y0:xI)=>(lpW (q7u f67 f68 f81 f69) (x.snd,x.fst.Kids_,x.fst.Kids_.len,0,y0.snd)).bind fun (y6:xI)=>(f68 (lit [32,32,32,32],y6.fst)).bind fun (y7:ze)=>bif !false && decide (y7.size+1≤9223372036854775807) then (f67 (y7++lit [125],y6.snd)).bind fun (y8:xI)=>(f69 y8.snd).bind fun (y9:ze)=>some y9 else none
theorem qcn {f67 g67:ByteArray×ByteArray×Sl Unit→Option xI}(h67:∀ x,Le (f67 x) (g67 x)) {f68 g68:Zt→Option ByteArray}(h68:∀ x,Le (f68 x) (g68 x)) {f81 g81:q9×Int→Option ByteArray}(h81:∀ x,Le (f81 x) (g81 x)) {f69 g69:ByteArray×Sl Unit→Option ByteArray}(h69:∀ x,Le (f69 x) (g69 x)) (x):Le (q8c f67 f68 f81 f69 x) (q3x g67 g68 g81 g69 x):=by
  unfold q8c q3x
  repeat (first | with_reducible exact Le.refl _ | with_reducible exact h67 _ | with_reducible exact h68 _ | with_reducible exact h81 _ | with_reducible exact h69 _ | (refine qcc ?_ ?_ ?_ ?_ _ <;> assumption) | (refine Le.lpW (fun _=>?_) _) | (with_reducible refine Le.bind ?_ (fun _=>?_)) | (with_reducible refine Le.ite ?_ ?_) | (with_reducible refine Le.gag ?_ ?_) | (with_reducible refine Le.cond ?_ ?_) | (with_reducible refine Le.elim (fun _=>?_) (fun _=>?_)))
noncomputable def q8d (h:zw):zw:=q8c qg q1t h qz
theorem qa6 {h g:(q9×Int)→Option ByteArray}(hh:∀ x,Le (h x) (g x)) (x):Le (q8d h x) (q1j g x):=qcn (fun x=>Le.refl _) (fun x=>Le.refl _) hh (fun x=>Le.refl _) x
noncomputable def q8e (f81:zN) (f65:zhO):zcU→Option (Step zcU zdI):=fun (y0:zcU)=>if decide (y0.snd.snd.snd.snd.fst < y0.snd.snd.snd.fst)=true then (zk y0.snd.snd.fst y0.snd.snd.snd.snd.fst).bind fun (y1:q9)=>(f81 (q9.mk y1.Kind_ y1.Text_ y1.Num_ y1.At_ y1.Kids_,y0.snd.fst)).bind fun (y2:ze)=>(Zw 16 y0.snd.snd.snd.snd.snd [y2]).bind fun (y3:Sl ByteArray)=>some (Step.next (y0.fst,y0.snd.fst,y0.snd.snd.fst,y0.snd.snd.snd.fst,IntKind.i64.wrap (y0.snd.snd.snd.snd.fst+1),y3)) else some (Step.done (y0.fst,y0.snd.snd.snd.snd.snd))
theorem qco {f81 g81:q9×Int→Option ByteArray}(h81:∀ x,Le (f81 x) (g81 x)) {f65 g65:Sl ByteArray×ByteArray→Option ByteArray}(h65:∀ x,Le (f65 x) (g65 x)) (y):Le (q8e f81 f65 y) (q3i g81 g65 y):=by
  unfold q8e q3i
  repeat (first | with_reducible exact Le.refl _ | with_reducible exact h81 _ | with_reducible exact h65 _ | (refine Le.lpW (fun _=>?_) _) | (with_reducible refine Le.bind ?_ (fun _=>?_)) | (with_reducible refine Le.ite ?_ ?_) | (with_reducible refine Le.gag ?_ ?_) | (with_reducible refine Le.cond ?_ ?_) | (with_reducible refine Le.elim (fun _=>?_) (fun _=>?_)))
noncomputable def q91 (f81:zN) (f65:zhO) (x:xd):Option ByteArray:=(lpW (q8e f81 f65) (x.snd.fst,x.snd.snd,x.fst,Sl.len x.fst,0,Sl.mk [] false)).bind fun (y4:zdI)=>(f65 (y4.snd,y4.fst)).bind fun (y5:ze)=>some y5
theorem qcz {f81 g81:q9×Int→Option ByteArray}(h81:∀ x,Le (f81 x) (g81 x)) {f65 g65:Sl ByteArray×ByteArray→Option ByteArray}(h65:∀ x,Le (f65 x) (g65 x)) (x):Le (q91 f81 f65 x) (q3j g81 g65 x):=by
  unfold q91 q3j
  repeat (first | with_reducible exact Le.refl _ | with_reducible exact h81 _ | with_reducible exact h65 _ | (refine qco ?_ ?_ _ <;> assumption) | (refine Le.lpW (fun _=>?_) _) | (with_reducible refine Le.bind ?_ (fun _=>?_)) | (with_reducible refine Le.ite ?_ ?_) | (with_reducible refine Le.gag ?_ ?_) | (with_reducible refine Le.cond ?_ ?_) | (with_reducible refine Le.elim (fun _=>?_) (fun _=>?_)))
noncomputable def q47 (h:zw):xd→Option ByteArray:=q91 h q53
theorem q4i {h g:(q9×Int)→Option ByteArray}(hh:∀ x,Le (h x) (g x)) (x):Le (q47 h x) (qq g x):=qcz hh (fun x=>Le.refl _) x
noncomputable def q92 (f71:X8) (x:q9×Int):Option ByteArray:=(f71 (x.fst.Kids_,lit [],x.snd)).bind fun (y0:ze)=>(if decide (x.fst.Text_=lit [38])=true then bif !false && decide (1+y0.size≤9223372036854775807) then some (Sum.inl (lit [38]++y0)) else none else (if decide (x.fst.Text_=lit [38,109,117,116])=true then some (y0,decide (x.fst.Text_=lit [38,109,117,116]),x.fst.Kind_,x.fst.Text_,x.fst.Num_,x.fst.At_,x.fst.Kids_) else some (y0,decide (x.fst.Text_=lit [111,119,110]),x.fst.Kind_,x.fst.Text_,x.fst.Num_,x.fst.At_,x.fst.Kids_)).bind fun (y1:zmP)=>if y1.snd.fst=true then bif !false && decide (ByteArray.size y1.snd.snd.snd.fst+1≤9223372036854775807) then bif !false && decide ((y1.snd.snd.snd.fst++lit [32]).size+ByteArray.size y1.fst≤9223372036854775807) then some (Sum.inl (y1.snd.snd.snd.fst++lit [32]++y1.fst)) else none else none else some (Sum.inr y1.snd.snd)).bind fun (y2:yO)=>Sum.elim (fun (y3:ze)=>some y3) (fun (y4:yD)=>some y4.snd.fst) y2
theorem qd0 {f71 g71:xd→Option ByteArray}(h71:∀ x,Le (f71 x) (g71 x)) (x):Le (q92 f71 x) (q48 g71 x):=by
  unfold q92 q48
  repeat (first | with_reducible exact Le.refl _ | with_reducible exact h71 _ | (refine Le.lpW (fun _=>?_) _) | (with_reducible refine Le.bind ?_ (fun _=>?_)) | (with_reducible refine Le.ite ?_ ?_) | (with_reducible refine Le.gag ?_ ?_) | (with_reducible refine Le.cond ?_ ?_) | (with_reducible refine Le.elim (fun _=>?_) (fun _=>?_)))
noncomputable def q93 (h:zw):zw:=q92 (q47 h)
theorem qay {h g:(q9×Int)→Option ByteArray}(hh:∀ x,Le (h x) (g x)) (x):Le (q93 h x) (q1u g x):=qd0 (q4i hh) x
noncomputable def qan (f71:X8) (f81:zN) (x:q9×Int):Option ByteArray:=bif !false && decide (3+x.fst.Text_.size≤9223372036854775807) then bif !false && decide ((lit [102,110,32]++x.fst.Text_).size+1≤9223372036854775807) then (zD x.fst.Kids_ 0 (IntKind.i64.wrap (IntKind.i64.wrap (x.fst.Kids_.len - 1) - 1))).bind fun (y0:Sl q9)=>(f71 (y0,lit [44,32],x.snd)).bind fun (y1:ze)=>bif !false && decide ((lit [102,110,32]++x.fst.Text_++lit [40]).size+y1.size≤9223372036854775807) then bif !false && decide ((lit [102,110,32]++x.fst.Text_++lit [40]++y1).size+1≤9223372036854775807) then (zk x.fst.Kids_ (IntKind.i64.wrap (IntKind.i64.wrap (x.fst.Kids_.len - 1) - 1))).bind fun (y2:q9)=>(if decide (y2.Text_≠lit [])=true then (f81 (q9.mk y2.Kind_ y2.Text_ y2.Num_ y2.At_ y2.Kids_,x.snd)).bind fun (y3:ze)=>bif !false && decide (4+y3.size≤9223372036854775807) then bif !false && decide ((lit [102,110,32]++x.fst.Text_++lit [40]++y1++lit [41]).size+(lit [32,45,62,32]++y3).size≤9223372036854775807) then some (x.snd,IntKind.i64.wrap (x.fst.Kids_.len - 1),lit [102,110,32]++x.fst.Text_++lit [40]++y1++lit [41]++(lit [32,45,62,32]++y3),x.fst.Kind_,x.fst.Text_,x.fst.Num_,x.fst.At_,x.fst.Kids_) else none else none else some (x.snd,IntKind.i64.wrap (x.fst.Kids_.len - 1),lit [102,110,32]++x.fst.Text_++lit [40]++y1++lit [41],x.fst.Kind_,x.fst.Text_,x.fst.Num_,x.fst.At_,x.fst.Kids_)).bind fun (y4:zhN)=>bif !false && decide (ByteArray.size y4.snd.snd.fst+1≤9223372036854775807) then (zk y4.snd.snd.snd.snd.snd.snd.snd y4.snd.fst).bind fun (y5:q9)=>(f81 (q9.mk y5.Kind_ y5.Text_ y5.Num_ y5.At_ y5.Kids_,y4.fst)).bind fun (y6:ze)=>bif !false && decide ((y4.snd.snd.fst++lit [32]).size+y6.size≤9223372036854775807) then some (y4.snd.snd.fst++lit [32]++y6) else none else none else none else none else none else none
theorem qdu {f71 g71:xd→Option ByteArray}(h71:∀ x,Le (f71 x) (g71 x)) {f81 g81:q9×Int→Option ByteArray}(h81:∀ x,Le (f81 x) (g81 x)) (x):Le (qan f71 f81 x) (q5d g71 g81 x):=by
  unfold qan q5d
  repeat (first | with_reducible exact Le.refl _ | with_reducible exact h71 _ | with_reducible exact h81 _ | (refine Le.lpW (fun _=>?_) _) | (with_reducible refine Le.bind ?_ (fun _=>?_)) | (with_reducible refine Le.ite ?_ ?_) | (with_reducible refine Le.gag ?_ ?_) | (with_reducible refine Le.cond ?_ ?_) | (with_reducible refine Le.elim (fun _=>?_) (fun _=>?_)))
noncomputable def qao (h:zw):zw:=qan (q47 h) h
theorem qbw {h g:(q9×Int)→Option ByteArray}(hh:∀ x,Le (h x) (g x)) (x):Le (qao h x) (q2m g x):=qdu (q4i hh) hh x
noncomputable def q94 (f81:zN) (f71:X8):Ys→Option (Step Ys Ys):=fun (y0:Ys)=>(if decide (y0.snd.fst < Sl.len y0.snd.snd.snd.snd.snd.snd)=true then (zk y0.snd.snd.snd.snd.snd.snd y0.snd.fst).bind fun (y1:q9)=>some (y0.fst,y0.snd.fst,decide (y1.Kind_=3),y0.snd.snd) else some (y0.fst,y0.snd.fst,false,y0.snd.snd)).bind fun (y2:Wv)=>if y2.snd.snd.fst=true then some (Step.next (y2.fst,IntKind.i64.wrap (y2.snd.fst+1),y2.snd.snd.snd)) else some (Step.done (y2.fst,y2.snd.fst,y2.snd.snd.snd))
theorem qd1 {f81 g81:q9×Int→Option ByteArray}(h81:∀ x,Le (f81 x) (g81 x)) {f71 g71:xd→Option ByteArray}(h71:∀ x,Le (f71 x) (g71 x)) (y):Le (q94 f81 f71 y) (q44 g81 g71 y):=by
  unfold q94 q44
  repeat (first | with_reducible exact Le.refl _ | with_reducible exact h81 _ | with_reducible exact h71 _ | (refine Le.lpW (fun _=>?_) _) | (with_reducible refine Le.bind ?_ (fun _=>?_)) | (with_reducible refine Le.ite ?_ ?_) | (with_reducible refine Le.gag ?_ ?_) | (with_reducible refine Le.cond ?_ ?_) | (with_reducible refine Le.elim (fun _=>?_) (fun _=>?_)))
noncomputable def q9u (f81:zN) (f71:X8) (x:q9×Int):Option ByteArray:=(lpW (q94 f81 f71) (x.snd,1,x.fst.Kind_,x.fst.Text_,x.fst.Num_,x.fst.At_,x.fst.Kids_)).bind fun (y3:Ys)=>bif !false && decide (5+ByteArray.size y3.snd.snd.snd.fst≤9223372036854775807) then bif !false && decide ((lit [116,121,112,101,32]++y3.snd.snd.snd.fst).size+1≤9223372036854775807) then (zk y3.snd.snd.snd.snd.snd.snd 0).bind fun (y4:q9)=>(f81 (q9.mk y4.Kind_ y4.Text_ y4.Num_ y4.At_ y4.Kids_,y3.fst)).bind fun (y5:ze)=>bif !false && decide ((lit [116,121,112,101,32]++y3.snd.snd.snd.fst++lit [32]).size+y5.size≤9223372036854775807) then (if decide (1 < y3.snd.fst)=true then (zD y3.snd.snd.snd.snd.snd.snd 1 y3.snd.fst).bind fun (y6:Sl q9)=>(f71 (y6,lit [44,32],y3.fst)).bind fun (y7:ze)=>bif !false && decide (3+y7.size≤9223372036854775807) then bif !false && decide ((lit [32,123,32]++y7).size+2≤9223372036854775807) then bif !false && decide ((lit [116,121,112,101,32]++y3.snd.snd.snd.fst++lit [32]++y5).size+(lit [32,123,32]++y7++lit [32,125]).size≤9223372036854775807) then some (y3.fst,y3.snd.fst,lit [116,121,112,101,32]++y3.snd.snd.snd.fst++lit [32]++y5++(lit [32,123,32]++y7++lit [32,125]),y3.snd.snd) else none else none else none else some (y3.fst,y3.snd.fst,lit [116,121,112,101,32]++y3.snd.snd.snd.fst++lit [32]++y5,y3.snd.snd)).bind fun (y8:zhN)=>(if decide (y8.snd.fst < Sl.len y8.snd.snd.snd.snd.snd.snd.snd)=true then (zD y8.snd.snd.snd.snd.snd.snd.snd y8.snd.fst (Sl.len y8.snd.snd.snd.snd.snd.snd.snd)).bind fun (y9:Sl q9)=>(f71 (y9,lit [44,32],y8.fst)).bind fun (y10:ze)=>bif !false && decide (7+y10.size≤9223372036854775807) then bif !false && decide (ByteArray.size y8.snd.snd.fst+(lit [32,119,104,101,114,101,32]++y10).size≤9223372036854775807) then some (y8.snd.snd.fst++(lit [32,119,104,101,114,101,32]++y10)) else none else none else some y8.snd.snd.fst).bind fun (y11:ze)=>bif !false && decide (y11.size+1≤9223372036854775807) then some (y11++lit [59]) else none else none else none else none
theorem qdj {f81 g81:q9×Int→Option ByteArray}(h81:∀ x,Le (f81 x) (g81 x)) {f71 g71:xd→Option ByteArray}(h71:∀ x,Le (f71 x) (g71 x)) (x):Le (q9u f81 f71 x) (q4s g81 g71 x):=by
  unfold q9u q4s
  repeat (first | with_reducible exact Le.refl _ | with_reducible exact h81 _ | with_reducible exact h71 _ | (refine qd1 ?_ ?_ _ <;> assumption) | (refine Le.lpW (fun _=>?_) _) | (with_reducible refine Le.bind ?_ (fun _=>?_)) | (with_reducible refine Le.ite ?_ ?_) | (with_reducible refine Le.gag ?_ ?_) | (with_reducible refine Le.cond ?_ ?_) | (with_reducible refine Le.elim (fun _=>?_) (fun _=>?_)))
noncomputable def q9v (h:zw):zw:=q9u h (q47 h)
theorem qbf {h g:(q9×Int)→Option ByteArray}(hh:∀ x,Le (h x) (g x)) (x):Le (q9v h x) (q26 g x):=qdj hh (q4i hh) x
noncomputable def q7v (f81:zN) (x:yx):Option zz:=(zk x.snd.fst.snd.snd.snd.snd x.fst).bind fun (y0:q9)=>(f81 (q9.mk y0.Kind_ y0.Text_ y0.Num_ y0.At_ y0.Kids_,x.snd.snd)).bind fun (y1:ze)=>some (y1,x.snd)
theorem qcd {f81 g81:q9×Int→Option ByteArray}(h81:∀ x,Le (f81 x) (g81 x)) (x):Le (q7v f81 x) (q2b g81 x):=by
  unfold q7v q2b
  repeat (first | with_reducible exact Le.refl _ | with_reducible exact h81 _ | (refine Le.lpW (fun _=>?_) _) | (with_reducible refine Le.bind ?_ (fun _=>?_)) | (with_reducible refine Le.ite ?_ ?_) | (with_reducible refine Le.gag ?_ ?_) | (with_reducible refine Le.cond ?_ ?_) | (with_reducible refine Le.elim (fun _=>?_) (fun _=>?_)))
noncomputable def q7w (h:zw):yx→Option zz:=q7v h
theorem q9n {h g:(q9×Int)→Option ByteArray}(hh:∀ x,Le (h x) (g x)) (x):Le (q7w h x) (q15 g x):=qcd hh x
noncomputable def q7x (f81:zN) (x:yx):Option zz:=(zk x.snd.fst.snd.snd.snd.snd x.fst).bind fun (y0:q9)=>(f81 (q9.mk y0.Kind_ y0.Text_ y0.Num_ y0.At_ y0.Kids_,x.snd.snd)).bind fun (y1:ze)=>some (y1,x.snd)
theorem qce {f81 g81:q9×Int→Option ByteArray}(h81:∀ x,Le (f81 x) (g81 x)) (x):Le (q7x f81 x) (q31 g81 x):=by
  unfold q7x q31
  repeat (first | with_reducible exact Le.refl _ | with_reducible exact h81 _ | (refine Le.lpW (fun _=>?_) _) | (with_reducible refine Le.bind ?_ (fun _=>?_)) | (with_reducible refine Le.ite ?_ ?_) | (with_reducible refine Le.gag ?_ ?_) | (with_reducible refine Le.cond ?_ ?_) | (with_reducible refine Le.elim (fun _=>?_) (fun _=>?_)))
noncomputable def q7y (h:zw):yx→Option zz:=q7x h
theorem q9o {h g:(q9×Int)→Option ByteArray}(hh:∀ x,Le (h x) (g x)) (x):Le (q7y h x) (q1l g x):=qce hh x
noncomputable def q95 (f66:Xn) (f76:V6) (f64:yk) (f71:X8) (x:q9×Int):Option ByteArray:=(if decide (x.fst.Kind_=5)=true then (f66 (q9.mk x.fst.Kind_ x.fst.Text_ x.fst.Num_ x.fst.At_ x.fst.Kids_)).bind fun (y0:ze)=>some (Sum.inl y0) else (if decide (x.fst.Kind_=21)=true then (f76 (0,(x.fst.Kind_,x.fst.Text_,x.fst.Num_,x.fst.At_,x.fst.Kids_),x.snd)).bind fun (y1:zz)=>bif !false && decide (ByteArray.size y1.fst+3≤9223372036854775807) then (f76 (1,y1.snd)).bind fun (y2:zz)=>bif !false && decide ((y1.fst++lit [32,43,32]).size+ByteArray.size y2.fst≤9223372036854775807) then some (Sum.inl (y1.fst++lit [32,43,32]++y2.fst)) else none else none else (if decide (x.fst.Kind_=22)=true then (f76 (0,(x.fst.Kind_,x.fst.Text_,x.fst.Num_,x.fst.At_,x.fst.Kids_),x.snd)).bind fun (y3:zz)=>bif !false && decide (ByteArray.size y3.fst+3≤9223372036854775807) then (f76 (1,y3.snd)).bind fun (y4:zz)=>bif !false && decide ((y3.fst++lit [32,45,32]).size+ByteArray.size y4.fst≤9223372036854775807) then some (Sum.inl (y3.fst++lit [32,45,32]++y4.fst)) else none else none else (if decide (x.fst.Kind_=23)=true then (f64 x.fst.Num_).bind fun (y5:ze)=>bif !false && decide (4+y5.size≤9223372036854775807) then some (Sum.inl (lit [110,101,119,32]++y5)) else none else (if decide (x.fst.Kind_=24)=true then bif !false && decide (6+x.fst.Text_.size≤9223372036854775807) then some (Sum.inl (lit [97,114,114,97,121,32]++x.fst.Text_)) else none else (if decide (x.fst.Kind_=25)=true then (wJ (bif !false && decide (x.fst.Text_.size+1≤9223372036854775807) then (f76 (0,(x.fst.Kind_,x.fst.Text_,x.fst.Num_,x.fst.At_,x.fst.Kids_),x.snd)).bind fun (y6:zz)=>bif !false && decide ((x.fst.Text_++lit [91]).size+ByteArray.size y6.fst≤9223372036854775807) then bif !false && decide ((x.fst.Text_++lit [91]++y6.fst).size+1≤9223372036854775807) then some (x.fst.Text_++lit [91]++y6.fst++lit [93]) else none else none else none) ((f76 (0,(x.fst.Kind_,x.fst.Text_,x.fst.Num_,x.fst.At_,x.fst.Kids_),x.snd)).bind fun (y7:zz)=>bif !false && decide (ByteArray.size y7.snd.fst.snd.fst+1≤9223372036854775807) then bif !false && decide ((y7.snd.fst.snd.fst++lit [91]).size+ByteArray.size y7.fst≤9223372036854775807) then bif !false && decide ((y7.snd.fst.snd.fst++lit [91]++y7.fst).size+1≤9223372036854775807) then some (y7.snd.fst.snd.fst++lit [91]++y7.fst++lit [93]) else none else none else none)).bind fun (y8:ze)=>some (Sum.inl y8) else (if decide (x.fst.Kind_=26)=true then bif !false && decide (1+x.fst.Text_.size≤9223372036854775807) then some (Sum.inl (lit [38]++x.fst.Text_)) else none else if decide (x.fst.Kind_=27)=true then bif !false && decide (5+x.fst.Text_.size≤9223372036854775807) then some (Sum.inl (lit [38,109,117,116,32]++x.fst.Text_)) else none else some (Sum.inr ((x.fst.Kind_,x.fst.Text_,x.fst.Num_,x.fst.At_,x.fst.Kids_),x.snd))).bind fun (y9:ZB)=>Sum.elim (fun (y10:ze)=>some (Sum.inl y10)) (fun (y11:ZC)=>some (Sum.inr y11)) y9).bind fun (y12:ZB)=>Sum.elim (fun (y13:ze)=>some (Sum.inl y13)) (fun (y14:ZC)=>some (Sum.inr y14)) y12).bind fun (y15:ZB)=>Sum.elim (fun (y16:ze)=>some (Sum.inl y16)) (fun (y17:ZC)=>some (Sum.inr y17)) y15).bind fun (y18:ZB)=>Sum.elim (fun (y19:ze)=>some (Sum.inl y19)) (fun (y20:ZC)=>some (Sum.inr y20)) y18).bind fun (y21:ZB)=>Sum.elim (fun (y22:ze)=>some (Sum.inl y22)) (fun (y23:ZC)=>some (Sum.inr y23)) y21).bind fun (y24:ZB)=>Sum.elim (fun (y25:ze)=>some (Sum.inl y25)) (fun (y26:ZC)=>some (Sum.inr y26)) y24).bind fun (y27:ZB)=>Sum.elim (fun (y28:ze)=>some y28) (fun (y29:ZC)=>bif !false && decide (ByteArray.size y29.fst.snd.fst+1≤9223372036854775807) then (f71 (y29.fst.snd.snd.snd.snd,lit [44,32],y29.snd)).bind fun (y30:ze)=>bif !false && decide ((y29.fst.snd.fst++lit [40]).size+y30.size≤9223372036854775807) then bif !false && decide ((y29.fst.snd.fst++lit [40]++y30).size+1≤9223372036854775807) then some (y29.fst.snd.fst++lit [40]++y30++lit [41]) else none else none else none) y27
theorem qd2 {f66 g66:q9→Option ByteArray}(h66:∀ x,Le (f66 x) (g66 x)) {f76 g76:yx→Option zz}(h76:∀ x,Le (f76 x) (g76 x)) {f64 g64:Int→Option ByteArray}(h64:∀ x,Le (f64 x) (g64 x)) {f71 g71:xd→Option ByteArray}(h71:∀ x,Le (f71 x) (g71 x)) (x):Le (q95 f66 f76 f64 f71 x) (q49 g66 g76 g64 g71 x):=by
  unfold q95 q49
  repeat (first | with_reducible exact Le.refl _ | with_reducible exact h66 _ | with_reducible exact h76 _ | with_reducible exact h64 _ | with_reducible exact h71 _ | (refine Le.lpW (fun _=>?_) _) | (with_reducible refine Le.bind ?_ (fun _=>?_)) | (with_reducible refine Le.ite ?_ ?_) | (with_reducible refine Le.gag ?_ ?_) | (with_reducible refine Le.cond ?_ ?_) | (with_reducible refine Le.elim (fun _=>?_) (fun _=>?_)))
noncomputable def q96 (h:zw):zw:=q95 qbv (q7y h) q6q (q47 h)
theorem qaz {h g:(q9×Int)→Option ByteArray}(hh:∀ x,Le (h x) (g x)) (x):Le (q96 h x) (q1v g x):=qd2 qdi (q9o hh) q7t (q4i hh) x
noncomputable def q7z (f81:zN) (x:Wj):Option ByteArray:=bif !false && decide (ByteArray.size x.fst+1≤9223372036854775807) then (zk x.snd.fst.Kids_ 0).bind fun (y0:q9)=>(zk x.snd.fst.Kids_ 1).bind fun (y1:q9)=>(zk x.snd.fst.Kids_ 2).bind fun (y2:q9)=>(f81 (q9.mk y0.Kind_ y0.Text_ y0.Num_ y0.At_ y0.Kids_,x.snd.snd)).bind fun (y3:ze)=>bif !false && decide ((x.fst++lit [32]).size+y3.size≤9223372036854775807) then bif !false && decide ((x.fst++lit [32]++y3).size+1≤9223372036854775807) then bif !false && decide ((x.fst++lit [32]++y3++lit [32]).size+x.snd.fst.Text_.size≤9223372036854775807) then bif !false && decide ((x.fst++lit [32]++y3++lit [32]++x.snd.fst.Text_).size+1≤9223372036854775807) then (f81 (q9.mk y1.Kind_ y1.Text_ y1.Num_ y1.At_ y1.Kids_,x.snd.snd)).bind fun (y4:ze)=>bif !false && decide ((x.fst++lit [32]++y3++lit [32]++x.snd.fst.Text_++lit [32]).size+y4.size≤9223372036854775807) then bif !false && decide ((x.fst++lit [32]++y3++lit [32]++x.snd.fst.Text_++lit [32]++y4).size+1≤9223372036854775807) then (f81 (q9.mk y2.Kind_ y2.Text_ y2.Num_ y2.At_ y2.Kids_,x.snd.snd)).bind fun (y5:ze)=>bif !false && decide ((x.fst++lit [32]++y3++lit [32]++x.snd.fst.Text_++lit [32]++y4++lit [32]).size+y5.size≤9223372036854775807) then some (x.fst++lit [32]++y3++lit [32]++x.snd.fst.Text_++lit [32]++y4++lit [32]++y5) else none else none else none else none else none else none else none else none
theorem qcf {f81 g81:q9×Int→Option ByteArray}(h81:∀ x,Le (f81 x) (g81 x)) (x):Le (q7z f81 x) (q32 g81 x):=by
  unfold q7z q32
  repeat (first | with_reducible exact Le.refl _ | with_reducible exact h81 _ | (refine Le.lpW (fun _=>?_) _) | (with_reducible refine Le.bind ?_ (fun _=>?_)) | (with_reducible refine Le.ite ?_ ?_) | (with_reducible refine Le.gag ?_ ?_) | (with_reducible refine Le.cond ?_ ?_) | (with_reducible refine Le.elim (fun _=>?_) (fun _=>?_)))
noncomputable def q80 (h:zw):Wj→Option ByteArray:=q7z h
theorem q9p {h g:(q9×Int)→Option ByteArray}(hh:∀ x,Le (h x) (g x)) (x):Le (q80 h x) (q22 g x):=qcf hh x
noncomputable def q81 (f81:zN) (x:yx):Option zz:=(zk x.snd.fst.snd.snd.snd.snd x.fst).bind fun (y0:q9)=>(f81 (q9.mk y0.Kind_ y0.Text_ y0.Num_ y0.At_ y0.Kids_,x.snd.snd)).bind fun (y1:ze)=>some (y1,x.snd)
theorem qcg {f81 g81:q9×Int→Option ByteArray}(h81:∀ x,Le (f81 x) (g81 x)) (x):Le (q81 f81 x) (q33 g81 x):=by
  unfold q81 q33
  repeat (first | with_reducible exact Le.refl _ | with_reducible exact h81 _ | (refine Le.lpW (fun _=>?_) _) | (with_reducible refine Le.bind ?_ (fun _=>?_)) | (with_reducible refine Le.ite ?_ ?_) | (with_reducible refine Le.gag ?_ ?_) | (with_reducible refine Le.cond ?_ ?_) | (with_reducible refine Le.elim (fun _=>?_) (fun _=>?_)))
noncomputable def q82 (h:zw):yx→Option zz:=q81 h
theorem q9q {h g:(q9×Int)→Option ByteArray}(hh:∀ x,Le (h x) (g x)) (x):Le (q82 h x) (q1m g x):=qcg hh x
noncomputable def q97 (f64:yk) (f79:V6) (f78:zmR) (f71:X8) (x:q9×Int):Option ByteArray:=bif !false && decide (x.fst.Text_.size+1≤9223372036854775807) then (f64 x.fst.Num_).bind fun (y0:ze)=>bif !false && decide ((x.fst.Text_++lit [91]).size+y0.size≤9223372036854775807) then bif !false && decide ((x.fst.Text_++lit [91]++y0).size+2≤9223372036854775807) then (if decide (x.fst.Kind_=10)=true then (wJ (bif !false && decide (x.fst.Text_.size+3≤9223372036854775807) then (f79 (0,(x.fst.Kind_,x.fst.Text_,x.fst.Num_,x.fst.At_,x.fst.Kids_),x.snd)).bind fun (y1:zz)=>bif !false && decide ((x.fst.Text_++lit [32,61,32]).size+ByteArray.size y1.fst≤9223372036854775807) then bif !false && decide ((x.fst.Text_++lit [32,61,32]++y1.fst).size+1≤9223372036854775807) then some (x.fst.Text_++lit [32,61,32]++y1.fst++lit [59]) else none else none else none) ((f79 (0,(x.fst.Kind_,x.fst.Text_,x.fst.Num_,x.fst.At_,x.fst.Kids_),x.snd)).bind fun (y2:zz)=>bif !false && decide (ByteArray.size y2.snd.fst.snd.fst+3≤9223372036854775807) then bif !false && decide ((y2.snd.fst.snd.fst++lit [32,61,32]).size+ByteArray.size y2.fst≤9223372036854775807) then bif !false && decide ((y2.snd.fst.snd.fst++lit [32,61,32]++y2.fst).size+1≤9223372036854775807) then some (y2.snd.fst.snd.fst++lit [32,61,32]++y2.fst++lit [59]) else none else none else none)).bind fun (y3:ze)=>some (Sum.inl y3) else (if decide (x.fst.Kind_=11)=true then (wJ (bif !false && decide (x.fst.Text_.size+1≤9223372036854775807) then (f79 (0,(x.fst.Kind_,x.fst.Text_,x.fst.Num_,x.fst.At_,x.fst.Kids_),x.snd)).bind fun (y4:zz)=>bif !false && decide ((x.fst.Text_++lit [91]).size+ByteArray.size y4.fst≤9223372036854775807) then bif !false && decide ((x.fst.Text_++lit [91]++y4.fst).size+4≤9223372036854775807) then (f79 (1,y4.snd)).bind fun (y5:zz)=>bif !false && decide ((x.fst.Text_++lit [91]++y4.fst++lit [93,32,61,32]).size+ByteArray.size y5.fst≤9223372036854775807) then bif !false && decide ((x.fst.Text_++lit [91]++y4.fst++lit [93,32,61,32]++y5.fst).size+1≤9223372036854775807) then some (x.fst.Text_++lit [91]++y4.fst++lit [93,32,61,32]++y5.fst++lit [59]) else none else none else none else none else none) ((f79 (0,(x.fst.Kind_,x.fst.Text_,x.fst.Num_,x.fst.At_,x.fst.Kids_),x.snd)).bind fun (y6:zz)=>wJ (bif !false && decide (ByteArray.size y6.snd.fst.snd.fst+1≤9223372036854775807) then bif !false && decide ((y6.snd.fst.snd.fst++lit [91]).size+ByteArray.size y6.fst≤9223372036854775807) then bif !false && decide ((y6.snd.fst.snd.fst++lit [91]++y6.fst).size+4≤9223372036854775807) then (f79 (1,y6.snd)).bind fun (y7:zz)=>bif !false && decide ((y6.snd.fst.snd.fst++lit [91]++y6.fst++lit [93,32,61,32]).size+ByteArray.size y7.fst≤9223372036854775807) then bif !false && decide ((y6.snd.fst.snd.fst++lit [91]++y6.fst++lit [93,32,61,32]++y7.fst).size+1≤9223372036854775807) then some (y6.snd.fst.snd.fst++lit [91]++y6.fst++lit [93,32,61,32]++y7.fst++lit [59]) else none else none else none else none else none) ((f79 (1,y6.snd)).bind fun (y8:zz)=>bif !false && decide (ByteArray.size y8.snd.fst.snd.fst+1≤9223372036854775807) then bif !false && decide ((y8.snd.fst.snd.fst++lit [91]).size+ByteArray.size y6.fst≤9223372036854775807) then bif !false && decide ((y8.snd.fst.snd.fst++lit [91]++y6.fst).size+4≤9223372036854775807) then bif !false && decide ((y8.snd.fst.snd.fst++lit [91]++y6.fst++lit [93,32,61,32]).size+ByteArray.size y8.fst≤9223372036854775807) then bif !false && decide ((y8.snd.fst.snd.fst++lit [91]++y6.fst++lit [93,32,61,32]++y8.fst).size+1≤9223372036854775807) then some (y8.snd.fst.snd.fst++lit [91]++y6.fst++lit [93,32,61,32]++y8.fst++lit [59]) else none else none else none else none else none))).bind fun (y9:ze)=>some (Sum.inl y9) else (if decide (x.fst.Kind_=12)=true then bif !false && decide (5+x.fst.Text_.size≤9223372036854775807) then bif !false && decide ((lit [102,114,101,101,32]++x.fst.Text_).size+1≤9223372036854775807) then some (Sum.inl (lit [102,114,101,101,32]++x.fst.Text_++lit [59])) else none else none else (if decide (x.fst.Kind_=13)=true then bif !false && decide (5+(x.fst.Text_++lit [91]++y0++lit [93,59]).size≤9223372036854775807) then some (Sum.inl (lit [108,111,99,107,32]++(x.fst.Text_++lit [91]++y0++lit [93,59]))) else none else (if decide (x.fst.Kind_=14)=true then bif !false && decide (7+(x.fst.Text_++lit [91]++y0++lit [93,59]).size≤9223372036854775807) then some (Sum.inl (lit [117,110,108,111,99,107,32]++(x.fst.Text_++lit [91]++y0++lit [93,59]))) else none else (if decide (x.fst.Kind_=15)=true then (zk x.fst.Kids_ 3).bind fun (y10:q9)=>if decide (0 < y10.Kids_.len)=true then (f78 (lit [105,102],q9.mk x.fst.Kind_ x.fst.Text_ x.fst.Num_ x.fst.At_ x.fst.Kids_,x.snd)).bind fun (y11:ze)=>bif !false && decide (y11.size+6≤9223372036854775807) then (f79 (3,(x.fst.Kind_,x.fst.Text_,x.fst.Num_,x.fst.At_,x.fst.Kids_),x.snd)).bind fun (y12:zz)=>bif !false && decide ((y11++lit [32,101,108,115,101,32]).size+ByteArray.size y12.fst≤9223372036854775807) then some (Sum.inl (y11++lit [32,101,108,115,101,32]++y12.fst)) else none else none else (f78 (lit [105,102],q9.mk x.fst.Kind_ x.fst.Text_ x.fst.Num_ x.fst.At_ x.fst.Kids_,x.snd)).bind fun (y13:ze)=>some (Sum.inl y13) else (if decide (x.fst.Kind_=16)=true then (f78 (lit [119,104,105,108,101],q9.mk x.fst.Kind_ x.fst.Text_ x.fst.Num_ x.fst.At_ x.fst.Kids_,x.snd)).bind fun (y14:ze)=>some (Sum.inl y14) else (if decide (x.fst.Kind_=17)=true then if decide (0 < x.fst.Kids_.len)=true then (f79 (0,(x.fst.Kind_,x.fst.Text_,x.fst.Num_,x.fst.At_,x.fst.Kids_),x.snd)).bind fun (y15:zz)=>bif !false && decide (7+ByteArray.size y15.fst≤9223372036854775807) then bif !false && decide ((lit [114,101,116,117,114,110,32]++y15.fst).size+1≤9223372036854775807) then some (Sum.inl (lit [114,101,116,117,114,110,32]++y15.fst++lit [59])) else none else none else some (Sum.inl (lit [114,101,116,117,114,110,59])) else (if decide (x.fst.Kind_=18)=true then some (Sum.inl (lit [97,98,111,114,116,59])) else if decide (x.fst.Kind_=19)=true then bif !false && decide (5+x.fst.Text_.size≤9223372036854775807) then bif !false && decide ((lit [102,111,114,107,32]++x.fst.Text_).size+1≤9223372036854775807) then (f71 (x.fst.Kids_,lit [44,32],x.snd)).bind fun (y16:ze)=>bif !false && decide ((lit [102,111,114,107,32]++x.fst.Text_++lit [40]).size+y16.size≤9223372036854775807) then bif !false && decide ((lit [102,111,114,107,32]++x.fst.Text_++lit [40]++y16).size+2≤9223372036854775807) then some (Sum.inl (lit [102,111,114,107,32]++x.fst.Text_++lit [40]++y16++lit [41,59])) else none else none else none else none else some (Sum.inr ((x.fst.Kind_,x.fst.Text_,x.fst.Num_,x.fst.At_,x.fst.Kids_),x.snd))).bind fun (y17:ZB)=>Sum.elim (fun (y18:ze)=>some (Sum.inl y18)) (fun (y19:ZC)=>some (Sum.inr y19)) y17).bind fun (y20:ZB)=>Sum.elim (fun (y21:ze)=>some (Sum.inl y21)) (fun (y22:ZC)=>some (Sum.inr y22)) y20).bind fun (y23:ZB)=>Sum.elim (fun (y24:ze)=>some (Sum.inl y24)) (fun (y25:ZC)=>some (Sum.inr y25)) y23).bind fun (y26:ZB)=>Sum.elim (fun (y27:ze)=>some (Sum.inl y27)) (fun (y28:ZC)=>some (Sum.inr y28)) y26).bind fun (y29:ZB)=>Sum.elim (fun (y30:ze)=>some (Sum.inl y30)) (fun (y31:ZC)=>some (Sum.inr y31)) y29).bind fun (y32:ZB)=>Sum.elim (fun (y33:ze)=>some (Sum.inl y33)) (fun (y34:ZC)=>some (Sum.inr y34)) y32).bind fun (y35:ZB)=>Sum.elim (fun (y36:ze)=>some (Sum.inl y36)) (fun (y37:ZC)=>some (Sum.inr y37)) y35).bind fun (y38:ZB)=>Sum.elim (fun (y39:ze)=>some (Sum.inl y39)) (fun (y40:ZC)=>some (Sum.inr y40)) y38).bind fun (y41:ZB)=>Sum.elim (fun (y42:ze)=>some y42) (fun (y43:ZC)=>(f79 (0,y43)).bind fun (y44:zz)=>bif !false && decide (ByteArray.size y44.fst+1≤9223372036854775807) then some (y44.fst++lit [59]) else none) y41 else none else none else none
theorem qd3 {f64 g64:Int→Option ByteArray}(h64:∀ x,Le (f64 x) (g64 x)) {f79 g79:yx→Option zz}(h79:∀ x,Le (f79 x) (g79 x)) {f78 g78:Wj→Option ByteArray}(h78:∀ x,Le (f78 x) (g78 x)) {f71 g71:xd→Option ByteArray}(h71:∀ x,Le (f71 x) (g71 x)) (x):Le (q97 f64 f79 f78 f71 x) (q4a g64 g79 g78 g71 x):=by
  unfold q97 q4a
  repeat (first | with_reducible exact Le.refl _ | with_reducible exact h64 _ | with_reducible exact h79 _ | with_reducible exact h78 _ | with_reducible exact h71 _ | (refine Le.lpW (fun _=>?_) _) | (with_reducible refine Le.bind ?_ (fun _=>?_)) | (with_reducible refine Le.ite ?_ ?_) | (with_reducible refine Le.gag ?_ ?_) | (with_reducible refine Le.cond ?_ ?_) | (with_reducible refine Le.elim (fun _=>?_) (fun _=>?_)))
noncomputable def q98 (h:zw):zw:=q97 q6q (q82 h) (q80 h) (q47 h)
theorem qb0 {h g:(q9×Int)→Option ByteArray}(hh:∀ x,Le (h x) (g x)) (x):Le (q98 h x) (q1w g x):=qd3 q7t (q9q hh) (q9p hh) (q4i hh) x
noncomputable def q8f (f62:vW) (f60:zG) (f80:zN) (f61:zG) (f77:zN) (f75:V6) (f74:zN) (f73:zN) (f72:zN) (f70:zN):zcS→Option (Step zcS ByteArray):=fun (y11:zcS)=>if decide (y11.snd.snd.fst < y11.snd.fst)=true then (f75 y11.snd.snd).bind fun (y12:zz)=>bif !false && decide (ByteArray.size y12.fst+1≤9223372036854775807) then bif !false && decide (ByteArray.size y11.fst+(y12.fst++lit [10]).size≤9223372036854775807) then some (Step.next (y11.fst++(y12.fst++lit [10]),y11.snd.fst,IntKind.i64.wrap (y11.snd.snd.fst+1),y12.snd)) else none else none else some (Step.done y11.fst)
theorem qcp {f62 g62:q9→Option Bool}(h62:∀ x,Le (f62 x) (g62 x)) {f60 g60:Int→Option Bool}(h60:∀ x,Le (f60 x) (g60 x)) {f80 g80:q9×Int→Option ByteArray}(h80:∀ x,Le (f80 x) (g80 x)) {f61 g61:Int→Option Bool}(h61:∀ x,Le (f61 x) (g61 x)) {f77 g77:q9×Int→Option ByteArray}(h77:∀ x,Le (f77 x) (g77 x)) {f75 g75:yx→Option zz}(h75:∀ x,Le (f75 x) (g75 x)) {f74 g74:q9×Int→Option ByteArray}(h74:∀ x,Le (f74 x) (g74 x)) {f73 g73:q9×Int→Option ByteArray}(h73:∀ x,Le (f73 x) (g73 x)) {f72 g72:q9×Int→Option ByteArray}(h72:∀ x,Le (f72 x) (g72 x)) {f70 g70:q9×Int→Option ByteArray}(h70:∀ x,Le (f70 x) (g70 x)) (y):Le (q8f f62 f60 f80 f61 f77 f75 f74 f73 f72 f70 y) (q3k g62 g60 g80 g61 g77 g75 g74 g73 g72 g70 y):=by
  unfold q8f q3k
  repeat (first | with_reducible exact Le.refl _ | with_reducible exact h62 _ | with_reducible exact h60 _ | with_reducible exact h80 _ | with_reducible exact h61 _ | with_reducible exact h77 _ | with_reducible exact h75 _ | with_reducible exact h74 _ | with_reducible exact h73 _ | with_reducible exact h72 _ | with_reducible exact h70 _ | (refine Le.lpW (fun _=>?_) _) | (with_reducible refine Le.bind ?_ (fun _=>?_)) | (with_reducible refine Le.ite ?_ ?_) | (with_reducible refine Le.gag ?_ ?_) | (with_reducible refine Le.cond ?_ ?_) | (with_reducible refine Le.elim (fun _=>?_) (fun _=>?_)))
noncomputable def q99 (f62:vW) (f60:zG) (f80:zN) (f61:zG) (f77:zN) (f75:V6) (f74:zN) (f73:zN) (f72:zN) (f70:zN) (x:q9×Int):Option ByteArray:=(f62 (q9.mk x.fst.Kind_ x.fst.Text_ x.fst.Num_ x.fst.At_ x.fst.Kids_)).bind fun (y0:Bool)=>(if (!y0)=true then some (Sum.inl (lit [63])) else (f60 x.fst.Kind_).bind fun (y1:Bool)=>(if y1=true then (f80 (q9.mk x.fst.Kind_ x.fst.Text_ x.fst.Num_ x.fst.At_ x.fst.Kids_,x.snd)).bind fun (y2:ze)=>some (Sum.inl y2) else (f61 x.fst.Kind_).bind fun (y3:Bool)=>if y3=true then (f77 (q9.mk x.fst.Kind_ x.fst.Text_ x.fst.Num_ x.fst.At_ x.fst.Kids_,x.snd)).bind fun (y4:ze)=>some (Sum.inl y4) else some (Sum.inr ((x.fst.Kind_,x.fst.Text_,x.fst.Num_,x.fst.At_,x.fst.Kids_),x.snd))).bind fun (y5:ZB)=>Sum.elim (fun (y6:ze)=>some (Sum.inl y6)) (fun (y7:ZC)=>some (Sum.inr y7)) y5).bind fun (y8:ZB)=>Sum.elim (fun (y9:ze)=>some y9) (fun (y10:ZC)=>(if decide (y10.fst.fst=0)=true then (lpW (q8f f62 f60 f80 f61 f77 f75 f74 f73 f72 f70) (lit [],Sl.len y10.fst.snd.snd.snd.snd,0,y10)).bind fun (y13:ze)=>some (Sum.inl y13) else (if decide (y10.fst.fst=1)=true then (f74 (q9.mk y10.fst.fst y10.fst.snd.fst y10.fst.snd.snd.fst y10.fst.snd.snd.snd.fst y10.fst.snd.snd.snd.snd,y10.snd)).bind fun (y14:ze)=>some (Sum.inl y14) else (if decide (y10.fst.fst=2)=true then if decide (0 < Sl.len y10.fst.snd.snd.snd.snd)=true then (wJ (bif !false && decide (ByteArray.size y10.fst.snd.fst+1≤9223372036854775807) then (f75 (0,y10)).bind fun (y15:zz)=>bif !false && decide ((y10.fst.snd.fst++lit [32]).size+ByteArray.size y15.fst≤9223372036854775807) then some (y10.fst.snd.fst++lit [32]++y15.fst) else none else none) ((f75 (0,y10)).bind fun (y16:zz)=>bif !false && decide (ByteArray.size y16.snd.fst.snd.fst+1≤9223372036854775807) then bif !false && decide ((y16.snd.fst.snd.fst++lit [32]).size+ByteArray.size y16.fst≤9223372036854775807) then some (y16.snd.fst.snd.fst++lit [32]++y16.fst) else none else none)).bind fun (y17:ze)=>some (Sum.inl y17) else some (Sum.inr y10.fst) else (if decide (y10.fst.fst=3)=true then if decide (0 < Sl.len y10.fst.snd.snd.snd.snd)=true then (wJ (bif !false && decide (ByteArray.size y10.fst.snd.fst+1≤9223372036854775807) then (f75 (0,y10)).bind fun (y18:zz)=>bif !false && decide ((y10.fst.snd.fst++lit [91]).size+ByteArray.size y18.fst≤9223372036854775807) then bif !false && decide ((y10.fst.snd.fst++lit [91]++y18.fst).size+1≤9223372036854775807) then some (y10.fst.snd.fst++lit [91]++y18.fst++lit [93]) else none else none else none) ((f75 (0,y10)).bind fun (y19:zz)=>bif !false && decide (ByteArray.size y19.snd.fst.snd.fst+1≤9223372036854775807) then bif !false && decide ((y19.snd.fst.snd.fst++lit [91]).size+ByteArray.size y19.fst≤9223372036854775807) then bif !false && decide ((y19.snd.fst.snd.fst++lit [91]++y19.fst).size+1≤9223372036854775807) then some (y19.snd.fst.snd.fst++lit [91]++y19.fst++lit [93]) else none else none else none)).bind fun (y20:ze)=>some (Sum.inl y20) else some (Sum.inr y10.fst) else (if decide (y10.fst.fst=4)=true then (wJ ((f75 (0,y10)).bind fun (y21:zz)=>bif !false && decide (ByteArray.size y21.fst+1≤9223372036854775807) then wJ (bif !false && decide ((y21.fst++lit [32]).size+ByteArray.size y21.snd.fst.snd.fst≤9223372036854775807) then bif !false && decide ((y21.fst++lit [32]++y21.snd.fst.snd.fst).size+1≤9223372036854775807) then (f75 (1,y21.snd)).bind fun (y22:zz)=>bif !false && decide ((y21.fst++lit [32]++y21.snd.fst.snd.fst++lit [32]).size+ByteArray.size y22.fst≤9223372036854775807) then some (y21.fst++lit [32]++y21.snd.fst.snd.fst++lit [32]++y22.fst) else none else none else none) ((f75 (1,y21.snd)).bind fun (y23:zz)=>bif !false && decide ((y21.fst++lit [32]).size+ByteArray.size y23.snd.fst.snd.fst≤9223372036854775807) then bif !false && decide ((y21.fst++lit [32]++y23.snd.fst.snd.fst).size+1≤9223372036854775807) then bif !false && decide ((y21.fst++lit [32]++y23.snd.fst.snd.fst++lit [32]).size+ByteArray.size y23.fst≤9223372036854775807) then some (y21.fst++lit [32]++y23.snd.fst.snd.fst++lit [32]++y23.fst) else none else none else none) else none) ((f75 (0,y10)).bind fun (y24:zz)=>bif !false && decide (ByteArray.size y24.fst+1≤9223372036854775807) then bif !false && decide ((y24.fst++lit [32]).size+ByteArray.size y10.fst.snd.fst≤9223372036854775807) then bif !false && decide ((y24.fst++lit [32]++y10.fst.snd.fst).size+1≤9223372036854775807) then (f75 (1,y24.snd)).bind fun (y25:zz)=>bif !false && decide ((y24.fst++lit [32]++y10.fst.snd.fst++lit [32]).size+ByteArray.size y25.fst≤9223372036854775807) then some (y24.fst++lit [32]++y10.fst.snd.fst++lit [32]++y25.fst) else none else none else none else none)).bind fun (y26:ze)=>some (Sum.inl y26) else (if decide (y10.fst.fst=6)=true then (f73 (q9.mk y10.fst.fst y10.fst.snd.fst y10.fst.snd.snd.fst y10.fst.snd.snd.snd.fst y10.fst.snd.snd.snd.snd,y10.snd)).bind fun (y27:ze)=>some (Sum.inl y27) else (if decide (y10.fst.fst=7)=true then (wJ (bif !false && decide (ByteArray.size y10.fst.snd.fst+2≤9223372036854775807) then (f75 (0,y10)).bind fun (y28:zz)=>bif !false && decide ((y10.fst.snd.fst++lit [58,32]).size+ByteArray.size y28.fst≤9223372036854775807) then some (y10.fst.snd.fst++lit [58,32]++y28.fst) else none else none) ((f75 (0,y10)).bind fun (y29:zz)=>bif !false && decide (ByteArray.size y29.snd.fst.snd.fst+2≤9223372036854775807) then bif !false && decide ((y29.snd.fst.snd.fst++lit [58,32]).size+ByteArray.size y29.fst≤9223372036854775807) then some (y29.snd.fst.snd.fst++lit [58,32]++y29.fst) else none else none)).bind fun (y30:ze)=>some (Sum.inl y30) else (if decide (y10.fst.fst=8)=true then (f72 (q9.mk y10.fst.fst y10.fst.snd.fst y10.fst.snd.snd.fst y10.fst.snd.snd.snd.fst y10.fst.snd.snd.snd.snd,y10.snd)).bind fun (y31:ze)=>some (Sum.inl y31) else if decide (y10.fst.fst=9)=true then (f70 (q9.mk y10.fst.fst y10.fst.snd.fst y10.fst.snd.snd.fst y10.fst.snd.snd.snd.fst y10.fst.snd.snd.snd.snd,y10.snd)).bind fun (y32:ze)=>some (Sum.inl y32) else some (Sum.inr y10.fst)).bind fun (y33:yO)=>Sum.elim (fun (y34:ze)=>some (Sum.inl y34)) (fun (y35:yD)=>some (Sum.inr y35)) y33).bind fun (y36:yO)=>Sum.elim (fun (y37:ze)=>some (Sum.inl y37)) (fun (y38:yD)=>some (Sum.inr y38)) y36).bind fun (y39:yO)=>Sum.elim (fun (y40:ze)=>some (Sum.inl y40)) (fun (y41:yD)=>some (Sum.inr y41)) y39).bind fun (y42:yO)=>Sum.elim (fun (y43:ze)=>some (Sum.inl y43)) (fun (y44:yD)=>some (Sum.inr y44)) y42).bind fun (y45:yO)=>Sum.elim (fun (y46:ze)=>some (Sum.inl y46)) (fun (y47:yD)=>some (Sum.inr y47)) y45).bind fun (y48:yO)=>Sum.elim (fun (y49:ze)=>some (Sum.inl y49)) (fun (y50:yD)=>some (Sum.inr y50)) y48).bind fun (y51:yO)=>Sum.elim (fun (y52:ze)=>some (Sum.inl y52)) (fun (y53:yD)=>some (Sum.inr y53)) y51).bind fun (y54:yO)=>Sum.elim (fun (y55:ze)=>some y55) (fun (y56:yD)=>some y56.snd.fst) y54) y8
theorem qd4 {f62 g62:q9→Option Bool}(h62:∀ x,Le (f62 x) (g62 x)) {f60 g60:Int→Option Bool}(h60:∀ x,Le (f60 x) (g60 x)) {f80 g80:q9×Int→Option ByteArray}(h80:∀ x,Le (f80 x) (g80 x)) {f61 g61:Int→Option Bool}(h61:∀ x,Le (f61 x) (g61 x)) {f77 g77:q9×Int→Option ByteArray}(h77:∀ x,Le (f77 x) (g77 x)) {f75 g75:yx→Option zz}(h75:∀ x,Le (f75 x) (g75 x)) {f74 g74:q9×Int→Option ByteArray}(h74:∀ x,Le (f74 x) (g74 x)) {f73 g73:q9×Int→Option ByteArray}(h73:∀ x,Le (f73 x) (g73 x)) {f72 g72:q9×Int→Option ByteArray}(h72:∀ x,Le (f72 x) (g72 x)) {f70 g70:q9×Int→Option ByteArray}(h70:∀ x,Le (f70 x) (g70 x)) (x):Le (q99 f62 f60 f80 f61 f77 f75 f74 f73 f72 f70 x) (q4b g62 g60 g80 g61 g77 g75 g74 g73 g72 g70 x):=by
  unfold q99 q4b
  repeat (first | with_reducible exact Le.refl _ | with_reducible exact h62 _ | with_reducible exact h60 _ | with_reducible exact h80 _ | with_reducible exact h61 _ | with_reducible exact h77 _ | with_reducible exact h75 _ | with_reducible exact h74 _ | with_reducible exact h73 _ | with_reducible exact h72 _ | with_reducible exact h70 _ | (refine qcp ?_ ?_ ?_ ?_ ?_ ?_ ?_ ?_ ?_ ?_ _ <;> assumption) | (refine Le.lpW (fun _=>?_) _) | (with_reducible refine Le.bind ?_ (fun _=>?_)) | (with_reducible refine Le.ite ?_ ?_) | (with_reducible refine Le.gag ?_ ?_) | (with_reducible refine Le.cond ?_ ?_) | (with_reducible refine Le.elim (fun _=>?_) (fun _=>?_)))
noncomputable def qbg (h:zw):zw:=q99 qca q6t (q98 h) q6c (q96 h) (q7w h) (q9v h) (qao h) (q93 h) (q8d h)
theorem qd5 {h g:(q9×Int)→Option ByteArray}(hh:∀ x,Le (h x) (g x)) (x):Le (qbg h x) (q4c g x):=qd4 qdt q8l (qb0 hh) q84 (qaz hh) (q9n hh) (qbf hh) (qbw hh) (qay hh) (qa6 hh) x
noncomputable def q1c:Nat→(q9×Int)→Option ByteArray
  |0=>fun _=>none
  |k+1=>qbg (q1c k)
theorem q1b:∀ j k,j≤k→∀ x,Le (q1c j x) (qm k x)
  |0,k,_=>fun x a h=>by cases h
  |j+1,0,h=>by omega
  |j+1,k+1,h=>qd5 (q1b j k (by omega))
noncomputable def qc1:zw:=q1c 200
theorem qdl (x):Le (qc1 x) (q83 x):=q1b 200 100000 (by omega) x
noncomputable def q9a (f81:zN) (x:q9):Option ByteArray:=(f81 (q9.mk x.Kind_ x.Text_ x.Num_ x.At_ x.Kids_,0)).bind fun (y0:ze)=>some y0
theorem qda {f81 g81:q9×Int→Option ByteArray}(h81:∀ x,Le (f81 x) (g81 x)) (x):Le (q9a f81 x) (q7f g81 x):=by
  unfold q9a q7f
  repeat (first | with_reducible exact Le.refl _ | with_reducible exact h81 _ | (refine Le.lpW (fun _=>?_) _) | (with_reducible refine Le.bind ?_ (fun _=>?_)) | (with_reducible refine Le.ite ?_ ?_) | (with_reducible refine Le.gag ?_ ?_) | (with_reducible refine Le.cond ?_ ?_) | (with_reducible refine Le.elim (fun _=>?_) (fun _=>?_)))
noncomputable def qc2:Xn:=q9a qc1
theorem qdm (x):Le (qc2 x) (q36 x):=qda qdl x
noncomputable def q4t (f56:ze8) (f2:zcX) (f82:Xn) (x:Unit):Option Bool:=(f56 (lit [102,110,32,102,40,41,123,120,61,45,49,59,125])).bind fun (y0:zcd)=>(f2 (lit [97,10,98,99],3)).bind fun (y1:ZT)=>(if decide (y0.snd.snd=0)=true then (f82 (q9.mk y0.fst.Kind_ y0.fst.Text_ y0.fst.Num_ y0.fst.At_ y0.fst.Kids_)).bind fun (y2:ze)=>if decide (y2=lit [102,110,32,102,40,41,32,123,10,32,32,32,32,120,32,61,32,45,49,59,10,125,10])=true then if decide (y1.fst=2)=true then some (decide (y1.snd=2)) else some false else some false else some false).bind fun (y3:Bool)=>some y3
theorem q9i {f56 g56:ze→Option zcd}(h56:∀ x,Le (f56 x) (g56 x)) {f2 g2:Zt→Option ZT}(h2:∀ x,Le (f2 x) (g2 x)) {f82 g82:q9→Option ByteArray}(h82:∀ x,Le (f82 x) (g82 x)) (x):Le (q4t f56 f2 f82 x) (q37 g56 g2 g82 x):=by
  unfold q4t q37
  repeat (first | with_reducible exact Le.refl _ | with_reducible exact h56 _ | with_reducible exact h2 _ | with_reducible exact h82 _ | (refine Le.lpW (fun _=>?_) _) | (with_reducible refine Le.bind ?_ (fun _=>?_)) | (with_reducible refine Le.ite ?_ ?_) | (with_reducible refine Le.gag ?_ ?_) | (with_reducible refine Le.cond ?_ ?_) | (with_reducible refine Le.elim (fun _=>?_) (fun _=>?_)))
noncomputable def qa7:vV:=q4t (fun s=>some (xB s)) qbt qc2
theorem q9w (x):Le (qa7 x) (qt x):=q9i (le_of_eq zeN) qdf qdm x
end Go.Px
namespace Go.Px
set_option linter.unusedVariables false
set_option linter.unusedSimpArgs false
def zhs:List UInt8→Nat
  |[]=>1
  |b::l=>if b=10 then 1 else zhs l+1
theorem zf8:∀ l:List UInt8,zhs l≤l.length+1
  |[]=>Nat.le_refl _
  |b::l=>by
    unfold zhs
    have:=zf8 l
    split
    · simp
    · simp only [List.length_cons];omega
def Xh (l:List UInt8) (k:Nat):Nat:=zhs (l.take k).reverse
def Xi (l:List UInt8) (k:Nat):Nat:=(l.take k).count 10+1
theorem zb1 {l:List UInt8}{k:Nat}{c:UInt8}(h:l[k]?=some c):l.take (k+1)=l.take k++[c]:=by
  rw [List.take_add_one,h];rfl
theorem VX {l:List UInt8}{k:Nat}{c:UInt8}(h:l[k]?=some c):Xh l (k+1)=if c=10 then 1 else Xh l k+1:=by
  unfold Xh
  rw [zb1 h,List.reverse_append]
  rfl
theorem zdq {l:List UInt8}{k:Nat}{c:UInt8}(h:l[k]?=some c):Xi l (k+1)=if c=10 then Xi l k+1 else Xi l k:=by
  unfold Xi
  rw [zb1 h,List.count_append,List.count_singleton]
  by_cases hc:c=10
  · subst hc;simp
  · rw [if_neg hc];simp [hc]
theorem zcM (l:List UInt8) (k:Nat) (h:k≤l.length):Xi l k≤l.length+1:=by
  unfold Xi
  have h1:=List.count_le_length (a:=(10:UInt8)) (l:=l.take k)
  rw [List.length_take] at h1
  omega
theorem zcN (l:List UInt8) (k:Nat) (h:k≤l.length):Xh l k≤l.length+1:=by
  unfold Xh
  have h1:=zf8 (l.take k).reverse
  rw [List.length_reverse,List.length_take] at h1
  omega
theorem wo (c:UInt8):((c.toNat:Int)=10)↔c=10:=by
  constructor
  · intro h
    apply UInt8.toNat_inj.1
    show c.toNat=10
    omega
  · intro h;subst h;rfl
theorem zlA {s:ByteArray}{k:Nat}{c:UInt8}(h:(bs s)[k]?=some c):s.data[k]! = c:=by
  have h:s.data.toList[k]?=some c:=h
  rw [Array.getElem!_eq_getD,Array.getD_eq_getD_getElem?]
  rw [Array.getElem?_toList] at h
  rw [h];rfl
theorem zaO (s:ze):∀ k:Nat,k≤s.size→(k:Int) - Lib.lastIdx s 10 k=(Xh (bs s) k:Nat)
  |0,_=>by
    show (0:Int) - (-1)=((1:Nat):Int)
    rfl
  |k+1,h=>by
    have hl:k < (bs s).length:=by rw [Zr];omega
    have hc:(bs s)[k]?=some (bs s)[k]:=List.getElem?_eq_getElem hl
    rw [VX hc]
    unfold Lib.lastIdx
    rw [zlA hc]
    have ih:=zaO s k (by omega)
    by_cases h10:(bs s)[k]=10
    · rw [if_pos ((wo _).2 h10),if_pos h10];simp;omega
    · rw [if_neg (fun e=>h10 ((wo _).1 e)),if_neg h10];simp;omega
theorem zkb {s:ByteArray}{k:Nat}(h:k≤s.size):bs (s.extract 0 k)=(bs s).take k:=by
  rw [wc];rfl
theorem zi4 {s:ByteArray}{k:Nat}(h:k≤s.size):(s.extract 0 k).size=k:=by
  rw [← Zr,zkb h,List.length_take,Zr];omega
theorem wQ {s:ByteArray}{k:Nat}(hs:s.size < 4611686018427387904) (h:k≤s.size) :
    q14 (s,(k:Int))=some (((Xi (bs s) k:Nat):Int),((Xh (bs s) k:Nat):Int)):=by
  unfold q14 q52
  have e1:¬ ((k:Int) < 0):=by omega
  have e2:¬ ((s.size:Int) < (k:Int)):=by omega
  have hz:=zi4 h
  have hc:q5q (s.extract 0 k,lit [10])=some ((((bs s).take k).count 10:Nat):Int):=by
    show some ((Lib.countByte (bs (s.extract 0 k)) 10:Nat):Int)=_
    rw [zkb h];rfl
  have hl:q2u (s.extract 0 k,10)=some (Lib.lastIndexByte (s.extract 0 k) 10):=by
    show ZU _=_
    unfold ZU
    rw [if_pos (by show (s.extract 0 k).size < _;rw [hz];omega)]
  have hcol:(k:Int) - Lib.lastIndexByte (s.extract 0 k) 10=(Xh (bs s) k:Nat):=by
    have h1:=zaO (s.extract 0 k) k (by rw [hz];exact Nat.le_refl _)
    unfold Lib.lastIndexByte
    rw [hz,h1,zkb h]
    unfold Xh
    rw [List.take_take,Nat.min_self]
  have hb1:=zcM (bs s) k (by rw [Zr];exact h)
  have hb2:=zcN (bs s) k (by rw [Zr];exact h)
  rw [Zr] at hb1 hb2
  have hsl:z8 s 0 (k:Int)=some (s.extract 0 k):=XI (i:=0) (Nat.zero_le _) h
  simp only [decide_eq_true_eq,if_neg e1,if_neg e2,Option.bind_some,hsl,hc,hl]
  rw [hcol]
  have hw:IntKind.i64.wrap ((((bs s).take k).count 10:Nat)+1:Int)=((Xi (bs s) k:Nat):Int):=ZV (by unfold Xi at hb1;omega)
  rw [hw,zjZ (by omega)]
theorem VY {s:ByteArray}(hs:s.size < 4611686018427387904) {k:Nat}(h:k≤s.size):∀ (n i:Nat),n+i=k→
    lpO q2c (s,(k:Int),((Xi (bs s) i:Nat):Int),((Xh (bs s) i:Nat):Int),(i:Int))=some (((Xi (bs s) k:Nat):Int),((Xh (bs s) k:Nat):Int))
  |0,i,hi=>by
    have hi:i=k:=by omega
    subst hi
    rw [zC]
    unfold q2c
    simp
  |n+1,i,hi=>by
    have hl:i < (bs s).length:=by rw [Zr];omega
    have hc:(bs s)[i]?=some (bs s)[i]:=List.getElem?_eq_getElem hl
    have ih:=VY hs h n (i+1) (by omega)
    rw [zdq hc,VX hc] at ih
    have hb1:=zcM (bs s) i (by omega)
    have hb2:=zcN (bs s) i (by omega)
    rw [Zr] at hb1 hb2
    rw [zC]
    unfold q2c
    dsimp only
    rw [if_pos (by simp;omega),xX hc]
    rw [Option.bind_some]
    by_cases h10:(bs s)[i]=10
    · rw [if_pos h10,if_pos h10] at ih
      rw [if_pos (by simpa using (wo _).2 h10)]
      dsimp only [Option.bind_some]
      rw [ZV (by omega),ZV (by omega)]
      exact ih
    · rw [if_neg h10,if_neg h10] at ih
      rw [if_neg (by simpa using fun e=>h10 ((wo _).1 e))]
      dsimp only [Option.bind_some]
      rw [ZV (by omega),ZV (by omega)]
      exact ih
theorem zht {s:ByteArray}{k:Nat}(hs:s.size < 4611686018427387904) (h:k≤s.size) :
    q1d (s,(k:Int))=some (((Xi (bs s) k:Nat):Int),((Xh (bs s) k:Nat):Int)):=by
  unfold q1d q3p
  have e1:¬ ((k:Int) < 0):=by omega
  have e2:¬ ((s.size:Int) < (k:Int)):=by omega
  have hlp:=VY hs h k 0 (by omega)
  have h0:((Xi (bs s) 0:Nat):Int)=1:=rfl
  have h1:((Xh (bs s) 0:Nat):Int)=1:=rfl
  rw [h0,h1] at hlp
  simp only [decide_eq_true_eq,if_neg e1,if_neg e2,Option.bind_some]
  have hlp:lpO q2c (s,(k:Int),1,1,0)=_:=hlp
  rw [hlp];rfl
theorem zkc {s:ByteArray}{k:Int}(h:k < 0∨(s.size:Int) < k):q14 (s,k)=some (0,0)∧q1d (s,k)=some (0,0):=by
  unfold q14 q52 q1d q3p
  by_cases e1:k < 0
  · simp [e1]
  · have e2:(s.size:Int) < k:=by omega
    simp [e1,e2]
theorem zi5 {s:ByteArray}(hs:s.size < 4611686018427387904) (k:Int):∃ a b,q14 (s,k)=some (a,b)∧q1d (s,k)=some (a,b):=by
  by_cases h:k < 0∨(s.size:Int) < k
  · exact ⟨0,0,zkc h⟩
  · obtain ⟨n,rfl⟩:=Int.eq_ofNat_of_zero_le (show 0≤k by omega)
    have h:n≤s.size:=by omega
    exact ⟨_,_,wQ hs h,zht hs h⟩
theorem znu {w:Unit→Option Bool}(hw:w ()=some true) {s:ByteArray}(hs:s.size < 4611686018427387904) (k:Int) :
    q29 q14 q1d w (s,k)=some true:=by
  obtain ⟨a,b,h1,h2⟩:=zi5 hs k
  unfold q29
  rw [h1,h2,hw]
  simp
theorem VZ {s:ByteArray}(hs:s.size < 4611686018427387904) {w:Unit→Option Bool}{k:Nat}(h:k≤s.size):∀ (n i:Nat),n+i=k→
    lpO (q12 w q14) (s,((Xi (bs s) i:Nat):Int),((Xh (bs s) i:Nat):Int),(k:Int),(i:Int))=some (.inr ())
  |0,i,hi=>by
    have hi:i=k:=by omega
    subst hi
    rw [zC]
    unfold q12
    simp
  |n+1,i,hi=>by
    have hl:i < (bs s).length:=by rw [Zr];omega
    obtain ⟨c,hc⟩:∃ c,(bs s)[i]?=some c:=⟨_,List.getElem?_eq_getElem hl⟩
    have hwi:IntKind.i64.wrap ((i:Int)+1)=(i:Int)+1:=by rw [ZV (by omega)];simp
    have ih:=VZ hs (w:=w) h n (i+1) (by omega)
    have hb1:=zcM (bs s) i (by omega)
    have hb2:=zcN (bs s) i (by omega)
    rw [Zr] at hb1 hb2
    have hL:=wQ (k:=i+1) hs (by omega)
    rw [zdq hc,VX hc] at hL ih
    rw [zC]
    generalize hG:lpO (q12 w q14)=G at ih ⊢
    unfold q12
    dsimp only
    rw [if_pos (by simp;omega),ZV (by omega),hL]
    rw [Option.bind_some,xX hc]
    simp only [Option.bind_some]
    by_cases h10:c=10
    · rw [if_pos h10,if_pos h10] at ih
      simp only [if_pos h10,(wo _).2 h10]
      rw [ZV (by omega),ZV (by omega)]
      simpa [hwi] using ih
    · rw [if_neg h10,if_neg h10] at ih
      have h10':¬ ((c.toNat:Int)=10):=fun e=>h10 ((wo _).1 e)
      simp only [if_neg h10]
      rw [ZV (by omega),ZV (by omega)]
      simpa [h10',hwi] using ih
theorem znZ {w:Unit→Option Bool}(hw:w ()=some true) {s:ByteArray}(hs:s.size < 4611686018427387904) :
    q2g w q14 s=some true:=by
  have h0:=wQ (s:=s) (k:=0) hs (Nat.zero_le _)
  have e0:q14 (s,0)=some (1,1):=h0
  unfold q2g
  rw [hw,e0]
  by_cases h5:500 < (s.size:Int)
  · have hlp:=VZ hs (w:=w) (k:=500) (by omega) 500 0 (by omega)
    have hlp:lpO (q12 w q14) (s,1,1,500,0)=some (.inr ()):=hlp
    simp [h5,hlp]
  · have hlp:=VZ hs (w:=w) (k:=s.size) (Nat.le_refl _) s.size 0 (by omega)
    have hlp:lpO (q12 w q14) (s,1,1,(s.size:Int),0)=some (.inr ()):=hlp
    simp [h5,hlp]
end Go.Px
namespace Go.Px
theorem zkd:qt ()=some true:=q9w _ _ (by kernel_rfl)
end Go.Px
