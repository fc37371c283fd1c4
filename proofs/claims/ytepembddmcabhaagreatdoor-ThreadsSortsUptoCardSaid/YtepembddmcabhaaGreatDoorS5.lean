/- Part S5: PxW225. -/
import Derived.Test.YtepembddmcabhaaGreatDoorS4
namespace Go.Px
open Go.Proofs
set_option linter.unusedVariables false
set_option maxRecDepth 100000
set_option maxHeartbeats 4000000
set_option synthInstance.maxHeartbeats 4000000
set_option synthInstance.maxSize 100000
noncomputable def q38 (L:zc) (G:zf) (f158:zc7):zlJ→Option (Step zlJ zdp):=fun (y2:zlJ)=>if decide (y2.snd.snd.snd.fst < Sl.len y2.snd.fst)=true then (ze y2.snd.fst y2.snd.snd.snd.fst).bind fun (y3:q7)=>(ze y2.snd.snd.snd.snd y2.snd.snd.fst.fst).bind fun (y4:qg)=>(z6 y4.Vars_ y2.snd.snd.fst.snd.fst y2.snd.snd.fst.snd.snd).bind fun (y5:Sl qi)=>(ze y5 y2.snd.snd.snd.fst).bind fun (y6:qi)=>(ze y2.snd.snd.snd.snd y2.snd.snd.fst.fst).bind fun (y7:qg)=>(ze y7.Vars_ (y2.snd.snd.fst.snd.fst+y2.snd.snd.snd.fst)).bind fun (y8:qi)=>(f158 (y2.fst,q7.mk y3.Kind_ y3.Text_ y3.Num_ y3.At_ y3.Kids_,y8,y2.snd.snd.snd.snd)).bind fun (y9:Z6)=>if decide (y9.fst≠0)=true then some (Step.done (Sum.inl y9)) else some (Step.next (y2.fst,y2.snd.fst,y2.snd.snd.fst,IntKind.i64.wrap (y2.snd.snd.snd.fst+1),y9.snd)) else some (Step.done (Sum.inr y2.snd.snd.snd.snd))
noncomputable def q6z (L:zc) (G:zf) (f158:zc7) (x:zlN):Option Z6:=(ze x.snd.snd.snd x.snd.snd.fst.fst).bind fun (y0:qg)=>(z6 y0.Vars_ x.snd.snd.fst.snd.fst x.snd.snd.fst.snd.snd).bind fun (y1:Sl qi)=>if decide (Sl.len x.snd.fst≠x.snd.snd.fst.snd.snd - x.snd.snd.fst.snd.fst)=true then some (51,x.snd.snd.snd) else (L ((q38 L G) f158) (x.fst,x.snd.fst,x.snd.snd.fst,0,x.snd.snd.snd)).bind fun (y10:zdp)=>Sum.elim (fun (y11:Z6)=>some y11) (fun (y12:Sl qg)=>some (0,y12)) y10
noncomputable def q3r:zlN→Option Z6:=q6z lpW zh q1o
noncomputable def yS:zlN→Option Z6:=zo4.F
instance (y):LC (q38 lpW zh q1o y) (q38 lpO zg Zr y):=by
  unfold q38
  infer_instance
instance tw_lychgateref18_args_2 (x):LC (q3r x) (yS x):=by
  rw [show yS x=q6z lpO zg Zr x from by kernel_rfl]
  unfold q3r q6z
  infer_instance
noncomputable def q61 (L:zc) (G:zf) (f161:zio) (f156:zlG) (f160:zio) (f162:zqh) (f158:zc7):zly→Option (Step zly zbF):=fun (y14:zly)=>if decide (y14.snd.fst < Sl.len y14.snd.snd.snd.fst)=true then (ze y14.snd.snd.snd.fst y14.snd.fst).bind fun (y15:qg)=>(ze y14.snd.snd.snd.fst y14.snd.fst).bind fun (y16:qg)=>if decide (y16.Name_=y14.snd.snd.snd.snd.Text_)=true then (ze y14.snd.snd.snd.fst y14.snd.fst).bind fun (y17:qg)=>(ze y14.snd.snd.snd.fst y14.snd.fst).bind fun (y18:qg)=>(ze y14.snd.snd.snd.fst y14.snd.fst).bind fun (y19:qg)=>(ze y14.snd.snd.snd.fst y14.snd.fst).bind fun (y20:qg)=>(ze y14.snd.snd.snd.fst y14.snd.fst).bind fun (y21:qg)=>(z6 y21.Vars_ 0 y20.Params_).bind fun (y22:Sl qi)=>(f162 (y14.fst,y14.snd.snd.snd.snd.Kids_,(y14.snd.fst,0,y20.Params_),y14.snd.snd.snd.fst)).bind fun (y23:Z6)=>some (Step.done (Sum.inl (y23.fst,y14.snd.snd.fst,y23.snd))) else some (Step.next (y14.fst,IntKind.i64.wrap (y14.snd.fst+1),y14.snd.snd.fst,y14.snd.snd.snd.fst,q7.mk y14.snd.snd.snd.snd.Kind_ y14.snd.snd.snd.snd.Text_ y14.snd.snd.snd.snd.Num_ y14.snd.snd.snd.snd.At_ y14.snd.snd.snd.snd.Kids_)) else some (Step.done (Sum.inr (y14.snd.snd.fst,y14.snd.snd.snd.fst)))
noncomputable def qay (L:zc) (G:zf) (f161:zio) (f156:zlG) (f160:zio) (f162:zqh) (f158:zc7) (x:xY):Option vu:=(if decide (x.snd.fst.Kind_=10)=true then (ze x.snd.fst.Kids_ 0).bind fun (y0:q7)=>(f161 (x.fst,q7.mk y0.Kind_ y0.Text_ y0.Num_ y0.At_ y0.Kids_,x.snd.snd)).bind fun (y1:vY)=>if decide (y1.snd.fst≠0)=true then some (Sum.inl y1.snd) else (f156 (x.fst,x.snd.fst.Text_,y1.snd.snd.snd)).bind fun (y2:Z6)=>if decide (y2.fst < 0)=true then (ze y2.snd x.fst).bind fun (y3:qg)=>(ze y2.snd x.fst).bind fun (y4:qg)=>(zA 32 y4.Vars_ [qi.mk x.snd.fst.Text_ y1.fst.Mode_ y1.fst.Type_]).bind fun (y5:Sl qi)=>(ze y2.snd x.fst).bind fun (y6:qg)=>bif decide (x.fst=x.fst) then some (Sum.inl (0,y1.snd.snd.fst,Sl.set y2.snd x.fst (qg.mk y6.Name_ y6.Params_ y5))) else none else (ze y2.snd x.fst).bind fun (y7:qg)=>(ze y2.snd x.fst).bind fun (y8:qg)=>(ze y8.Vars_ y2.fst).bind fun (y9:qi)=>(ze y2.snd x.fst).bind fun (y10:qg)=>(ze y10.Vars_ y2.fst).bind fun (y11:qi)=>if (!(decide (y11.Name_=x.snd.fst.Text_) && (decide (y11.Mode_=y1.fst.Mode_) && (decide (y11.Type_=y1.fst.Type_) && true))))=true then some (Sum.inl (40,y1.snd.snd.fst,y2.snd)) else some (Sum.inl (0,y1.snd.snd.fst,y2.snd)) else (if decide (x.snd.fst.Kind_=20)=true then (ze x.snd.fst.Kids_ 0).bind fun (y12:q7)=>(f160 (x.fst,q7.mk y12.Kind_ y12.Text_ y12.Num_ y12.At_ y12.Kids_,x.snd.snd)).bind fun (y13:vY)=>some (Sum.inl y13.snd) else (if decide (x.snd.fst.Kind_=19)=true then (L ((q61 L G) f161 f156 f160 f162 f158) (x.fst,0,x.snd.snd.fst,x.snd.snd.snd,q7.mk x.snd.fst.Kind_ x.snd.fst.Text_ x.snd.fst.Num_ x.snd.fst.At_ x.snd.fst.Kids_)).bind fun (y24:zbF)=>Sum.elim (fun (y25:vu)=>some (Sum.inl y25)) (fun (y26:Zu)=>some (Sum.inl (31,y26))) y24 else (if decide (x.snd.fst.Kind_=15)=true then some (x.fst,x.snd.fst.Kind_,decide (x.snd.fst.Kind_=15),x.snd.snd.fst,x.snd.snd.snd,q7.mk x.snd.fst.Kind_ x.snd.fst.Text_ x.snd.fst.Num_ x.snd.fst.At_ x.snd.fst.Kids_,qi.mk (lit []) 1 0) else some (x.fst,x.snd.fst.Kind_,decide (x.snd.fst.Kind_=16),x.snd.snd.fst,x.snd.snd.snd,q7.mk x.snd.fst.Kind_ x.snd.fst.Text_ x.snd.fst.Num_ x.snd.fst.At_ x.snd.fst.Kids_,qi.mk (lit []) 1 0)).bind fun (y27:Int×Int×Bool×(Sl qh×Sl qd×Int×Int)×Sl qg×q7×qi)=>(if y27.snd.snd.fst=true then (ze y27.snd.snd.snd.snd.snd.fst.Kids_ 0).bind fun (y28:q7)=>(f158 (y27.fst,q7.mk y28.Kind_ y28.Text_ y28.Num_ y28.At_ y28.Kids_,y27.snd.snd.snd.snd.snd.snd,y27.snd.snd.snd.snd.fst)).bind fun (y29:Z6)=>if decide (y29.fst≠0)=true then some (Sum.inl (y29.fst,y27.snd.snd.snd.fst,y29.snd)) else (ze y27.snd.snd.snd.snd.snd.fst.Kids_ 1).bind fun (y30:q7)=>(f158 (y27.fst,q7.mk y30.Kind_ y30.Text_ y30.Num_ y30.At_ y30.Kids_,y27.snd.snd.snd.snd.snd.snd,y29.snd)).bind fun (y31:Z6)=>some (Sum.inl (y31.fst,y27.snd.snd.snd.fst,y31.snd)) else (if decide (y27.snd.fst=17)=true then if decide (0 < y27.snd.snd.snd.snd.snd.fst.Kids_.len)=true then some (Sum.inl (35,y27.snd.snd.snd.fst,y27.snd.snd.snd.snd.fst)) else some (Sum.inl (0,y27.snd.snd.snd.fst,y27.snd.snd.snd.snd.fst)) else if decide (y27.snd.fst=18)=true then some (Sum.inl (0,y27.snd.snd.snd.fst,y27.snd.snd.snd.snd.fst)) else some (Sum.inr (y27.snd.snd.snd.fst,y27.snd.snd.snd.snd.fst))).bind fun (y32:zbF)=>Sum.elim (fun (y33:vu)=>some (Sum.inl y33)) (fun (y34:Zu)=>some (Sum.inr y34)) y32).bind fun (y35:zbF)=>Sum.elim (fun (y36:vu)=>some (Sum.inl y36)) (fun (y37:Zu)=>some (Sum.inr y37)) y35).bind fun (y38:zbF)=>Sum.elim (fun (y39:vu)=>some (Sum.inl y39)) (fun (y40:Zu)=>some (Sum.inr y40)) y38).bind fun (y41:zbF)=>Sum.elim (fun (y42:vu)=>some (Sum.inl y42)) (fun (y43:Zu)=>some (Sum.inr y43)) y41).bind fun (y44:zbF)=>Sum.elim (fun (y45:vu)=>some y45) (fun (y46:Zu)=>some (50,y46)) y44
noncomputable def q3e:xY→Option vu:=qay lpW zh q60 q2a q2v q3r q1o
noncomputable def yF:xY→Option vu:=zo5.F
instance (y):LC (q61 lpW zh q60 q2a q2v q3r q1o y) (q61 lpO zg YT Z4 yv yS Zr y):=by
  unfold q61
  infer_instance
instance tw_lychgateref18_one (x):LC (q3e x) (yF x):=by
  rw [show yF x=qay lpO zg YT Z4 yv yS Zr x from by kernel_rfl]
  unfold q3e qay
  repeat (first | infer_instance | refine LCb ?_ fun _=>?_ | refine LCi ?_ ?_ | refine LCe (fun _=>?_) fun _=>?_)
noncomputable def q3s (L:zc) (G:zf) (f163:zpB) (f153:zcK) (f164:zfM):zll→Option (Step zll zc4):=fun (y6:zll)=>if decide (y6.snd.snd.snd.fst < y6.snd.snd.snd.snd.snd.snd.Kids_.len)=true then (ze y6.snd.snd.snd.snd.snd.snd.Kids_ y6.snd.snd.snd.fst).bind fun (y7:q7)=>(f164 (y6.fst,y7.Kids_,y6.snd.snd.snd.snd.fst,y6.snd.snd.snd.snd.snd.fst)).bind fun (y8:Zu)=>some (Step.next (y6.fst,y6.snd.fst,y6.snd.snd.fst,IntKind.i64.wrap (y6.snd.snd.snd.fst+1),y8.fst,y8.snd,q7.mk y6.snd.snd.snd.snd.snd.snd.Kind_ y6.snd.snd.snd.snd.snd.snd.Text_ y6.snd.snd.snd.snd.snd.snd.Num_ y6.snd.snd.snd.snd.snd.snd.At_ y6.snd.snd.snd.snd.snd.snd.Kids_)) else some (Step.done (y6.fst,y6.snd.fst,y6.snd.snd.fst,y6.snd.snd.snd.snd.fst,y6.snd.snd.snd.snd.snd.fst))
noncomputable def q3t (L:zc) (G:zf) (f163:zpB) (f153:zcK) (f164:zfM):zc4→Option (Step zc4 zqa):=fun (y0:zc4)=>(if decide (y0.snd.snd.fst < Sl.len y0.snd.fst)=true then some (y0.fst,y0.snd.fst,y0.snd.snd.fst,decide (y0.snd.snd.snd.fst.snd.snd.snd=0),y0.snd.snd.snd) else some (y0.fst,y0.snd.fst,y0.snd.snd.fst,false,y0.snd.snd.snd)).bind fun (y1:Int×Sl q7×Int×Bool×(Sl qh×Sl qd×Int×Int)×Sl qg)=>if y1.snd.snd.snd.fst=true then (ze y1.snd.fst y1.snd.snd.fst).bind fun (y2:q7)=>(f163 (y1.fst,q7.mk y2.Kind_ y2.Text_ y2.Num_ y2.At_ y2.Kids_,y1.snd.snd.snd.snd)).bind fun (y3:vu)=>if decide (y3.fst≠0)=true then (f153 (y2.At_,y3)).bind fun (y4:Zu)=>some (Step.done (Sum.inl y4)) else (if decide (y2.Kind_=15)=true then some (y1.fst,y1.snd.fst,y1.snd.snd.fst,true,y3.snd.fst,y3.snd.snd,q7.mk y2.Kind_ y2.Text_ y2.Num_ y2.At_ y2.Kids_) else some (y1.fst,y1.snd.fst,y1.snd.snd.fst,decide (y2.Kind_=16),y3.snd.fst,y3.snd.snd,q7.mk y2.Kind_ y2.Text_ y2.Num_ y2.At_ y2.Kids_)).bind fun (y5:Int×Sl q7×Int×Bool×(Sl qh×Sl qd×Int×Int)×Sl qg×q7)=>(if y5.snd.snd.snd.fst=true then (L ((q3s L G) f163 f153 f164) (y5.fst,y5.snd.fst,y5.snd.snd.fst,2,y5.snd.snd.snd.snd.fst,y5.snd.snd.snd.snd.snd.fst,q7.mk y5.snd.snd.snd.snd.snd.snd.Kind_ y5.snd.snd.snd.snd.snd.snd.Text_ y5.snd.snd.snd.snd.snd.snd.Num_ y5.snd.snd.snd.snd.snd.snd.At_ y5.snd.snd.snd.snd.snd.snd.Kids_)).bind fun (y9:zc4)=>some y9 else some (y5.fst,y5.snd.fst,y5.snd.snd.fst,y5.snd.snd.snd.snd.fst,y5.snd.snd.snd.snd.snd.fst)).bind fun (y10:zc4)=>some (Step.next (y10.fst,y10.snd.fst,IntKind.i64.wrap (y10.snd.snd.fst+1),y10.snd.snd.snd)) else some (Step.done (Sum.inr y1.snd.snd.snd.snd))
noncomputable def q81 (L:zc) (G:zf) (f163:zpB) (f153:zcK) (f164:zfM) (x:zeV):Option Zu:=(L ((q3t L G) f163 f153 f164) (x.fst,x.snd.fst,0,x.snd.snd)).bind fun (y11:zqa)=>Sum.elim (fun (y12:Zu)=>some y12) (fun (y13:Zu)=>some y13) y11
noncomputable def q82 (h:zed):zed:=q81 lpW zh q3e q1d h
noncomputable def w7 (h:zed):zed:=zkV h
instance {h g:zeV→Option Zu}[∀ x,LC (h x) (g x)] (y):LC (q3s lpW zh q3e q1d h y) (q3s lpO zg yF zY g y):=by
  unfold q3s
  infer_instance
instance {h g:zeV→Option Zu}[∀ x,LC (h x) (g x)] (y):LC (q3t lpW zh q3e q1d h y) (q3t lpO zg yF zY g y):=by
  unfold q3t
  infer_instance
instance tw_lychgateref18_stmtsv {h g:zeV→Option Zu}[∀ x,LC (h x) (g x)] (x):LC (q82 h x) (w7 g x):=by
  rw [show w7 g x=q81 lpO zg yF zY g x from by kernel_rfl]
  unfold q82 q81
  infer_instance
noncomputable def q83:Nat→zeV→Option Zu
  |0=>fun _=>none
  |k+1=>q82 (q83 k)
noncomputable def zaB (k:Nat):zed:=zgz k
theorem qca:∀ j k,j≤k→∀ x,LC (q83 j x) (zaB k x)
  |0,k,_=>fun x=>⟨fun a h=>by cases h⟩
  |j+1,0,h=>by omega
  |j+1,k+1,h=>@tw_lychgateref18_stmtsv _ _ (qca j k (by omega))
noncomputable def q4w:zed:=q83 200
noncomputable def Yo:zed:=zsL
instance tw_lychgateref18_stmts (x):LC (q4w x) (Yo x):=qca 200 100000 (by omega) x
noncomputable def qbi (L:zc) (G:zf) (x:q7):Option qn:=some (qn.mk x.Text_ x.Num_)
noncomputable def q1g:vx:=qbi lpW zh
noncomputable def Zf:vx:=zfJ.F
instance tw_lychgateref07_of (x):LC (q1g x) (Zf x):=by
  rw [show Zf x=qbi lpO zg x from by kernel_rfl]
  unfold q1g qbi
  infer_instance
noncomputable def q3u (L:zc) (G:zf) (f165:vx):zml→Option (Step zml (Sl qn)):=fun (y0:zml)=>if decide (y0.snd.fst < Sl.len y0.fst)=true then (ze y0.fst y0.snd.fst).bind fun (y1:q7)=>(f165 (q7.mk y1.Kind_ y1.Text_ y1.Num_ y1.At_ y1.Kids_)).bind fun (y2:qn)=>(zA 24 y0.snd.snd [y2]).bind fun (y3:Sl qn)=>some (Step.next (y0.fst,IntKind.i64.wrap (y0.snd.fst+1),y3)) else some (Step.done y0.snd.snd)
noncomputable def q84 (L:zc) (G:zf) (f165:vx) (x:Sl q7):Option (Sl qn):=(L ((q3u L G) f165) (x,0,Sl.mk [] false)).bind fun (y4:Sl qn)=>some y4
noncomputable def q4x:(Sl q7)→Option (Sl qn):=q84 lpW zh q1g
noncomputable def Yp:(Sl q7)→Option (Sl qn):=zkX.F
instance (y):LC (q3u lpW zh q1g y) (q3u lpO zg Zf y):=by
  unfold q3u
  infer_instance
instance tw_lychgateref07_terms (x):LC (q4x x) (Yp x):=by
  rw [show Yp x=q84 lpO zg Zf x from by kernel_rfl]
  unfold q4x q84
  infer_instance
noncomputable def qaz (L:zc) (G:zf) (f165:vx) (f166:Sl q7→Option (Sl qn)) (x:q7):Option zld:=(ze x.Kids_ 0).bind fun (y0:q7)=>(if decide (y0.Kind_=26)=true then some (y0.Kind_,decide (y0.Kind_=26),(0,0,lit [],lit [],lit [],0,lit [],0,0,false),q7.mk y0.Kind_ y0.Text_ y0.Num_ y0.At_ y0.Kids_,0,x.At_,x.Text_,lit [],y0.Text_,y0.Num_,lit [],0,0,false) else some (y0.Kind_,decide (y0.Kind_=27),(0,0,lit [],lit [],lit [],0,lit [],0,0,false),q7.mk y0.Kind_ y0.Text_ y0.Num_ y0.At_ y0.Kids_,0,x.At_,x.Text_,lit [],y0.Text_,y0.Num_,lit [],0,0,false)).bind fun (y1:Int×Bool×(Int×Int×ByteArray×ByteArray×ByteArray×Int×ByteArray×Int×Int×Bool)×q7×Int×Int×ByteArray×ByteArray×ByteArray×Int×ByteArray×Int×Int×Bool)=>(if y1.snd.fst=true then some (y1.snd.snd.fst,(y1.snd.snd.snd.snd.fst,y1.snd.snd.snd.snd.snd.fst,y1.snd.snd.snd.snd.snd.snd.fst,y1.snd.snd.snd.snd.snd.snd.snd.fst,y1.snd.snd.snd.fst.Text_,0,y1.snd.snd.snd.snd.snd.snd.snd.snd.snd.snd),Sl.mk [] false) else (if decide (y1.fst=21)=true then (ze y1.snd.snd.snd.fst.Kids_ 0).bind fun (y2:q7)=>(f165 (q7.mk y2.Kind_ y2.Text_ y2.Num_ y2.At_ y2.Kids_)).bind fun (y3:qn)=>(ze y1.snd.snd.snd.fst.Kids_ 1).bind fun (y4:q7)=>(f165 (q7.mk y4.Kind_ y4.Text_ y4.Num_ y4.At_ y4.Kids_)).bind fun (y5:qn)=>some (y1.snd.snd.fst,(1,y1.snd.snd.snd.snd.snd.fst,y1.snd.snd.snd.snd.snd.snd.fst,y1.snd.snd.snd.snd.snd.snd.snd.fst,y3.Name_,y3.Num_,y5.Name_,y5.Num_,y1.snd.snd.snd.snd.snd.snd.snd.snd.snd.snd.snd.snd),Sl.mk [] false) else (if decide (y1.fst=22)=true then (ze y1.snd.snd.snd.fst.Kids_ 0).bind fun (y6:q7)=>(f165 (q7.mk y6.Kind_ y6.Text_ y6.Num_ y6.At_ y6.Kids_)).bind fun (y7:qn)=>(ze y1.snd.snd.snd.fst.Kids_ 1).bind fun (y8:q7)=>(f165 (q7.mk y8.Kind_ y8.Text_ y8.Num_ y8.At_ y8.Kids_)).bind fun (y9:qn)=>some (y1.snd.snd.fst,(2,y1.snd.snd.snd.snd.snd.fst,y1.snd.snd.snd.snd.snd.snd.fst,y1.snd.snd.snd.snd.snd.snd.snd.fst,y7.Name_,y7.Num_,y9.Name_,y9.Num_,y1.snd.snd.snd.snd.snd.snd.snd.snd.snd.snd.snd.snd),Sl.mk [] false) else (if decide (y1.fst=23)=true then some (y1.snd.snd.fst,(3,y1.snd.snd.snd.snd.snd.fst,y1.snd.snd.snd.snd.snd.snd.fst,y1.snd.snd.snd.snd.snd.snd.snd.fst,lit [],y1.snd.snd.snd.fst.Num_,y1.snd.snd.snd.snd.snd.snd.snd.snd.snd.snd),Sl.mk [] false) else (if decide (y1.fst=24)=true then some (y1.snd.snd.fst,(4,y1.snd.snd.snd.snd.snd.fst,y1.snd.snd.snd.snd.snd.snd.fst,y1.snd.snd.snd.snd.snd.snd.snd.fst,y1.snd.snd.snd.fst.Text_,0,y1.snd.snd.snd.snd.snd.snd.snd.snd.snd.snd),Sl.mk [] false) else (if decide (y1.fst=25)=true then (ze y1.snd.snd.snd.fst.Kids_ 0).bind fun (y10:q7)=>(f165 (q7.mk y10.Kind_ y10.Text_ y10.Num_ y10.At_ y10.Kids_)).bind fun (y11:qn)=>some (y1.snd.snd.fst,(5,y1.snd.snd.snd.snd.snd.fst,y1.snd.snd.snd.snd.snd.snd.fst,y1.snd.snd.snd.fst.Text_,y11.Name_,y11.Num_,y1.snd.snd.snd.snd.snd.snd.snd.snd.snd.snd),Sl.mk [] false) else (if decide (y1.fst=28)=true then (f166 y1.snd.snd.snd.fst.Kids_).bind fun (y12:Sl qn)=>some (y1.snd.snd.fst,(12,y1.snd.snd.snd.snd.snd.fst,y1.snd.snd.snd.snd.snd.snd.fst,y1.snd.snd.snd.fst.Text_,lit [],0,y1.snd.snd.snd.snd.snd.snd.snd.snd.snd.snd),y12) else some (y1.snd.snd.fst,y1.snd.snd.snd.snd,Sl.mk [] false)).bind fun (y13:tA1)=>some y13).bind fun (y14:tA1)=>some y14).bind fun (y15:tA1)=>some y15).bind fun (y16:tA1)=>some y16).bind fun (y17:tA1)=>some y17).bind fun (y18:tA1)=>some y18).bind fun (y19:tA1)=>some y19.snd
noncomputable def qbj:zbD:=qaz lpW zh q1g q4x
noncomputable def X7:zbD:=zo6.F
instance tw_lychgateref07_set (x):LC (qbj x) (X7 x):=by
  rw [show X7 x=qaz lpO zg Zf Yp x from by kernel_rfl]
  unfold qbj qaz
  repeat (first | infer_instance | refine LCb ?_ fun _=>?_ | refine LCi ?_ ?_ | refine LCe (fun _=>?_) fun _=>?_)
noncomputable def q85 (L:zc) (G:zf) (f167:zbD) (f165:vx) (f166:Sl q7→Option (Sl qn)) (x:q7):Option zld:=if decide (x.Kind_=10)=true then (f167 (q7.mk x.Kind_ x.Text_ x.Num_ x.At_ x.Kids_)).bind fun (y0:zld)=>some y0 else (if decide (x.Kind_=11)=true then (ze x.Kids_ 0).bind fun (y1:q7)=>(f165 (q7.mk y1.Kind_ y1.Text_ y1.Num_ y1.At_ y1.Kids_)).bind fun (y2:qn)=>(ze x.Kids_ 1).bind fun (y3:q7)=>(f165 (q7.mk y3.Kind_ y3.Text_ y3.Num_ y3.At_ y3.Kids_)).bind fun (y4:qn)=>some ((0,0,lit [],lit [],lit [],0,lit [],0,0,false),(6,x.At_,lit [],x.Text_,y2.Name_,y2.Num_,y4.Name_,y4.Num_,0,false),Sl.mk [] false) else (if decide (x.Kind_=12)=true then some ((0,0,lit [],lit [],lit [],0,lit [],0,0,false),(7,x.At_,lit [],x.Text_,lit [],0,lit [],0,0,false),Sl.mk [] false) else (if decide (x.Kind_=13)=true then some ((0,0,lit [],lit [],lit [],0,lit [],0,0,false),(8,x.At_,lit [],x.Text_,lit [],x.Num_,lit [],0,0,false),Sl.mk [] false) else (if decide (x.Kind_=14)=true then some ((0,0,lit [],lit [],lit [],0,lit [],0,0,false),(9,x.At_,lit [],x.Text_,lit [],x.Num_,lit [],0,0,false),Sl.mk [] false) else (if decide (x.Kind_=20)=true then (ze x.Kids_ 0).bind fun (y5:q7)=>(ze x.Kids_ 0).bind fun (y6:q7)=>(f166 y6.Kids_).bind fun (y7:Sl qn)=>some ((0,0,lit [],lit [],lit [],0,lit [],0,0,false),(12,x.At_,lit [],y5.Text_,lit [],0,lit [],0,0,false),y7) else (if decide (x.Kind_=19)=true then (f166 x.Kids_).bind fun (y8:Sl qn)=>some ((0,0,lit [],lit [],lit [],0,lit [],0,0,false),(13,x.At_,lit [],x.Text_,lit [],0,lit [],0,0,false),y8) else (if decide (x.Kind_=17)=true then (if decide (0 < x.Kids_.len)=true then (ze x.Kids_ 0).bind fun (y9:q7)=>(f165 (q7.mk y9.Kind_ y9.Text_ y9.Num_ y9.At_ y9.Kids_)).bind fun (y10:qn)=>some ((0,0,lit [],lit [],lit [],0,lit [],0,0,false),14,x.At_,lit [],lit [],y10.Name_,y10.Num_,lit [],0,0,true) else some ((0,0,lit [],lit [],lit [],0,lit [],0,0,false),14,x.At_,lit [],lit [],lit [],0,lit [],0,0,false)).bind fun (y11:tA5)=>some y11 else (if decide (x.Kind_=18)=true then some ((0,0,lit [],lit [],lit [],0,lit [],0,0,false),15,x.At_,lit [],lit [],lit [],0,lit [],0,0,false) else some ((0,0,lit [],lit [],lit [],0,lit [],0,0,false),0,x.At_,lit [],x.Text_,lit [],0,lit [],0,0,false)).bind fun (y12:tA5)=>some y12).bind fun (y13:tA5)=>some (y13.fst,y13.snd,Sl.mk [] false)).bind fun (y14:tA1)=>some y14).bind fun (y15:tA1)=>some y15).bind fun (y16:tA1)=>some y16).bind fun (y17:tA1)=>some y17).bind fun (y18:tA1)=>some y18).bind fun (y19:tA1)=>some y19.snd
noncomputable def q1v:zbD:=q85 lpW zh qbj q1g q4x
noncomputable def ZO:zbD:=zo7.F
instance tw_lychgateref07_plain (x):LC (q1v x) (ZO x):=by
  rw [show ZO x=q85 lpO zg X7 Zf Yp x from by kernel_rfl]
  unfold q1v q85
  repeat (first | infer_instance | refine LCb ?_ fun _=>?_ | refine LCi ?_ ?_ | refine LCe (fun _=>?_) fun _=>?_)
noncomputable def q3v (L:zc) (G:zf) (f168:zbD) (f165:vx) (f169:zdl):zlt→Option (Step zlt zqK):=fun (y12:zlt)=>if decide (y12.snd.snd.snd.snd.fst < Sl.len y12.snd.snd.snd.snd.snd.snd.snd.snd)=true then (ze y12.snd.snd.snd.snd.snd.snd.snd.snd y12.snd.snd.snd.snd.fst).bind fun (y13:qm)=>(ze y12.snd.snd.snd.snd.snd.snd.snd.snd y12.snd.snd.snd.snd.fst).bind fun (y14:qm)=>(zA 136 y12.snd.snd.snd.snd.snd.snd.fst [y14]).bind fun (y15:Sl qm)=>some (Step.next (y12.fst,y12.snd.fst,y12.snd.snd.fst,y12.snd.snd.snd.fst,IntKind.i64.wrap (y12.snd.snd.snd.snd.fst+1),q7.mk y12.snd.snd.snd.snd.snd.fst.Kind_ y12.snd.snd.snd.snd.snd.fst.Text_ y12.snd.snd.snd.snd.snd.fst.Num_ y12.snd.snd.snd.snd.snd.fst.At_ y12.snd.snd.snd.snd.snd.fst.Kids_,y15,q7.mk y12.snd.snd.snd.snd.snd.snd.snd.fst.Kind_ y12.snd.snd.snd.snd.snd.snd.snd.fst.Text_ y12.snd.snd.snd.snd.snd.snd.snd.fst.Num_ y12.snd.snd.snd.snd.snd.snd.snd.fst.At_ y12.snd.snd.snd.snd.snd.snd.snd.fst.Kids_,y12.snd.snd.snd.snd.snd.snd.snd.snd)) else some (Step.done (y12.fst,y12.snd.fst,y12.snd.snd.fst,y12.snd.snd.snd.fst,q7.mk y12.snd.snd.snd.snd.snd.fst.Kind_ y12.snd.snd.snd.snd.snd.fst.Text_ y12.snd.snd.snd.snd.snd.fst.Num_ y12.snd.snd.snd.snd.snd.fst.At_ y12.snd.snd.snd.snd.snd.fst.Kids_,y12.snd.snd.snd.snd.snd.snd.fst,q7.mk y12.snd.snd.snd.snd.snd.snd.snd.fst.Kind_ y12.snd.snd.snd.snd.snd.snd.snd.fst.Text_ y12.snd.snd.snd.snd.snd.snd.snd.fst.Num_ y12.snd.snd.snd.snd.snd.snd.snd.fst.At_ y12.snd.snd.snd.snd.snd.snd.snd.fst.Kids_))
noncomputable def q3w (L:zc) (G:zf) (f168:zbD) (f165:vx) (f169:zdl):zlT→Option (Step zlT zdo):=fun (y21:zlT)=>if decide (y21.snd.snd.fst < Sl.len y21.snd.snd.snd.snd.snd)=true then (ze y21.snd.snd.snd.snd.snd y21.snd.snd.fst).bind fun (y22:qm)=>(ze y21.snd.snd.snd.snd.snd y21.snd.snd.fst).bind fun (y23:qm)=>(zA 136 y21.snd.snd.snd.snd.fst [y23]).bind fun (y24:Sl qm)=>some (Step.next (y21.fst,y21.snd.fst,IntKind.i64.wrap (y21.snd.snd.fst+1),q7.mk y21.snd.snd.snd.fst.Kind_ y21.snd.snd.snd.fst.Text_ y21.snd.snd.snd.fst.Num_ y21.snd.snd.snd.fst.At_ y21.snd.snd.snd.fst.Kids_,y24,y21.snd.snd.snd.snd.snd)) else some (Step.done (y21.fst,y21.snd.fst,q7.mk y21.snd.snd.snd.fst.Kind_ y21.snd.snd.snd.fst.Text_ y21.snd.snd.snd.fst.Num_ y21.snd.snd.snd.fst.At_ y21.snd.snd.snd.fst.Kids_,y21.snd.snd.snd.snd.fst))
noncomputable def q3x (L:zc) (G:zf) (f168:zbD) (f165:vx) (f169:zdl):zdo→Option (Step zdo (Sl qm)):=fun (y0:zdo)=>if decide (y0.snd.fst < y0.snd.snd.fst.Kids_.len)=true then ((ze y0.snd.snd.fst.Kids_ y0.snd.fst).bind fun (y1:q7)=>(if decide (y1.Kind_≠15)=true then some (y0.fst,y0.snd.fst,IntKind.i64.wrap (y0.fst+Sl.len y0.snd.snd.snd),decide (y1.Kind_≠16),q7.mk y0.snd.snd.fst.Kind_ y0.snd.snd.fst.Text_ y0.snd.snd.fst.Num_ y0.snd.snd.fst.At_ y0.snd.snd.fst.Kids_,y0.snd.snd.snd,q7.mk y1.Kind_ y1.Text_ y1.Num_ y1.At_ y1.Kids_) else some (y0.fst,y0.snd.fst,IntKind.i64.wrap (y0.fst+Sl.len y0.snd.snd.snd),false,q7.mk y0.snd.snd.fst.Kind_ y0.snd.snd.fst.Text_ y0.snd.snd.fst.Num_ y0.snd.snd.fst.At_ y0.snd.snd.fst.Kids_,y0.snd.snd.snd,q7.mk y1.Kind_ y1.Text_ y1.Num_ y1.At_ y1.Kids_)).bind fun (y2:Int×Int×Int×Bool×q7×Sl qm×q7)=>if y2.snd.snd.snd.fst=true then (f168 (q7.mk y2.snd.snd.snd.snd.snd.snd.Kind_ y2.snd.snd.snd.snd.snd.snd.Text_ y2.snd.snd.snd.snd.snd.snd.Num_ y2.snd.snd.snd.snd.snd.snd.At_ y2.snd.snd.snd.snd.snd.snd.Kids_)).bind fun (y3:zld)=>(zA 136 y2.snd.snd.snd.snd.snd.fst [qm.mk y3.fst.fst y3.fst.snd.fst y3.fst.snd.snd.fst y3.fst.snd.snd.snd.fst (qn.mk y3.fst.snd.snd.snd.snd.fst y3.fst.snd.snd.snd.snd.snd.fst) (qn.mk y3.fst.snd.snd.snd.snd.snd.snd.fst y3.fst.snd.snd.snd.snd.snd.snd.snd.fst) y3.snd y3.fst.snd.snd.snd.snd.snd.snd.snd.snd.fst y3.fst.snd.snd.snd.snd.snd.snd.snd.snd.snd]).bind fun (y4:Sl qm)=>some (y2.fst,y2.snd.fst,q7.mk y2.snd.snd.snd.snd.fst.Kind_ y2.snd.snd.snd.snd.fst.Text_ y2.snd.snd.snd.snd.fst.Num_ y2.snd.snd.snd.snd.fst.At_ y2.snd.snd.snd.snd.fst.Kids_,y4) else (ze y2.snd.snd.snd.snd.snd.snd.Kids_ 0).bind fun (y5:q7)=>(f165 (q7.mk y5.Kind_ y5.Text_ y5.Num_ y5.At_ y5.Kids_)).bind fun (y6:qn)=>(ze y2.snd.snd.snd.snd.snd.snd.Kids_ 1).bind fun (y7:q7)=>(f165 (q7.mk y7.Kind_ y7.Text_ y7.Num_ y7.At_ y7.Kids_)).bind fun (y8:qn)=>(ze y2.snd.snd.snd.snd.snd.snd.Kids_ 2).bind fun (y9:q7)=>(f169 (q7.mk y9.Kind_ y9.Text_ y9.Num_ y9.At_ y9.Kids_,IntKind.i64.wrap (y2.snd.snd.fst+1))).bind fun (y10:Sl qm)=>(zA 136 y2.snd.snd.snd.snd.snd.fst [qm.mk 10 y2.snd.snd.snd.snd.snd.snd.At_ y2.snd.snd.snd.snd.snd.snd.Text_ (lit []) y6 y8 (Sl.mk [] false) (IntKind.i64.wrap (IntKind.i64.wrap (IntKind.i64.wrap (y2.snd.snd.fst+1)+y10.len)+1)) false]).bind fun (y11:Sl qm)=>(L ((q3v L G) f168 f165 f169) (y2.fst,y2.snd.fst,y2.snd.snd.fst,IntKind.i64.wrap (IntKind.i64.wrap (y2.snd.snd.fst+1)+y10.len),0,q7.mk y2.snd.snd.snd.snd.fst.Kind_ y2.snd.snd.snd.snd.fst.Text_ y2.snd.snd.snd.snd.fst.Num_ y2.snd.snd.snd.snd.fst.At_ y2.snd.snd.snd.snd.fst.Kids_,y11,q7.mk y2.snd.snd.snd.snd.snd.snd.Kind_ y2.snd.snd.snd.snd.snd.snd.Text_ y2.snd.snd.snd.snd.snd.snd.Num_ y2.snd.snd.snd.snd.snd.snd.At_ y2.snd.snd.snd.snd.snd.snd.Kids_,y10)).bind fun (y16:zqK)=>if decide (y16.snd.snd.snd.snd.snd.snd.Kind_=16)=true then (zA 136 y16.snd.snd.snd.snd.snd.fst [qm.mk 11 y16.snd.snd.snd.snd.snd.snd.At_ (lit []) (lit []) (qn.mk (lit []) 0) (qn.mk (lit []) 0) (Sl.mk [] false) y16.snd.snd.fst false]).bind fun (y17:Sl qm)=>some (y16.fst,y16.snd.fst,q7.mk y16.snd.snd.snd.snd.fst.Kind_ y16.snd.snd.snd.snd.fst.Text_ y16.snd.snd.snd.snd.fst.Num_ y16.snd.snd.snd.snd.fst.At_ y16.snd.snd.snd.snd.fst.Kids_,y17) else (ze y16.snd.snd.snd.snd.snd.snd.Kids_ 3).bind fun (y18:q7)=>(f169 (q7.mk y18.Kind_ y18.Text_ y18.Num_ y18.At_ y18.Kids_,IntKind.i64.wrap (y16.snd.snd.snd.fst+1))).bind fun (y19:Sl qm)=>(zA 136 y16.snd.snd.snd.snd.snd.fst [qm.mk 11 y16.snd.snd.snd.snd.snd.snd.At_ (lit []) (lit []) (qn.mk (lit []) 0) (qn.mk (lit []) 0) (Sl.mk [] false) (IntKind.i64.wrap (IntKind.i64.wrap (y16.snd.snd.snd.fst+1)+y19.len)) false]).bind fun (y20:Sl qm)=>(L ((q3w L G) f168 f165 f169) (y16.fst,y16.snd.fst,0,q7.mk y16.snd.snd.snd.snd.fst.Kind_ y16.snd.snd.snd.snd.fst.Text_ y16.snd.snd.snd.snd.fst.Num_ y16.snd.snd.snd.snd.fst.At_ y16.snd.snd.snd.snd.fst.Kids_,y20,y19)).bind fun (y25:zdo)=>some (y25.fst,y25.snd.fst,q7.mk y25.snd.snd.fst.Kind_ y25.snd.snd.fst.Text_ y25.snd.snd.fst.Num_ y25.snd.snd.fst.At_ y25.snd.snd.fst.Kids_,y25.snd.snd.snd)).bind fun (y26:zdo)=>some (Step.next (y26.fst,IntKind.i64.wrap (y26.snd.fst+1),q7.mk y26.snd.snd.fst.Kind_ y26.snd.snd.fst.Text_ y26.snd.snd.fst.Num_ y26.snd.snd.fst.At_ y26.snd.snd.fst.Kids_,y26.snd.snd.snd)) else some (Step.done y0.snd.snd.snd)
noncomputable def q86 (L:zc) (G:zf) (f168:zbD) (f165:vx) (f169:zdl) (x:q7×Int):Option (Sl qm):=(L ((q3x L G) f168 f165 f169) (x.snd,0,q7.mk x.fst.Kind_ x.fst.Text_ x.fst.Num_ x.fst.At_ x.fst.Kids_,Sl.mk [] false)).bind fun (y27:Sl qm)=>some y27
noncomputable def q87 (h:zbM):zbM:=q86 lpW zh q1v q1g h
noncomputable def w8 (h:zbM):zbM:=zkZ h
instance {h g:(q7×Int)→Option (Sl qm)}[∀ x,LC (h x) (g x)] (y):LC (q3v lpW zh q1v q1g h y) (q3v lpO zg ZO Zf g y):=by
  unfold q3v
  infer_instance
instance {h g:(q7×Int)→Option (Sl qm)}[∀ x,LC (h x) (g x)] (y):LC (q3w lpW zh q1v q1g h y) (q3w lpO zg ZO Zf g y):=by
  unfold q3w
  infer_instance
instance {h g:(q7×Int)→Option (Sl qm)}[∀ x,LC (h x) (g x)] (y):LC (q3x lpW zh q1v q1g h y) (q3x lpO zg ZO Zf g y):=by
  unfold q3x
  repeat (first | infer_instance | refine LCb ?_ fun _=>?_ | refine LCi ?_ ?_ | refine LCe (fun _=>?_) fun _=>?_)
instance tw_lychgateref07_blockv {h g:(q7×Int)→Option (Sl qm)}[∀ x,LC (h x) (g x)] (x):LC (q87 h x) (w8 g x):=by
  rw [show w8 g x=q86 lpO zg ZO Zf g x from by kernel_rfl]
  unfold q87 q86
  infer_instance
noncomputable def q88:Nat→(q7×Int)→Option (Sl qm)
  |0=>fun _=>none
  |k+1=>q87 (q88 k)
noncomputable def zaC (k:Nat):zbM:=zgA k
theorem qcb:∀ j k,j≤k→∀ x,LC (q88 j x) (zaC k x)
  |0,k,_=>fun x=>⟨fun a h=>by cases h⟩
  |j+1,0,h=>by omega
  |j+1,k+1,h=>@tw_lychgateref07_blockv _ _ (qcb j k (by omega))
noncomputable def qa5:zbM:=q88 200
noncomputable def Xo:zbM:=zsP
instance tw_lychgateref07_block (x):LC (qa5 x) (Xo x):=qcb 200 100000 (by omega) x
noncomputable def q3y (L:zc) (G:zf) (f169:zdl):zlu→Option (Step zlu zqw):=fun (y0:zlu)=>if decide (y0.snd.fst < IntKind.i64.wrap (y0.fst - 1))=true then (ze y0.snd.snd.fst.Kids_ y0.snd.fst).bind fun (y1:q7)=>(zA 16 y0.snd.snd.snd.snd.snd [y1.Text_]).bind fun (y2:Sl ByteArray)=>some (Step.next (y0.fst,IntKind.i64.wrap (y0.snd.fst+1),q7.mk y0.snd.snd.fst.Kind_ y0.snd.snd.fst.Text_ y0.snd.snd.fst.Num_ y0.snd.snd.fst.At_ y0.snd.snd.fst.Kids_,y0.snd.snd.snd.fst,y0.snd.snd.snd.snd.fst,y2)) else some (Step.done (y0.fst,q7.mk y0.snd.snd.fst.Kind_ y0.snd.snd.fst.Text_ y0.snd.snd.fst.Num_ y0.snd.snd.fst.At_ y0.snd.snd.fst.Kids_,y0.snd.snd.snd))
noncomputable def q89 (L:zc) (G:zf) (f169:zdl) (x:q7):Option zlY:=(L ((q3y L G) f169) (IntKind.i64.wrap (x.Kids_.len - 1),0,q7.mk x.Kind_ x.Text_ x.Num_ x.At_ x.Kids_,lit [],x.Text_,Sl.mk [] false)).bind fun (y3:zqw)=>(ze y3.snd.fst.Kids_ y3.fst).bind fun (y4:q7)=>(f169 (q7.mk y4.Kind_ y4.Text_ y4.Num_ y4.At_ y4.Kids_,0)).bind fun (y5:Sl qm)=>(ze y3.snd.fst.Kids_ y3.fst).bind fun (y6:q7)=>(zA 136 y5 [qm.mk 14 y6.At_ (lit []) (lit []) (qn.mk (lit []) 0) (qn.mk (lit []) 0) (Sl.mk [] false) 0 false]).bind fun (y7:Sl qm)=>some (y3.snd.snd.snd.fst,y3.snd.snd.snd.snd,y7)
noncomputable def q1r:zbI:=q89 lpW zh qa5
noncomputable def ZB:zbI:=zk0.F
instance (y):LC (q3y lpW zh qa5 y) (q3y lpO zg Xo y):=by
  unfold q3y
  infer_instance
instance tw_lychgateref07_Lower (x):LC (q1r x) (ZB x):=by
  rw [show ZB x=q89 lpO zg Xo x from by kernel_rfl]
  unfold q1r q89
  infer_instance
noncomputable def q3z (L:zc) (G:zf) (f153:zcK) (f155:zpy) (f164:zfM) (f170:zbI):xY→Option (Step xY zeZ):=fun (y0:xY)=>(if decide (y0.fst < y0.snd.fst.Kids_.len)=true then some (y0.fst,decide (y0.snd.snd.fst.snd.snd.snd=0),q7.mk y0.snd.fst.Kind_ y0.snd.fst.Text_ y0.snd.fst.Num_ y0.snd.fst.At_ y0.snd.fst.Kids_,y0.snd.snd) else some (y0.fst,false,q7.mk y0.snd.fst.Kind_ y0.snd.fst.Text_ y0.snd.fst.Num_ y0.snd.fst.At_ y0.snd.fst.Kids_,y0.snd.snd)).bind fun (y1:zqq)=>if y1.snd.fst=true then (ze y1.snd.snd.fst.Kids_ y1.fst).bind fun (y2:q7)=>if decide (y2.Kind_≠6)=true then (ze y1.snd.snd.fst.Kids_ y1.fst).bind fun (y3:q7)=>(f153 (y3.At_,50,y1.snd.snd.snd)).bind fun (y4:Zu)=>some (Step.done (q7.mk y1.snd.snd.fst.Kind_ y1.snd.snd.fst.Text_ y1.snd.snd.fst.Num_ y1.snd.snd.fst.At_ y1.snd.snd.fst.Kids_,y4)) else (ze y1.snd.snd.fst.Kids_ y1.fst).bind fun (y5:q7)=>(f155 (q7.mk y5.Kind_ y5.Text_ y5.Num_ y5.At_ y5.Kids_,y1.snd.snd.snd)).bind fun (y6:zgH)=>(zA 48 y6.snd.snd.fst [qg.mk y6.fst.fst y6.fst.snd y6.snd.snd.snd]).bind fun (y7:Sl qg)=>some (Step.next (IntKind.i64.wrap (y1.fst+1),q7.mk y1.snd.snd.fst.Kind_ y1.snd.snd.fst.Text_ y1.snd.snd.fst.Num_ y1.snd.snd.fst.At_ y1.snd.snd.fst.Kids_,y6.snd.fst,y7)) else some (Step.done (q7.mk y1.snd.snd.fst.Kind_ y1.snd.snd.fst.Text_ y1.snd.snd.fst.Num_ y1.snd.snd.fst.At_ y1.snd.snd.fst.Kids_,y1.snd.snd.snd))
noncomputable def q40 (L:zc) (G:zf) (f153:zcK) (f155:zpy) (f164:zfM) (f170:zbI):xY→Option (Step xY Zu):=fun (y9:xY)=>(if decide (y9.fst < y9.snd.fst.Kids_.len)=true then some (y9.fst,decide (y9.snd.snd.fst.snd.snd.snd=0),q7.mk y9.snd.fst.Kind_ y9.snd.fst.Text_ y9.snd.fst.Num_ y9.snd.fst.At_ y9.snd.fst.Kids_,y9.snd.snd) else some (y9.fst,false,q7.mk y9.snd.fst.Kind_ y9.snd.fst.Text_ y9.snd.fst.Num_ y9.snd.fst.At_ y9.snd.fst.Kids_,y9.snd.snd)).bind fun (y10:zqq)=>if y10.snd.fst=true then (ze y10.snd.snd.fst.Kids_ y10.fst).bind fun (y11:q7)=>(ze y10.snd.snd.snd.snd y10.fst).bind fun (y12:qg)=>(ze y11.Kids_ (IntKind.i64.wrap (y11.Kids_.len - 1))).bind fun (y13:q7)=>(f164 (y10.fst,y13.Kids_,y10.snd.snd.snd)).bind fun (y14:Zu)=>(f170 (q7.mk y11.Kind_ y11.Text_ y11.Num_ y11.At_ y11.Kids_)).bind fun (y15:zlY)=>((ze y14.snd y10.fst).bind fun (y16:qg)=>(ze y14.snd y10.fst).bind fun (y17:qg)=>(ze y14.snd y10.fst).bind fun (y18:qg)=>if decide (64 < y18.Vars_.len)=true then some (y10.fst,true,q7.mk y10.snd.snd.fst.Kind_ y10.snd.snd.fst.Text_ y10.snd.snd.fst.Num_ y10.snd.snd.fst.At_ y10.snd.snd.fst.Kids_,y14.fst,q7.mk y11.Kind_ y11.Text_ y11.Num_ y11.At_ y11.Kids_,y14.snd) else some (y10.fst,decide (512 < Sl.len y15.snd.snd),q7.mk y10.snd.snd.fst.Kind_ y10.snd.snd.fst.Text_ y10.snd.snd.fst.Num_ y10.snd.snd.fst.At_ y10.snd.snd.fst.Kids_,y14.fst,q7.mk y11.Kind_ y11.Text_ y11.Num_ y11.At_ y11.Kids_,y14.snd)).bind fun (y19:Int×Bool×q7×(Sl qh×Sl qd×Int×Int)×q7×Sl qg)=>(if y19.snd.fst=true then (f153 (y19.snd.snd.snd.snd.fst.At_,22,y19.snd.snd.snd.fst,y19.snd.snd.snd.snd.snd)).bind fun (y20:Zu)=>some (y19.fst,q7.mk y19.snd.snd.fst.Kind_ y19.snd.snd.fst.Text_ y19.snd.snd.fst.Num_ y19.snd.snd.fst.At_ y19.snd.snd.fst.Kids_,y20) else some (y19.fst,q7.mk y19.snd.snd.fst.Kind_ y19.snd.snd.fst.Text_ y19.snd.snd.fst.Num_ y19.snd.snd.fst.At_ y19.snd.snd.fst.Kids_,y19.snd.snd.snd.fst,y19.snd.snd.snd.snd.snd)).bind fun (y21:xY)=>some (Step.next (IntKind.i64.wrap (y21.fst+1),q7.mk y21.snd.fst.Kind_ y21.snd.fst.Text_ y21.snd.fst.Num_ y21.snd.fst.At_ y21.snd.fst.Kids_,y21.snd.snd)) else some (Step.done y10.snd.snd.snd)
noncomputable def q8a (L:zc) (G:zf) (f153:zcK) (f155:zpy) (f164:zfM) (f170:zbI) (x:zmn):Option Zu:=(L ((q3z L G) f153 f155 f164 f170) (0,q7.mk x.fst.Kind_ x.fst.Text_ x.fst.Num_ x.fst.At_ x.fst.Kids_,(x.snd.fst,x.snd.snd,0,0),Sl.mk [] false)).bind fun (y8:zeZ)=>(L ((q40 L G) f153 f155 f164 f170) (0,q7.mk y8.fst.Kind_ y8.fst.Text_ y8.fst.Num_ y8.fst.At_ y8.fst.Kids_,y8.snd)).bind fun (y22:Zu)=>(if decide (y22.fst.snd.snd.snd≠0)=true then some (y22.fst,Sl.mk [] false) else some y22).bind fun (y23:Zu)=>some y23
noncomputable def q4y:zmn→Option Zu:=q8a lpW zh q1d q2u q4w q1r
noncomputable def Yq:zmn→Option Zu:=zo8.F
instance (y):LC (q3z lpW zh q1d q2u q4w q1r y) (q3z lpO zg zY yu Yo ZB y):=by
  unfold q3z
  infer_instance
instance (y):LC (q40 lpW zh q1d q2u q4w q1r y) (q40 lpO zg zY yu Yo ZB y):=by
  unfold q40
  infer_instance
instance tw_lychgateref18_Check (x):LC (q4y x) (Yq x):=by
  rw [show Yq x=q8a lpO zg zY yu Yo ZB x from by kernel_rfl]
  unfold q4y q8a
  infer_instance
noncomputable def q39 (L:zc) (G:zf) (f119:zgZ) (f50:zdd) (f109:zde) (f152:zqx) (f171:zqf) (f148:zbO) (f170:zbI):zla→Option (Step zla zqc):=fun (y6:zla)=>if decide (y6.snd.snd.snd.fst < y6.snd.snd.fst)=true then (ze y6.snd.fst y6.snd.snd.snd.fst).bind fun (y7:q8)=>(if decide (y7.Kind_=6)=true then (f148 (q8.mk y7.Kind_ y7.Text_ y7.Num_ y7.At_ y7.Kids_)).bind fun (y8:q17)=>(zA 64 y6.snd.snd.snd.snd.snd.snd.snd.snd.snd.fst [y8]).bind fun (y9:Sl q17)=>(ze y6.snd.snd.snd.snd.snd.fst.Kids_ y6.snd.snd.snd.fst).bind fun (y10:q7)=>(f170 (q7.mk y10.Kind_ y10.Text_ y10.Num_ y10.At_ y10.Kids_)).bind fun (y11:zlY)=>(zA 64 y6.snd.snd.snd.snd.snd.snd.snd.snd.snd.snd [q14.mk y11.fst y11.snd.fst y11.snd.snd]).bind fun (y12:Sl q14)=>some (y6.fst,y6.snd.fst,y6.snd.snd.fst,y6.snd.snd.snd.fst,y6.snd.snd.snd.snd.fst,q7.mk y6.snd.snd.snd.snd.snd.fst.Kind_ y6.snd.snd.snd.snd.snd.fst.Text_ y6.snd.snd.snd.snd.snd.fst.Num_ y6.snd.snd.snd.snd.snd.fst.At_ y6.snd.snd.snd.snd.snd.fst.Kids_,y6.snd.snd.snd.snd.snd.snd.fst,y6.snd.snd.snd.snd.snd.snd.snd.fst,y6.snd.snd.snd.snd.snd.snd.snd.snd.fst,y9,y12) else some (y6.fst,y6.snd.fst,y6.snd.snd.fst,y6.snd.snd.snd.fst,y6.snd.snd.snd.snd.fst,q7.mk y6.snd.snd.snd.snd.snd.fst.Kind_ y6.snd.snd.snd.snd.snd.fst.Text_ y6.snd.snd.snd.snd.snd.fst.Num_ y6.snd.snd.snd.snd.snd.fst.At_ y6.snd.snd.snd.snd.snd.fst.Kids_,y6.snd.snd.snd.snd.snd.snd)).bind fun (y13:zla)=>some (Step.next (y13.fst,y13.snd.fst,y13.snd.snd.fst,IntKind.i64.wrap (y13.snd.snd.snd.fst+1),y13.snd.snd.snd.snd.fst,q7.mk y13.snd.snd.snd.snd.snd.fst.Kind_ y13.snd.snd.snd.snd.snd.fst.Text_ y13.snd.snd.snd.snd.snd.fst.Num_ y13.snd.snd.snd.snd.snd.fst.At_ y13.snd.snd.snd.snd.snd.fst.Kids_,y13.snd.snd.snd.snd.snd.snd)) else some (Step.done (y6.fst,y6.snd.snd.snd.snd.fst,y6.snd.snd.snd.snd.snd.snd))
noncomputable def q70 (L:zc) (G:zf) (f119:zgZ) (f50:zdd) (f109:zde) (f152:zqx) (f171:zqf) (f148:zbO) (f170:zbI) (x:wN):Option zhh:=(f119 x.fst).bind fun (y0:qx×Bool)=>(f50 x.snd).bind fun (y1:q8×Int×Int)=>(if (!y0.snd)=true then some (x.snd,true,y0.fst,q8.mk y1.fst.Kind_ y1.fst.Text_ y1.fst.Num_ y1.fst.At_ y1.fst.Kids_) else some (x.snd,decide (y1.snd.snd≠0),y0.fst,q8.mk y1.fst.Kind_ y1.fst.Text_ y1.fst.Num_ y1.fst.At_ y1.fst.Kids_)).bind fun (y2:ByteArray×Bool×qx×q8)=>if y2.snd.fst=true then some (y2.snd.snd.fst,q18.mk (Sl.mk [] false) (Sl.mk [] false) (Sl.mk [] false) (Sl.mk [] false),false) else (f109 y2.fst).bind fun (y3:q7×Int×Int)=>(f152 (q8.mk y2.snd.snd.snd.Kind_ y2.snd.snd.snd.Text_ y2.snd.snd.snd.Num_ y2.snd.snd.snd.At_ y2.snd.snd.snd.Kids_,y2.snd.snd.fst.sigs_,y2.snd.snd.fst.types_)).bind fun (y4:x2)=>(f171 (q7.mk y3.fst.Kind_ y3.fst.Text_ y3.fst.Num_ y3.fst.At_ y3.fst.Kids_,y2.snd.snd.fst.rsigs_,y2.snd.snd.fst.rtypes_)).bind fun (y5:Zu)=>(L ((q39 L G) f119 f50 f109 f152 f171 f148 f170) (y4.snd.fst,y2.snd.snd.snd.Kids_,y2.snd.snd.snd.Kids_.len,0,y2.snd.snd.fst,q7.mk y3.fst.Kind_ y3.fst.Text_ y3.fst.Num_ y3.fst.At_ y3.fst.Kids_,y4.snd.snd,y5.fst,y5.snd,Sl.mk [] false,Sl.mk [] false)).bind fun (y14:zqc)=>(if decide (y14.fst=0)=true then if decide (y14.snd.snd.snd.fst.snd.snd.snd=0)=true then if decide (Sl.len y14.snd.snd.fst=Sl.len y14.snd.snd.snd.snd.snd.fst)=true then some (decide (Sl.len y14.snd.snd.snd.snd.fst=Sl.len y14.snd.snd.fst),y14.snd.fst,y14.snd.snd.fst,y14.snd.snd.snd.snd.snd.fst,y14.snd.snd.snd.snd.fst,y14.snd.snd.snd.snd.snd.snd) else some (false,y14.snd.fst,y14.snd.snd.fst,y14.snd.snd.snd.snd.snd.fst,y14.snd.snd.snd.snd.fst,y14.snd.snd.snd.snd.snd.snd) else some (false,y14.snd.fst,y14.snd.snd.fst,y14.snd.snd.snd.snd.snd.fst,y14.snd.snd.snd.snd.fst,y14.snd.snd.snd.snd.snd.snd) else some (false,y14.snd.fst,y14.snd.snd.fst,y14.snd.snd.snd.snd.snd.fst,y14.snd.snd.snd.snd.fst,y14.snd.snd.snd.snd.snd.snd)).bind fun (y15:Bool×qx×Sl qe×Sl q17×Sl qg×Sl q14)=>some (y15.snd.fst,q18.mk y15.snd.snd.fst y15.snd.snd.snd.fst y15.snd.snd.snd.snd.fst y15.snd.snd.snd.snd.snd,y15.fst)
noncomputable def q41:wN→Option zhh:=q70 lpW zh q34 q63 q1u qco q4y q67 q1r
noncomputable def yT:wN→Option zhh:=zo9.F
instance (y):LC (q39 lpW zh q34 q63 q1u qco q4y q67 q1r y) (q39 lpO zg yA YY ZN Wj Yq Y6 ZB y):=by
  unfold q39
  infer_instance
instance tw_lychgatelaw22_client (x):LC (q41 x) (yT x):=by
  rw [show yT x=q70 lpO zg yA YY ZN Wj Yq Y6 ZB x from by kernel_rfl]
  unfold q41 q70
  infer_instance
noncomputable def q42 (L:zc) (G:zf) (f172:zqv):zlQ→Option (Step zlQ (Sl qu×Sl q10)):=fun (y1:zlQ)=>if decide (y1.snd.fst < y1.fst)=true then (ze y1.snd.snd.snd.fst.codes_ y1.snd.fst).bind fun (y2:q17)=>(ze y1.snd.snd.snd.fst.fns_ y1.snd.fst).bind fun (y3:qe)=>(zA 184 y1.snd.snd.snd.snd.fst [qu.mk y2 y3 y1.snd.snd.fst.sigs_ y1.snd.snd.snd.fst.fns_ y1.snd.snd.fst.types_]).bind fun (y4:Sl qu)=>(ze y1.snd.snd.snd.fst.rcodes_ y1.snd.fst).bind fun (y5:q14)=>(ze y1.snd.snd.snd.fst.rfns_ y1.snd.fst).bind fun (y6:qg)=>(zA 8 y1.snd.snd.snd.snd.snd [q10.mk y5 y6 y1.snd.snd.fst.rsigs_ y1.snd.snd.snd.fst.rfns_ y1.snd.snd.fst.rtypes_]).bind fun (y7:Sl q10)=>some (Step.next (y1.fst,IntKind.i64.wrap (y1.snd.fst+1),y1.snd.snd.fst,y1.snd.snd.snd.fst,y4,y7)) else some (Step.done y1.snd.snd.snd.snd)
noncomputable def q8b (L:zc) (G:zf) (f172:zqv) (x:wN):Option ze7:=(f172 x).bind fun (y0:zhh)=>if (!y0.snd.snd)=true then some (false,Sl.mk [] false,Sl.mk [] false) else (L ((q42 L G) f172) (y0.snd.fst.fns_.len,0,y0.fst,y0.snd.fst,Sl.mk [] false,Sl.mk [] false)).bind fun (y8:Sl qu×Sl q10)=>some (true,y8)
noncomputable def qa6:wN→Option ze7:=q8b lpW zh q41
noncomputable def Xp:wN→Option ze7:=zpa.F
instance (y):LC (q42 lpW zh q41 y) (q42 lpO zg yT y):=by
  unfold q42
  infer_instance
instance tw_lychgatelaw22_funcs (x):LC (qa6 x) (Xp x):=by
  rw [show Xp x=q8b lpO zg yT x from by kernel_rfl]
  unfold qa6 q8b
  infer_instance
noncomputable def qc0 (L:zc) (G:zf) (x:qe×qk):Option (Bool×qk):=some (decide (x.fst.Name_=x.snd.Y_),x.snd)
noncomputable def q8k:(qe×qk)→Option (Bool×qk):=qc0 lpW zh
noncomputable def x6:(qe×qk)→Option (Bool×qk):=zpb.F
instance tw_threads_Check_2 (x):LC (q8k x) (x6 x):=by
  rw [show x6 x=qc0 lpO zg x from by kernel_rfl]
  unfold q8k qc0
  infer_instance
noncomputable def q7a (L:zc) (G:zf) (f174:zqZ):zmh→Option (Step zmh (Int×qk⊕qk)):=fun (y0:zmh)=>if decide (y0.snd.snd.fst < y0.snd.fst)=true then (ze y0.fst y0.snd.snd.fst).bind fun (y1:qe)=>(f174 (y1,y0.snd.snd.snd)).bind fun (y2:Bool×qk)=>if y2.fst=true then some (Step.done (Sum.inl (y0.snd.snd.fst,y2.snd))) else some (Step.next (y0.fst,y0.snd.fst,IntKind.i64.wrap (y0.snd.snd.fst+1),y2.snd)) else some (Step.done (Sum.inr y0.snd.snd.snd))
noncomputable def qc1 (L:zc) (G:zf) (f174:zqZ) (x:Sl qe×qk):Option (Int×qk):=(L ((q7a L G) f174) (x.fst,Sl.len x.fst,0,x.snd)).bind fun (y3:Int×qk⊕qk)=>Sum.elim (fun (y4:Int×qk)=>some y4) (fun (y5:qk)=>some (-1,y5)) y3
noncomputable def q8l:(Sl qe×qk)→Option (Int×qk):=qc1 lpW zh q8k
noncomputable def x7:(Sl qe×qk)→Option (Int×qk):=zpc.F
instance (y):LC (q7a lpW zh q8k y) (q7a lpO zg x6 y):=by
  unfold q7a
  infer_instance
instance tw_names_Fn_Check2 (x):LC (q8l x) (x7 x):=by
  rw [show x7 x=qc1 lpO zg x6 x from by kernel_rfl]
  unfold q8l qc1
  infer_instance
noncomputable def qa7 (L:zc) (G:zf) (x:Int):Option Bool:=(if decide (x=0)=true then some true else if decide (x=1)=true then some true else some (decide (x=3))).bind fun (y0:Bool)=>some y0
noncomputable def q49:zV:=qa7 lpW zh
noncomputable def xI:zV:=zim.F
instance tw_threads_Sends (x):LC (q49 x) (xI x):=by
  rw [show xI x=qa7 lpO zg x from by kernel_rfl]
  unfold q49 qa7
  infer_instance
noncomputable def qc2 (L:zc) (G:zf) (f176:zV) (x:qj×qu):Option Vb:=(if decide (x.fst.Mode_=2)=true then (ze x.snd.Types_ x.fst.Type_).bind fun (y0:qa)=>(f176 y0.Sort_).bind fun (y1:Bool)=>some (!y1,x.snd) else some (false,x.snd)).bind fun (y2:Vb)=>some y2
noncomputable def q8m:(qj×qu)→Option Vb:=qc2 lpW zh q49
noncomputable def x8:(qj×qu)→Option Vb:=zpe.F
instance tw_threads_Check_1 (x):LC (q8m x) (x8 x):=by
  rw [show x8 x=qc2 lpO zg xI x from by kernel_rfl]
  unfold q8m qc2
  infer_instance
noncomputable def q62 (L:zc) (G:zf) (f177:zq0):zmi→Option (Step zmi (Int×qu⊕qu)):=fun (y0:zmi)=>if decide (y0.snd.snd.fst < y0.snd.fst)=true then (ze y0.fst y0.snd.snd.fst).bind fun (y1:qj)=>(f177 (y1,y0.snd.snd.snd)).bind fun (y2:Vb)=>if y2.fst=true then some (Step.done (Sum.inl (y0.snd.snd.fst,y2.snd))) else some (Step.next (y0.fst,y0.snd.fst,IntKind.i64.wrap (y0.snd.snd.fst+1),y2.snd)) else some (Step.done (Sum.inr y0.snd.snd.snd))
noncomputable def qb0 (L:zc) (G:zf) (f177:zq0) (x:zbP):Option (Int×qu):=(L ((q62 L G) f177) (x.fst,Sl.len x.fst,0,x.snd)).bind fun (y3:Int×qu⊕qu)=>Sum.elim (fun (y4:Int×qu)=>some y4) (fun (y5:qu)=>some (-1,y5)) y3
noncomputable def qbk:zbP→Option (Int×qu):=qb0 lpW zh q8m
noncomputable def X8:zbP→Option (Int×qu):=zpf.F
instance (y):LC (q62 lpW zh q8m y) (q62 lpO zg x8 y):=by
  unfold q62
  infer_instance
instance tw_sign_Param_Check1 (x):LC (qbk x) (X8 x):=by
  rw [show X8 x=qb0 lpO zg x8 x from by kernel_rfl]
  unfold qbk qb0
  infer_instance
noncomputable def q8c (L:zc) (G:zf) (f178:zbP→Option (Int×qu)) (x:zbP):Option Vb:=(f178 x).bind fun (y0:Int×qu)=>some (decide (0≤y0.fst),y0.snd)
noncomputable def q4z:zbP→Option Vb:=q8c lpW zh qbk
noncomputable def Yr:zbP→Option Vb:=zpg.F
instance tw_sign_Param_Check1_2 (x):LC (q4z x) (Yr x):=by
  rw [show Yr x=q8c lpO zg X8 x from by kernel_rfl]
  unfold q4z q8c
  infer_instance
noncomputable def qb1 (L:zc) (G:zf) (f175:zqU) (f179:zqR):zg9→Option (Step zg9 xb):=fun (y0:zg9)=>if decide (y0.snd.snd.fst < y0.snd.fst)=true then ((ze y0.fst y0.snd.snd.fst).bind fun (y1:qk)=>if decide (y1.Op_≠13)=true then some (Sum.inl y0) else (f175 (y0.snd.snd.snd.Fns_,y1)).bind fun (y2:Int×qk)=>(if decide (0≤y2.fst)=true then (ze y0.snd.snd.snd.Fns_ y2.fst).bind fun (y3:qe)=>(ze y0.snd.snd.snd.Fns_ y2.fst).bind fun (y4:qe)=>(z6 y3.Vars_ 0 y4.Params_).bind fun (y5:Sl qj)=>(f179 (y5,y0.snd.snd.snd)).bind fun (y6:Vb)=>some (y0.fst,y0.snd.fst,y0.snd.snd.fst,y6.fst,y6.snd,y2.snd) else some (y0.fst,y0.snd.fst,y0.snd.snd.fst,false,y0.snd.snd.snd,y2.snd)).bind fun (y7:Sl qk×Int×Int×Bool×qu×qk)=>if y7.snd.snd.snd.fst=true then some (Sum.inr (y7.snd.snd.snd.snd.snd.At_,54)) else some (Sum.inl (y7.fst,y7.snd.fst,y7.snd.snd.fst,y7.snd.snd.snd.snd.fst))).bind fun (y8:Sl qk×Int×Int×qu⊕Int×Int)=>Sum.elim (fun (y9:zg9)=>some (Step.next (y9.fst,y9.snd.fst,IntKind.i64.wrap (y9.snd.snd.fst+1),y9.snd.snd.snd))) (fun (y10:zT)=>some (Step.done (Sum.inl y10))) y8 else some (Step.done (Sum.inr ()))
noncomputable def qcu (L:zc) (G:zf) (f175:zqU) (f179:zqR) (x:qu):Option zT:=(L ((qb1 L G) f175 f179) (x.Code_.List_,x.Code_.List_.len,0,x)).bind fun (y11:xb)=>Sum.elim (fun (y12:zT)=>some y12) (fun (y13:Unit)=>some (0,0)) y11
noncomputable def qd6:zmd:=qcu lpW zh q8l q4z
noncomputable def W4:zmd:=zph.F
instance (y):LC (qb1 lpW zh q8l q4z y) (qb1 lpO zg x7 Yr y):=by
  unfold qb1
  infer_instance
instance tw_threads_Check (x):LC (qd6 x) (W4 x):=by
  rw [show W4 x=qcu lpO zg x7 Yr x from by kernel_rfl]
  unfold qd6 qcu
  infer_instance
noncomputable def q8e (L:zc) (G:zf) (x:Int):Option Bool:=some (decide (x=3))
noncomputable def q64:zV:=q8e lpW zh
noncomputable def XN:zV:=zk1.F
instance tw_threads_Shares (x):LC (q64 x) (XN x):=by
  rw [show XN x=q8e lpO zg x from by kernel_rfl]
  unfold q64 q8e
  infer_instance
noncomputable def q8d (L:zc) (G:zf) (f173:wN→Option ze7) (f180:zmd) (f176:zV) (f181:zV) (x:Unit):Option Bool:=(f173 (lit [116,121,112,101,32,114,99,32,99,111,117,110,116,101,100,32,110,32,123,32,110,32,125,59,32,102,110,32,109,107,40,41,32,45,62,32,111,119,110,32,114,99,32,123,32,125],lit [102,110,32,109,97,105,110,40,41,32,123,32,118,32,61,32,109,107,40,41,59,32,102,111,114,107,32,119,40,118,41,59,32,125,32,102,110,32,119,40,118,58,32,111,119,110,32,114,99,41,32,123,32,125])).bind fun (y0:ze7)=>if (!y0.fst)=true then some false else (ze y0.snd.fst 0).bind fun (y1:qu)=>(ze y0.snd.fst 0).bind fun (y2:qu)=>(f180 y2).bind fun (y3:zT)=>(if decide (y3.snd=54)=true then if decide (y3.fst=22)=true then (f176 3).bind fun (y4:Bool)=>if y4=true then (f176 4).bind fun (y5:Bool)=>if (!y5)=true then (f181 3).bind fun (y6:Bool)=>if y6=true then (f181 1).bind fun (y7:Bool)=>some !y7 else some false else some false else some false else some false else some false).bind fun (y8:Bool)=>some y8
noncomputable def q48:zmo:=q8d lpW zh qa6 qd6 q49 q64
noncomputable def Xq:zmo:=zpi.F
instance tw_lychgatelaw22_wakes (x):LC (q48 x) (Xq x):=by
  rw [show Xq x=q8d lpO zg Xp W4 xI XN x from by kernel_rfl]
  unfold q48 q8d
  infer_instance
noncomputable def q3g (L:zc) (G:zf) (x:Int):Option Bool:=(if decide (x=0)=true then some true else if decide (x=1)=true then some true else some (decide (x=3))).bind fun (y0:Bool)=>some y0
noncomputable def q4a:zV:=q3g lpW zh
noncomputable def Xr:zV:=zpj.F
instance tw_lychgateref22_Sends (x):LC (q4a x) (Xr x):=by
  rw [show Xr x=q3g lpO zg x from by kernel_rfl]
  unfold q4a q3g
  infer_instance
noncomputable def q1w (L:zc) (G:zf) (f182:zmo) (f176:zV) (f183:zV) (f181:zV) (x:Int):Option Bool:=((f182 ()).bind fun (y0:Bool)=>if y0=true then (f176 x).bind fun (y1:Bool)=>(f183 x).bind fun (y2:Bool)=>if (y1 == y2)=true then (f181 x).bind fun (y3:Bool)=>if (y3 == decide (x=3))=true then (f181 x).bind fun (y4:Bool)=>if (!y4)=true then some true else (f176 x).bind fun (y5:Bool)=>some y5 else some false else some false else some false).bind fun (y6:Bool)=>some y6
noncomputable def q3f:zV:=q1w lpW zh q48 q49 q4a q64
noncomputable def Xs:zV:=zfK.F
instance tw_lychgatelaw22_ThreadsSorts (x):LC (q3f x) (Xs x):=by
  rw [show Xs x=q1w lpO zg Xq xI Xr XN x from by kernel_rfl]
  unfold q3f q1w
  infer_instance
end Go.Px
