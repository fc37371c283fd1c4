/- Part S2: PxW222. -/
import Derived.Test.YtepembddmcabhaaGreatDoorS1
namespace Go.Px
open Go.Proofs
set_option linter.unusedVariables false
set_option maxRecDepth 100000
set_option maxHeartbeats 4000000
set_option synthInstance.maxHeartbeats 4000000
set_option synthInstance.maxSize 100000
noncomputable def qbm (L:zc) (G:zf) (f15:zgR) (f16:XC) (f18:Zx) (f41:zgC) (f22:wc) (f46:zgC) (f48:zs4) (f47:WU) (f49:zs8):zc5→Option (Step zc5 zs6):=fun (y1:zc5)=>(f16 y1.snd.snd.snd.fst).bind fun (y2:qq×q6)=>if decide (y2.fst.Kind_≠0)=true then ((f16 y2.snd).bind fun (y3:qq×q6)=>(f18 (lit [102,110],y3.snd)).bind fun (y4:zH)=>if y4.fst=true then ((f41 (y3.fst.At_,y4.snd)).bind fun (y5:Zb)=>Sum.elim (fun (y6:zj)=>some (Sum.inl (y6.fst,y1.fst,y1.snd.fst,y1.snd.snd.fst,y1.snd.snd.snd.snd))) (fun (y7:xZ)=>(zA 64 y1.snd.snd.snd.snd [q8.mk 0 (lit []) 0 0 (Sl.mk [] false)]).bind fun (y8:Sl q8)=>(ze y8 (Sl.len y1.snd.snd.snd.snd)).bind fun (y9:q8)=>G _ inferInstance ((ze y8 (Sl.len y1.snd.snd.snd.snd)).bind fun (y10:q8)=>some (Sum.inr (y1.fst,y1.snd.fst,y1.snd.snd.fst,y7.snd.fst,y8.set (Sl.len y1.snd.snd.snd.snd) (q8.mk y7.fst.fst y7.fst.snd.fst y7.fst.snd.snd.fst y7.fst.snd.snd.snd y7.snd.snd)))) ((ze y8 (Sl.len y1.snd.snd.snd.snd)).bind fun (y11:q8)=>some (Sum.inr (y1.fst,y1.snd.fst,y1.snd.snd.fst,y7.snd.fst,y8.set (Sl.len y1.snd.snd.snd.snd) (q8.mk y7.fst.fst y7.fst.snd.fst y7.fst.snd.snd.fst y7.fst.snd.snd.snd y7.snd.snd))))) y5).bind fun (y12:zpt)=>Sum.elim (fun (y13:zbG)=>some (Sum.inl y13)) (fun (y14:zc5)=>some (Sum.inr y14)) y12 else (f22 (lit [116,121,112,101],y4.snd)).bind fun (y15:Z5)=>Sum.elim (fun (y16:zj)=>some (Sum.inl (y16.fst,y1.fst,y1.snd.fst,y1.snd.snd.fst,y1.snd.snd.snd.snd))) (fun (y17:q6)=>((f46 (y3.fst.At_,y17)).bind fun (y18:Zb)=>Sum.elim (fun (y19:zj)=>some (Sum.inl (y19.fst,y1.fst,y1.snd.fst,y1.snd.snd.fst,y1.snd.snd.snd.snd))) (fun (y20:xZ)=>(zA 64 y1.snd.snd.snd.snd [q8.mk 0 (lit []) 0 0 (Sl.mk [] false)]).bind fun (y21:Sl q8)=>(ze y21 (Sl.len y1.snd.snd.snd.snd)).bind fun (y22:q8)=>G _ inferInstance ((ze y21 (Sl.len y1.snd.snd.snd.snd)).bind fun (y23:q8)=>some (Sum.inr (y1.fst,y1.snd.fst,y1.snd.snd.fst,y20.snd.fst,y21.set (Sl.len y1.snd.snd.snd.snd) (q8.mk y20.fst.fst y20.fst.snd.fst y20.fst.snd.snd.fst y20.fst.snd.snd.snd y20.snd.snd)))) ((ze y21 (Sl.len y1.snd.snd.snd.snd)).bind fun (y24:q8)=>some (Sum.inr (y1.fst,y1.snd.fst,y1.snd.snd.fst,y20.snd.fst,y21.set (Sl.len y1.snd.snd.snd.snd) (q8.mk y20.fst.fst y20.fst.snd.fst y20.fst.snd.snd.fst y20.fst.snd.snd.snd y20.snd.snd))))) y18).bind fun (y25:zpt)=>Sum.elim (fun (y26:zbG)=>some (Sum.inl y26)) (fun (y27:zc5)=>some (Sum.inr y27)) y25) y15).bind fun (y28:zpt)=>Sum.elim (fun (y29:zbG)=>some (Step.done (Sum.inl y29))) (fun (y30:zc5)=>some (Step.next y30)) y28 else some (Step.done (Sum.inr (y1.fst,y1.snd.fst,y1.snd.snd.fst,y1.snd.snd.snd.snd)))
noncomputable def qd0 (L:zc) (G:zf) (f15:zgR) (f16:XC) (f18:Zx) (f41:zgC) (f22:wc) (f46:zgC) (f48:zs4) (f47:WU) (f49:zs8) (x:Zy):Option (q8×Int×Int):=(f15 x).bind fun (y0:zmp)=>if decide (y0.snd.fst≠0)=true then some (q8.mk 0 (lit []) 0 0 (Sl.mk [] false),y0.fst,y0.snd.fst) else (L ((qbm L G) f15 f16 f18 f41 f22 f46 f48 f47 f49) ((0,lit [],0,0),y0.fst,y0.snd.fst,q6.mk y0.snd.snd 0,Sl.mk [] false)).bind fun (y31:zs6)=>Sum.elim (fun (y32:zbG)=>(f48 y32).bind fun (y33:wM)=>some (q8.mk y33.fst.fst y33.fst.snd.fst y33.fst.snd.snd.fst y33.fst.snd.snd.snd (Sl.mk [] false),y33.snd.fst,y33.snd.snd.fst)) (fun (y34:wM)=>(f47 (q8.mk y34.fst.fst y34.fst.snd.fst y34.fst.snd.snd.fst y34.fst.snd.snd.snd y34.snd.snd.snd)).bind fun (y35:Int)=>if decide (4096 < y35)=true then (f49 ((0,lit [],0,0),0,22,Sl.mk [] false)).bind fun (y36:wM)=>some (q8.mk y36.fst.fst y36.fst.snd.fst y36.fst.snd.snd.fst y36.fst.snd.snd.snd y36.snd.snd.snd,y36.snd.fst,y36.snd.snd.fst) else (f49 (y34.fst,0,0,y34.snd.snd.snd)).bind fun (y37:wM)=>some (q8.mk y37.fst.fst y37.fst.snd.fst y37.fst.snd.snd.fst y37.fst.snd.snd.snd y37.snd.snd.snd,y37.snd.fst,y37.snd.snd.fst)) y31
noncomputable def q63:zdd:=qd0 lpW zh qcz q15 qy q72 q13 q69 q5c qdp q3i
noncomputable def YY:zdd:=F50
instance (y):LC (qbm lpW zh qcz q15 qy q72 q13 q69 q5c qdp q3i y) (qbm lpO zg WZ zF zm xF zD xd YL vP yP y):=by
  unfold qbm
  infer_instance
instance tw_syntax_Parse (x):LC (q63 x) (YY x):=by
  rw [show YY x=qd0 lpO zg WZ zF zm xF zD xd YL vP yP x from by kernel_rfl]
  unfold q63 qd0
  infer_instance
noncomputable def qc5 (L:zc) (G:zf):ze0→Option (Step ze0 zhk):=fun (y0:ze0)=>if decide (y0.snd.snd.fst < y0.snd.fst)=true then (ze y0.fst y0.snd.snd.fst).bind fun (y1:q8)=>(if decide (y1.Kind_=3)=true then (zA 64 y0.snd.snd.snd.fst [q8.mk y1.Kind_ y1.Text_ y1.Num_ y1.At_ y1.Kids_]).bind fun (y2:Sl q8)=>some (y0.fst,y0.snd.fst,y0.snd.snd.fst,y2,y0.snd.snd.snd.snd) else (if decide (y1.Kind_=4)=true then (zA 64 y0.snd.snd.snd.snd [q8.mk y1.Kind_ y1.Text_ y1.Num_ y1.At_ y1.Kids_]).bind fun (y3:Sl q8)=>some (y0.fst,y0.snd.fst,y0.snd.snd.fst,y0.snd.snd.snd.fst,y3) else some y0).bind fun (y4:ze0)=>some y4).bind fun (y5:ze0)=>some (Step.next (y5.fst,y5.snd.fst,IntKind.i64.wrap (y5.snd.snd.fst+1),y5.snd.snd.snd)) else some (Step.done y0.snd.snd.snd)
noncomputable def qda (L:zc) (G:zf) (x:q8):Option zhk:=(L (qc5 L G) (x.Kids_,x.Kids_.len,0,Sl.mk [] false,Sl.mk [] false)).bind fun (y6:zhk)=>some y6
noncomputable def qb2:ze4:=qda lpW zh
noncomputable def XT:ze4:=P51.F
instance (y):LC (qc5 lpW zh y) (qc5 lpO zg y):=by
  unfold qc5
  infer_instance
instance tw_shape_parts (x):LC (qb2 x) (XT x):=by
  rw [show XT x=qda lpO zg x from by kernel_rfl]
  unfold qb2 qda
  infer_instance
noncomputable def q94 (L:zc) (G:zf) (x:qa×ByteArray):Option yy:=some (decide (x.fst.Name_=x.snd),x.snd)
noncomputable def q5d:(qa×ByteArray)→Option yy:=q94 lpW zh
noncomputable def YM:(qa×ByteArray)→Option yy:=P52.F
instance tw_shape_Table_Find_1 (x):LC (q5d x) (YM x):=by
  rw [show YM x=q94 lpO zg x from by kernel_rfl]
  unfold q5d q94
  infer_instance
noncomputable def q6a (L:zc) (G:zf) (f52:zqF):zl2→Option (Step zl2 zab):=fun (y0:zl2)=>if decide (y0.snd.snd.fst < y0.snd.fst)=true then (ze y0.fst y0.snd.snd.fst).bind fun (y1:qa)=>(f52 (y1,y0.snd.snd.snd)).bind fun (y2:yy)=>if y2.fst=true then some (Step.done (Sum.inl (y0.snd.snd.fst,y2.snd))) else some (Step.next (y0.fst,y0.snd.fst,IntKind.i64.wrap (y0.snd.snd.fst+1),y2.snd)) else some (Step.done (Sum.inr y0.snd.snd.snd))
noncomputable def qb9 (L:zc) (G:zf) (f52:zqF) (x:zbN):Option yz:=(L ((q6a L G) f52) (x.fst,Sl.len x.fst,0,x.snd)).bind fun (y3:zab)=>Sum.elim (fun (y4:yz)=>some y4) (fun (y5:Zy)=>some (-1,y5)) y3
noncomputable def qbq:zbN→Option yz:=qb9 lpW zh q5d
noncomputable def wz:zbN→Option yz:=P53.F
instance (y):LC (q6a lpW zh q5d y) (q6a lpO zg YM y):=by
  unfold q6a
  infer_instance
instance tw_shape_Type_Find1 (x):LC (qbq x) (wz x):=by
  rw [show wz x=qb9 lpO zg YM x from by kernel_rfl]
  unfold qbq qb9
  infer_instance
noncomputable def qba (L:zc) (G:zf) (f53:zbN→Option yz) (x:zbN):Option Int:=(f53 x).bind fun (y0:yz)=>some y0.fst
noncomputable def q1l:zbN→Option Int:=qba lpW zh qbq
noncomputable def Zo:zbN→Option Int:=P54.F
instance tw_shape_Table_Find (x):LC (q1l x) (Zo x):=by
  rw [show Zo x=qba lpO zg wz x from by kernel_rfl]
  unfold q1l qba
  infer_instance
noncomputable def qdq (L:zc) (G:zf) (x:zms):Option xb:=if (!x.fst)=true then some (Sum.inl (x.snd.fst.At_,x.snd.snd)) else some (Sum.inr ())
noncomputable def q45:zms→Option xb:=qdq lpW zh
noncomputable def yW:zms→Option xb:=P55.F
instance tw_shape_must (x):LC (q45 x) (yW x):=by
  rw [show yW x=qdq lpO zg x from by kernel_rfl]
  unfold q45 qdq
  infer_instance
noncomputable def qcq (L:zc) (G:zf) (x:zdr):Option yy:=some (decide (x.fst.Text_=x.snd),x.snd)
noncomputable def qbn:zdr→Option yy:=qcq lpW zh
noncomputable def wh:zdr→Option yy:=P56.F
instance tw_shape_named_1 (x):LC (qbn x) (wh x):=by
  rw [show wh x=qcq lpO zg x from by kernel_rfl]
  unfold qbn qcq
  infer_instance
noncomputable def q4d (L:zc) (G:zf) (f56:zgM):zdh→Option (Step zdh zab):=fun (y0:zdh)=>if decide (y0.snd.snd.fst < y0.snd.fst)=true then (ze y0.fst y0.snd.snd.fst).bind fun (y1:q8)=>(f56 (q8.mk y1.Kind_ y1.Text_ y1.Num_ y1.At_ y1.Kids_,y0.snd.snd.snd)).bind fun (y2:yy)=>if y2.fst=true then some (Step.done (Sum.inl (y0.snd.snd.fst,y2.snd))) else some (Step.next (y0.fst,y0.snd.fst,IntKind.i64.wrap (y0.snd.snd.fst+1),y2.snd)) else some (Step.done (Sum.inr y0.snd.snd.snd))
noncomputable def q95 (L:zc) (G:zf) (f56:zgM) (x:wO):Option yz:=(L ((q4d L G) f56) (x.fst,Sl.len x.fst,0,x.snd)).bind fun (y3:zab)=>Sum.elim (fun (y4:yz)=>some y4) (fun (y5:Zy)=>some (-1,y5)) y3
noncomputable def qag:wO→Option yz:=q95 lpW zh qbn
noncomputable def XH:wO→Option yz:=P57.F
instance (y):LC (q4d lpW zh qbn y) (q4d lpO zg wh y):=by
  unfold q4d
  infer_instance
instance tw_syntax_Node_named1 (x):LC (qag x) (XH x):=by
  rw [show XH x=q95 lpO zg wh x from by kernel_rfl]
  unfold qag q95
  infer_instance
noncomputable def q6o (L:zc) (G:zf) (f57:zqC) (x:wO):Option yy:=(f57 x).bind fun (y0:yz)=>some (decide (0≤y0.fst),y0.snd)
noncomputable def q7j:wO→Option yy:=q6o lpW zh qag
noncomputable def xU:wO→Option yy:=P58.F
instance tw_syntax_Node_named1_2 (x):LC (q7j x) (xU x):=by
  rw [show xU x=q6o lpO zg XH x from by kernel_rfl]
  unfold q7j q6o
  infer_instance
noncomputable def qdb (L:zc) (G:zf) (f58:wO→Option yy) (x:wO):Option Bool:=(f58 x).bind fun (y0:yy)=>some y0.fst
noncomputable def qb3:wO→Option Bool:=qdb lpW zh q7j
noncomputable def XU:wO→Option Bool:=P59.F
instance tw_shape_named (x):LC (qb3 x) (XU x):=by
  rw [show XU x=qdb lpO zg xU x from by kernel_rfl]
  unfold qb3 qdb
  infer_instance
noncomputable def q7k (L:zc) (G:zf) (x:zdr):Option yy:=(if decide (x.fst.Text_=x.snd)=true then some (decide (x.fst.Kids_.len=0),x.snd) else some (false,x.snd)).bind fun (y0:yy)=>some y0
noncomputable def q4e:zdr→Option yy:=q7k lpW zh
noncomputable def Yg:zdr→Option yy:=P60.F
instance tw_shape_Type_number_1 (x):LC (q4e x) (Yg x):=by
  rw [show Yg x=q7k lpO zg x from by kernel_rfl]
  unfold q4e q7k
  infer_instance
noncomputable def q3j (L:zc) (G:zf) (f60:zgM):zdh→Option (Step zdh zab):=fun (y0:zdh)=>if decide (y0.snd.snd.fst < y0.snd.fst)=true then (ze y0.fst y0.snd.snd.fst).bind fun (y1:q8)=>(f60 (q8.mk y1.Kind_ y1.Text_ y1.Num_ y1.At_ y1.Kids_,y0.snd.snd.snd)).bind fun (y2:yy)=>if y2.fst=true then some (Step.done (Sum.inl (y0.snd.snd.fst,y2.snd))) else some (Step.next (y0.fst,y0.snd.fst,IntKind.i64.wrap (y0.snd.snd.fst+1),y2.snd)) else some (Step.done (Sum.inr y0.snd.snd.snd))
noncomputable def q7l (L:zc) (G:zf) (f60:zgM) (x:wO):Option yz:=(L ((q3j L G) f60) (x.fst,Sl.len x.fst,0,x.snd)).bind fun (y3:zab)=>Sum.elim (fun (y4:yz)=>some y4) (fun (y5:Zy)=>some (-1,y5)) y3
noncomputable def q96:wO→Option yz:=q7l lpW zh q4e
noncomputable def Xl:wO→Option yz:=P61.F
instance (y):LC (q3j lpW zh q4e y) (q3j lpO zg Yg y):=by
  unfold q3j
  infer_instance
instance tw_syntax_Node_number1 (x):LC (q96 x) (Xl x):=by
  rw [show Xl x=q7l lpO zg Yg x from by kernel_rfl]
  unfold q96 q7l
  infer_instance
noncomputable def qah (L:zc) (G:zf) (f61:zqC) (x:zme):Option Int:=(f61 (x.snd.snd,x.snd.fst)).bind fun (y0:yz)=>some y0.fst
noncomputable def q1q:zme→Option Int:=qah lpW zh q96
noncomputable def Zv:zme→Option Int:=P62.F
instance tw_shape_Type_number (x):LC (q1q x) (Zv x):=by
  rw [show Zv x=qah lpO zg Xl x from by kernel_rfl]
  unfold q1q qah
  infer_instance
noncomputable def q1x (L:zc) (G:zf):zlR→Option (Step zlR zdt):=fun (y0:zlR)=>if decide (y0.snd.snd.snd < y0.snd.snd.fst)=true then (ze y0.fst y0.snd.snd.snd).bind fun (y1:Zy)=>if decide (y0.snd.fst=y1)=true then some (Step.done (Sum.inl y0.snd.snd.snd)) else some (Step.next (y0.fst,y0.snd.fst,y0.snd.snd.fst,IntKind.i64.wrap (y0.snd.snd.snd+1))) else some (Step.done (Sum.inr ()))
noncomputable def q2w (L:zc) (G:zf) (x:zl9):Option Int:=(L (q1x L G) (x.fst,x.snd,Sl.len x.fst,0)).bind fun (y2:zdt)=>Sum.elim (fun (y3:Int)=>some y3) (fun (y4:Unit)=>some (-1)) y2
noncomputable def q1z:zl9→Option Int:=q2w lpW zh
noncomputable def ZT:zl9→Option Int:=P63.F
instance (y):LC (q1x lpW zh y) (q1x lpO zg y):=by
  unfold q1x
  infer_instance
instance tw_slices_Index_string_string (x):LC (q1z x) (ZT x):=by
  rw [show ZT x=q2w lpO zg x from by kernel_rfl]
  unfold q1z q2w
  infer_instance
noncomputable def qbb (L:zc) (G:zf) (f63:zqN) (f62:zdc) (f55:zc8) (f54:zbL) (x:zlk):Option zau:=(f63 (Sl.mk [lit [111,119,110],lit [99,101,108,108],lit [99,111,117,110,116,101,100],lit [108,111,99,107],lit [103,117,97,114,100]] true,x.snd.fst.Text_)).bind fun (y0:Int)=>(if decide (y0=2)=true then some (x.fst,x.snd.snd.fst,x.snd.snd.snd.fst,y0,decide (y0=2),(x.snd.snd.snd.snd.fst.fst,y0,x.snd.snd.snd.snd.fst.snd.snd),x.snd.snd.snd.snd.snd.fst,x.snd.snd.snd.snd.snd.snd,q8.mk x.snd.fst.Kind_ x.snd.fst.Text_ x.snd.fst.Num_ x.snd.fst.At_ x.snd.fst.Kids_) else some (x.fst,x.snd.snd.fst,x.snd.snd.snd.fst,y0,decide (y0=3),(x.snd.snd.snd.snd.fst.fst,y0,x.snd.snd.snd.snd.fst.snd.snd),x.snd.snd.snd.snd.snd.fst,x.snd.snd.snd.snd.snd.snd,q8.mk x.snd.fst.Kind_ x.snd.fst.Text_ x.snd.fst.Num_ x.snd.fst.At_ x.snd.fst.Kids_)).bind fun (y1:Sl qa×Sl q8×Sl q8×Int×Bool×zP×Sl qp×Sl qt×q8)=>(if y1.snd.snd.snd.snd.fst=true then (ze y1.snd.snd.snd.snd.snd.snd.snd.snd.Kids_ 0).bind fun (y2:q8)=>(f62 (qa.mk y1.snd.snd.snd.snd.snd.fst.fst y1.snd.snd.snd.snd.snd.fst.snd.fst y1.snd.snd.snd.snd.snd.fst.snd.snd y1.snd.snd.snd.snd.snd.snd.fst y1.snd.snd.snd.snd.snd.snd.snd.fst,y2.Text_,y1.snd.fst)).bind fun (y3:Int)=>(f55 (decide (0≤y3),q8.mk y1.snd.snd.snd.snd.snd.snd.snd.snd.Kind_ y1.snd.snd.snd.snd.snd.snd.snd.snd.Text_ y1.snd.snd.snd.snd.snd.snd.snd.snd.Num_ y1.snd.snd.snd.snd.snd.snd.snd.snd.At_ y1.snd.snd.snd.snd.snd.snd.snd.snd.Kids_,32)).bind fun (y4:xb)=>Sum.elim (fun (y5:zT)=>some (Sum.inl (y5,(y1.snd.snd.snd.snd.snd.fst.fst,y1.snd.snd.snd.snd.snd.fst.snd.fst,y3),y1.snd.snd.snd.snd.snd.snd.fst,y1.snd.snd.snd.snd.snd.snd.snd.fst))) (fun (y6:Unit)=>some (Sum.inr ((y1.snd.snd.snd.snd.snd.fst.fst,y1.snd.snd.snd.snd.snd.fst.snd.fst,y3),y1.snd.snd.snd.snd.snd.snd.fst,y1.snd.snd.snd.snd.snd.snd.snd.fst))) y4 else (if decide (y1.snd.snd.snd.fst=4)=true then (ze y1.snd.snd.snd.snd.snd.snd.snd.snd.Kids_ 0).bind fun (y7:q8)=>(f54 (y1.fst,y7.Text_)).bind fun (y8:Int)=>(if decide (0≤y8)=true then (ze y1.fst y8).bind fun (y9:qa)=>(f55 (decide (y9.Sort_=3),q8.mk y1.snd.snd.snd.snd.snd.snd.snd.snd.Kind_ y1.snd.snd.snd.snd.snd.snd.snd.snd.Text_ y1.snd.snd.snd.snd.snd.snd.snd.snd.Num_ y1.snd.snd.snd.snd.snd.snd.snd.snd.At_ y1.snd.snd.snd.snd.snd.snd.snd.snd.Kids_,31)).bind fun (y10:xb)=>Sum.elim (fun (y11:zT)=>some (Sum.inl (y11,(y1.snd.snd.snd.snd.snd.fst.fst,y1.snd.snd.snd.snd.snd.fst.snd.fst,y8),y1.snd.snd.snd.snd.snd.snd.fst,y1.snd.snd.snd.snd.snd.snd.snd.fst))) (fun (y12:Unit)=>some (Sum.inr (y1.snd.fst,y1.snd.snd.fst,(y1.snd.snd.snd.snd.snd.fst.fst,y1.snd.snd.snd.snd.snd.fst.snd.fst,y8),y1.snd.snd.snd.snd.snd.snd.fst,y1.snd.snd.snd.snd.snd.snd.snd.fst,q8.mk y1.snd.snd.snd.snd.snd.snd.snd.snd.Kind_ y1.snd.snd.snd.snd.snd.snd.snd.snd.Text_ y1.snd.snd.snd.snd.snd.snd.snd.snd.Num_ y1.snd.snd.snd.snd.snd.snd.snd.snd.At_ y1.snd.snd.snd.snd.snd.snd.snd.snd.Kids_))) y10 else (f55 (false,q8.mk y1.snd.snd.snd.snd.snd.snd.snd.snd.Kind_ y1.snd.snd.snd.snd.snd.snd.snd.snd.Text_ y1.snd.snd.snd.snd.snd.snd.snd.snd.Num_ y1.snd.snd.snd.snd.snd.snd.snd.snd.At_ y1.snd.snd.snd.snd.snd.snd.snd.snd.Kids_,31)).bind fun (y13:xb)=>Sum.elim (fun (y14:zT)=>some (Sum.inl (y14,(y1.snd.snd.snd.snd.snd.fst.fst,y1.snd.snd.snd.snd.snd.fst.snd.fst,y8),y1.snd.snd.snd.snd.snd.snd.fst,y1.snd.snd.snd.snd.snd.snd.snd.fst))) (fun (y15:Unit)=>some (Sum.inr (y1.snd.fst,y1.snd.snd.fst,(y1.snd.snd.snd.snd.snd.fst.fst,y1.snd.snd.snd.snd.snd.fst.snd.fst,y8),y1.snd.snd.snd.snd.snd.snd.fst,y1.snd.snd.snd.snd.snd.snd.snd.fst,q8.mk y1.snd.snd.snd.snd.snd.snd.snd.snd.Kind_ y1.snd.snd.snd.snd.snd.snd.snd.snd.Text_ y1.snd.snd.snd.snd.snd.snd.snd.snd.Num_ y1.snd.snd.snd.snd.snd.snd.snd.snd.At_ y1.snd.snd.snd.snd.snd.snd.snd.snd.Kids_))) y13).bind fun (y16:zT×zP×Sl qp×Sl qt⊕Sl q8×Sl q8×zP×Sl qp×Sl qt×q8)=>Sum.elim (fun (y17:V4)=>some (Sum.inl y17)) (fun (y18:Sl q8×Sl q8×zP×Sl qp×Sl qt×q8)=>(f55 (decide (IntKind.i64.wrap (Sl.len y18.fst+Sl.len y18.snd.fst)=0),q8.mk y18.snd.snd.snd.snd.snd.Kind_ y18.snd.snd.snd.snd.snd.Text_ y18.snd.snd.snd.snd.snd.Num_ y18.snd.snd.snd.snd.snd.At_ y18.snd.snd.snd.snd.snd.Kids_,32)).bind fun (y19:xb)=>Sum.elim (fun (y20:zT)=>some (Sum.inl (y20,y18.snd.snd.fst,y18.snd.snd.snd.fst,y18.snd.snd.snd.snd.fst))) (fun (y21:Unit)=>some (Sum.inr (y18.snd.snd.fst,y18.snd.snd.snd.fst,y18.snd.snd.snd.snd.fst))) y19) y16 else some (Sum.inr (y1.snd.snd.snd.snd.snd.fst,y1.snd.snd.snd.snd.snd.snd.fst,y1.snd.snd.snd.snd.snd.snd.snd.fst))).bind fun (y22:zau)=>Sum.elim (fun (y23:V4)=>some (Sum.inl y23)) (fun (y24:zdb)=>some (Sum.inr y24)) y22).bind fun (y25:zau)=>Sum.elim (fun (y26:V4)=>some (Sum.inl y26)) (fun (y27:zdb)=>some (Sum.inr y27)) y25
noncomputable def q46:zlk→Option zau:=qbb lpW zh q1z q1q q45 q1l
noncomputable def yX:zlk→Option zau:=P64.F
instance tw_shape_Table_sort (x):LC (q46 x) (yX x):=by
  rw [show yX x=qbb lpO zg ZT Zv yW Zo x from by kernel_rfl]
  unfold q46 qbb
  repeat (first | infer_instance | refine LCb ?_ fun _=>?_ | refine LCi ?_ ?_ | refine LCe (fun _=>?_) fun _=>?_)
noncomputable def qdc (L:zc) (G:zf) (x:zdf):Option (Sl qt):=(if decide (x.fst=lit [60])=true then some (Sum.inl (Sl.mk [qt.mk x.snd.fst x.snd.snd.fst (IntKind.i64.wrap (IntKind.i64.wrap (x.snd.snd.snd.snd - x.snd.snd.snd.fst) - 1))] true)) else (if decide (x.fst=lit [60,61])=true then some (Sum.inl (Sl.mk [qt.mk x.snd.fst x.snd.snd.fst (IntKind.i64.wrap (x.snd.snd.snd.snd - x.snd.snd.snd.fst))] true)) else if decide (x.fst=lit [61,61])=true then some (Sum.inl (Sl.mk [qt.mk x.snd.fst x.snd.snd.fst (IntKind.i64.wrap (x.snd.snd.snd.snd - x.snd.snd.snd.fst)),qt.mk x.snd.snd.fst x.snd.fst (IntKind.i64.wrap (x.snd.snd.snd.fst - x.snd.snd.snd.snd))] true)) else some (Sum.inr ())).bind fun (y0:Sl qt⊕Unit)=>Sum.elim (fun (y1:Sl qt)=>some (Sum.inl y1)) (fun (y2:Unit)=>some (Sum.inr ())) y0).bind fun (y3:Sl qt⊕Unit)=>Sum.elim (fun (y4:Sl qt)=>some y4) (fun (y5:Unit)=>some (Sl.mk [] false)) y3
noncomputable def qck:zdf→Option (Sl qt):=qdc lpW zh
noncomputable def Wg:zdf→Option (Sl qt):=P65.F
instance tw_shape_Facts (x):LC (qck x) (Wg x):=by
  rw [show Wg x=qdc lpO zg x from by kernel_rfl]
  unfold qck qdc
  infer_instance
noncomputable def q73 (L:zc) (G:zf) (f62:zdc) (f55:zc8) (f65:zqt):zis→Option (Step zis zs7):=fun (y0:zis)=>if decide (y0.snd.snd.snd.fst < y0.snd.snd.fst)=true then ((ze y0.snd.fst y0.snd.snd.snd.fst).bind fun (y1:q8)=>if decide (y1.Text_=lit [])=true then some (Sum.inl (y0.fst,y0.snd.fst,y0.snd.snd.fst,y0.snd.snd.snd.fst,y0.snd.snd.snd.snd.fst,y0.snd.snd.snd.snd.snd.fst,y0.snd.snd.snd.snd.snd.snd.fst,q8.mk y0.snd.snd.snd.snd.snd.snd.snd.fst.Kind_ y0.snd.snd.snd.snd.snd.snd.snd.fst.Text_ y0.snd.snd.snd.snd.snd.snd.snd.fst.Num_ y0.snd.snd.snd.snd.snd.snd.snd.fst.At_ y0.snd.snd.snd.snd.snd.snd.snd.fst.Kids_,y0.snd.snd.snd.snd.snd.snd.snd.snd)) else (f62 (qa.mk y0.snd.snd.snd.snd.fst.fst y0.snd.snd.snd.snd.fst.snd.fst y0.snd.snd.snd.snd.fst.snd.snd y0.snd.snd.snd.snd.snd.fst y0.snd.snd.snd.snd.snd.snd.fst,y1.Text_,y0.fst)).bind fun (y2:Int)=>(if decide (0≤y2)=true then if decide (y0.snd.snd.snd.snd.fst.snd.fst=2)=true then (f55 (!decide (y2=y0.snd.snd.snd.snd.fst.snd.snd),q8.mk y0.snd.snd.snd.snd.snd.snd.snd.fst.Kind_ y0.snd.snd.snd.snd.snd.snd.snd.fst.Text_ y0.snd.snd.snd.snd.snd.snd.snd.fst.Num_ y0.snd.snd.snd.snd.snd.snd.snd.fst.At_ y0.snd.snd.snd.snd.snd.snd.snd.fst.Kids_,33)).bind fun (y3:xb)=>Sum.elim (fun (y4:zT)=>some (Sum.inl (y4,y0.snd.snd.snd.snd.fst,y0.snd.snd.snd.snd.snd.fst,y0.snd.snd.snd.snd.snd.snd.fst))) (fun (y5:Unit)=>some (Sum.inr (y0.fst,y0.snd.snd.snd.fst,y2,y0.snd.fst,y0.snd.snd.fst,y0.snd.snd.snd.fst,y0.snd.snd.snd.snd.fst,y0.snd.snd.snd.snd.snd.fst,y0.snd.snd.snd.snd.snd.snd.fst,q8.mk y0.snd.snd.snd.snd.snd.snd.snd.fst.Kind_ y0.snd.snd.snd.snd.snd.snd.snd.fst.Text_ y0.snd.snd.snd.snd.snd.snd.snd.fst.Num_ y0.snd.snd.snd.snd.snd.snd.snd.fst.At_ y0.snd.snd.snd.snd.snd.snd.snd.fst.Kids_,y0.snd.snd.snd.snd.snd.snd.snd.snd))) y3 else if decide (y0.snd.snd.snd.snd.fst.snd.fst=3)=true then (f55 (!decide (y2=y0.snd.snd.snd.snd.fst.snd.snd),q8.mk y0.snd.snd.snd.snd.snd.snd.snd.fst.Kind_ y0.snd.snd.snd.snd.snd.snd.snd.fst.Text_ y0.snd.snd.snd.snd.snd.snd.snd.fst.Num_ y0.snd.snd.snd.snd.snd.snd.snd.fst.At_ y0.snd.snd.snd.snd.snd.snd.snd.fst.Kids_,33)).bind fun (y6:xb)=>Sum.elim (fun (y7:zT)=>some (Sum.inl (y7,y0.snd.snd.snd.snd.fst,y0.snd.snd.snd.snd.snd.fst,y0.snd.snd.snd.snd.snd.snd.fst))) (fun (y8:Unit)=>some (Sum.inr (y0.fst,y0.snd.snd.snd.fst,y2,y0.snd.fst,y0.snd.snd.fst,y0.snd.snd.snd.fst,y0.snd.snd.snd.snd.fst,y0.snd.snd.snd.snd.snd.fst,y0.snd.snd.snd.snd.snd.snd.fst,q8.mk y0.snd.snd.snd.snd.snd.snd.snd.fst.Kind_ y0.snd.snd.snd.snd.snd.snd.snd.fst.Text_ y0.snd.snd.snd.snd.snd.snd.snd.fst.Num_ y0.snd.snd.snd.snd.snd.snd.snd.fst.At_ y0.snd.snd.snd.snd.snd.snd.snd.fst.Kids_,y0.snd.snd.snd.snd.snd.snd.snd.snd))) y6 else (f55 (!false,q8.mk y0.snd.snd.snd.snd.snd.snd.snd.fst.Kind_ y0.snd.snd.snd.snd.snd.snd.snd.fst.Text_ y0.snd.snd.snd.snd.snd.snd.snd.fst.Num_ y0.snd.snd.snd.snd.snd.snd.snd.fst.At_ y0.snd.snd.snd.snd.snd.snd.snd.fst.Kids_,33)).bind fun (y9:xb)=>Sum.elim (fun (y10:zT)=>some (Sum.inl (y10,y0.snd.snd.snd.snd.fst,y0.snd.snd.snd.snd.snd.fst,y0.snd.snd.snd.snd.snd.snd.fst))) (fun (y11:Unit)=>some (Sum.inr (y0.fst,y0.snd.snd.snd.fst,y2,y0.snd.fst,y0.snd.snd.fst,y0.snd.snd.snd.fst,y0.snd.snd.snd.snd.fst,y0.snd.snd.snd.snd.snd.fst,y0.snd.snd.snd.snd.snd.snd.fst,q8.mk y0.snd.snd.snd.snd.snd.snd.snd.fst.Kind_ y0.snd.snd.snd.snd.snd.snd.snd.fst.Text_ y0.snd.snd.snd.snd.snd.snd.snd.fst.Num_ y0.snd.snd.snd.snd.snd.snd.snd.fst.At_ y0.snd.snd.snd.snd.snd.snd.snd.fst.Kids_,y0.snd.snd.snd.snd.snd.snd.snd.snd))) y9 else (f55 (false,q8.mk y0.snd.snd.snd.snd.snd.snd.snd.fst.Kind_ y0.snd.snd.snd.snd.snd.snd.snd.fst.Text_ y0.snd.snd.snd.snd.snd.snd.snd.fst.Num_ y0.snd.snd.snd.snd.snd.snd.snd.fst.At_ y0.snd.snd.snd.snd.snd.snd.snd.fst.Kids_,33)).bind fun (y12:xb)=>Sum.elim (fun (y13:zT)=>some (Sum.inl (y13,y0.snd.snd.snd.snd.fst,y0.snd.snd.snd.snd.snd.fst,y0.snd.snd.snd.snd.snd.snd.fst))) (fun (y14:Unit)=>some (Sum.inr (y0.fst,y0.snd.snd.snd.fst,y2,y0.snd.fst,y0.snd.snd.fst,y0.snd.snd.snd.fst,y0.snd.snd.snd.snd.fst,y0.snd.snd.snd.snd.snd.fst,y0.snd.snd.snd.snd.snd.snd.fst,q8.mk y0.snd.snd.snd.snd.snd.snd.snd.fst.Kind_ y0.snd.snd.snd.snd.snd.snd.snd.fst.Text_ y0.snd.snd.snd.snd.snd.snd.snd.fst.Num_ y0.snd.snd.snd.snd.snd.snd.snd.fst.At_ y0.snd.snd.snd.snd.snd.snd.snd.fst.Kids_,y0.snd.snd.snd.snd.snd.snd.snd.snd))) y12).bind fun (y15:zT×zP×Sl qp×Sl qt⊕Sl q8×Int×Int×Sl q8×Int×Int×zP×Sl qp×Sl qt×q8×Int×Int)=>Sum.elim (fun (y16:V4)=>some (Sum.inr y16)) (fun (y17:Sl q8×Int×Int×Sl q8×Int×Int×zP×Sl qp×Sl qt×q8×Int×Int)=>(bif decide (y17.snd.fst=1) then some (y17.fst,y17.snd.snd.snd.fst,y17.snd.snd.snd.snd.fst,y17.snd.snd.snd.snd.snd.fst,y17.snd.snd.snd.snd.snd.snd.fst,y17.snd.snd.snd.snd.snd.snd.snd.fst,y17.snd.snd.snd.snd.snd.snd.snd.snd.fst,q8.mk y17.snd.snd.snd.snd.snd.snd.snd.snd.snd.fst.Kind_ y17.snd.snd.snd.snd.snd.snd.snd.snd.snd.fst.Text_ y17.snd.snd.snd.snd.snd.snd.snd.snd.snd.fst.Num_ y17.snd.snd.snd.snd.snd.snd.snd.snd.snd.fst.At_ y17.snd.snd.snd.snd.snd.snd.snd.snd.snd.fst.Kids_,y17.snd.snd.snd.snd.snd.snd.snd.snd.snd.snd.fst,IntKind.i64.wrap (y17.snd.snd.fst+1)) else bif decide (y17.snd.fst=0) then some (y17.fst,y17.snd.snd.snd.fst,y17.snd.snd.snd.snd.fst,y17.snd.snd.snd.snd.snd.fst,y17.snd.snd.snd.snd.snd.snd.fst,y17.snd.snd.snd.snd.snd.snd.snd.fst,y17.snd.snd.snd.snd.snd.snd.snd.snd.fst,q8.mk y17.snd.snd.snd.snd.snd.snd.snd.snd.snd.fst.Kind_ y17.snd.snd.snd.snd.snd.snd.snd.snd.snd.fst.Text_ y17.snd.snd.snd.snd.snd.snd.snd.snd.snd.fst.Num_ y17.snd.snd.snd.snd.snd.snd.snd.snd.snd.fst.At_ y17.snd.snd.snd.snd.snd.snd.snd.snd.snd.fst.Kids_,IntKind.i64.wrap (y17.snd.snd.fst+1),y17.snd.snd.snd.snd.snd.snd.snd.snd.snd.snd.snd) else none).bind fun (y18:zis)=>some (Sum.inl (y18.fst,y18.snd.fst,y18.snd.snd.fst,y18.snd.snd.snd.fst,y18.snd.snd.snd.snd.fst,y18.snd.snd.snd.snd.snd.fst,y18.snd.snd.snd.snd.snd.snd.fst,q8.mk y18.snd.snd.snd.snd.snd.snd.snd.fst.Kind_ y18.snd.snd.snd.snd.snd.snd.snd.fst.Text_ y18.snd.snd.snd.snd.snd.snd.snd.fst.Num_ y18.snd.snd.snd.snd.snd.snd.snd.fst.At_ y18.snd.snd.snd.snd.snd.snd.snd.fst.Kids_,y18.snd.snd.snd.snd.snd.snd.snd.snd))) y15).bind fun (y19:Sl q8×Sl q8×Int×Int×zP×Sl qp×Sl qt×q8×Int×Int⊕zT×zP×Sl qp×Sl qt)=>Sum.elim (fun (y20:zis)=>some (Step.next (y20.fst,y20.snd.fst,y20.snd.snd.fst,IntKind.i64.wrap (y20.snd.snd.snd.fst+1),y20.snd.snd.snd.snd.fst,y20.snd.snd.snd.snd.snd.fst,y20.snd.snd.snd.snd.snd.snd.fst,q8.mk y20.snd.snd.snd.snd.snd.snd.snd.fst.Kind_ y20.snd.snd.snd.snd.snd.snd.snd.fst.Text_ y20.snd.snd.snd.snd.snd.snd.snd.fst.Num_ y20.snd.snd.snd.snd.snd.snd.snd.fst.At_ y20.snd.snd.snd.snd.snd.snd.snd.fst.Kids_,y20.snd.snd.snd.snd.snd.snd.snd.snd))) (fun (y21:V4)=>some (Step.done (Sum.inl y21))) y19 else some (Step.done (Sum.inr (y0.snd.snd.snd.snd.fst,y0.snd.snd.snd.snd.snd.fst,y0.snd.snd.snd.snd.snd.snd.fst,q8.mk y0.snd.snd.snd.snd.snd.snd.snd.fst.Kind_ y0.snd.snd.snd.snd.snd.snd.snd.fst.Text_ y0.snd.snd.snd.snd.snd.snd.snd.fst.Num_ y0.snd.snd.snd.snd.snd.snd.snd.fst.At_ y0.snd.snd.snd.snd.snd.snd.snd.fst.Kids_,y0.snd.snd.snd.snd.snd.snd.snd.snd)))
noncomputable def qbr (L:zc) (G:zf) (f62:zdc) (f55:zc8) (f65:zqt) (x:zlv):Option zau:=(L ((q73 L G) f62 f55 f65) (x.snd.fst,x.fst.Kids_,x.fst.Kids_.len,0,x.snd.snd.fst,x.snd.snd.snd.fst,x.snd.snd.snd.snd,q8.mk x.fst.Kind_ x.fst.Text_ x.fst.Num_ x.fst.At_ x.fst.Kids_,0,0)).bind fun (y22:zs7)=>Sum.elim (fun (y23:V4)=>some (Sum.inl y23)) (fun (y24:zP×Sl qp×Sl qt×q8×Int×Int)=>(ze y24.snd.snd.snd.fst.Kids_ 0).bind fun (y25:q8)=>(ze y24.snd.snd.snd.fst.Kids_ 1).bind fun (y26:q8)=>(f65 (y24.snd.snd.snd.fst.Text_,y24.snd.snd.snd.snd.fst,y24.snd.snd.snd.snd.snd,y25.Num_,y26.Num_)).bind fun (y27:Sl qt)=>(zA 24 y24.snd.snd.fst y27.xs).bind fun (y28:Sl qt)=>some (Sum.inr (y24.fst,y24.snd.fst,y28))) y22
noncomputable def q54:zlv→Option zau:=qbr lpW zh q1q q45 qck
noncomputable def Yz:zlv→Option zau:=P66.F
instance (y):LC (q73 lpW zh q1q q45 qck y) (q73 lpO zg Zv yW Wg y):=by
  unfold q73
  repeat (first | infer_instance | refine LCb ?_ fun _=>?_ | refine LCi ?_ ?_ | refine LCe (fun _=>?_) fun _=>?_)
instance tw_shape_Type_fact (x):LC (q54 x) (Yz x):=by
  rw [show Yz x=qbr lpO zg Zv yW Wg x from by kernel_rfl]
  unfold q54 qbr
  infer_instance
noncomputable def q74 (L:zc) (G:zf) (f51:ze4) (f54:zbL) (f55:zc8) (f59:zlZ) (f62:zdc) (f64:tA2) (f66:tA9):zk7→Option (Step zk7 ztd):=fun (y8:zk7)=>if decide (y8.snd.snd.snd.snd.fst < y8.snd.snd.snd.fst)=true then ((ze y8.snd.snd.fst y8.snd.snd.snd.snd.fst).bind fun (y9:q8)=>(z6 y8.snd.fst 0 y8.snd.snd.snd.snd.fst).bind fun (y10:Sl q8)=>(f59 (y10,y9.Text_)).bind fun (y11:Bool)=>(f55 (!y11,q8.mk y9.Kind_ y9.Text_ y9.Num_ y9.At_ y9.Kids_,30)).bind fun (y12:xb)=>Sum.elim (fun (y13:zT)=>some (Sum.inl y13)) (fun (y14:Unit)=>(if decide (0 < y9.Kids_.len)=true then (ze y9.Kids_ 0).bind fun (y15:q8)=>(f62 (qa.mk y8.snd.snd.snd.snd.snd.snd.snd.snd.fst.fst y8.snd.snd.snd.snd.snd.snd.snd.snd.fst.snd.fst y8.snd.snd.snd.snd.snd.snd.snd.snd.fst.snd.snd y8.snd.snd.snd.snd.snd.snd.snd.snd.snd (Sl.mk [] false),y15.Text_,y8.snd.fst)).bind fun (y16:Int)=>((ze y8.snd.snd.snd.snd.snd.fst.Kids_ 0).bind fun (y17:q8)=>if decide (y17.Text_=lit [111,119,110])=true then (f55 (decide (0≤y16),q8.mk y9.Kind_ y9.Text_ y9.Num_ y9.At_ y9.Kids_,32)).bind fun (y18:xb)=>Sum.elim (fun (y19:zT)=>some (Sum.inl y19)) (fun (y20:Unit)=>some (Sum.inr (y8.fst,y8.snd.fst,y16,y8.snd.snd.fst,y8.snd.snd.snd.fst,y8.snd.snd.snd.snd.fst,q8.mk y8.snd.snd.snd.snd.snd.fst.Kind_ y8.snd.snd.snd.snd.snd.fst.Text_ y8.snd.snd.snd.snd.snd.fst.Num_ y8.snd.snd.snd.snd.snd.fst.At_ y8.snd.snd.snd.snd.snd.fst.Kids_,y8.snd.snd.snd.snd.snd.snd.fst,y8.snd.snd.snd.snd.snd.snd.snd.fst,y8.snd.snd.snd.snd.snd.snd.snd.snd.fst,q8.mk y9.Kind_ y9.Text_ y9.Num_ y9.At_ y9.Kids_,y8.snd.snd.snd.snd.snd.snd.snd.snd.snd))) y18 else (f55 (false,q8.mk y9.Kind_ y9.Text_ y9.Num_ y9.At_ y9.Kids_,32)).bind fun (y21:xb)=>Sum.elim (fun (y22:zT)=>some (Sum.inl y22)) (fun (y23:Unit)=>some (Sum.inr (y8.fst,y8.snd.fst,y16,y8.snd.snd.fst,y8.snd.snd.snd.fst,y8.snd.snd.snd.snd.fst,q8.mk y8.snd.snd.snd.snd.snd.fst.Kind_ y8.snd.snd.snd.snd.snd.fst.Text_ y8.snd.snd.snd.snd.snd.fst.Num_ y8.snd.snd.snd.snd.snd.fst.At_ y8.snd.snd.snd.snd.snd.fst.Kids_,y8.snd.snd.snd.snd.snd.snd.fst,y8.snd.snd.snd.snd.snd.snd.snd.fst,y8.snd.snd.snd.snd.snd.snd.snd.snd.fst,q8.mk y9.Kind_ y9.Text_ y9.Num_ y9.At_ y9.Kids_,y8.snd.snd.snd.snd.snd.snd.snd.snd.snd))) y21).bind fun (y24:zs2)=>Sum.elim (fun (y25:zT)=>some (Sum.inl y25)) (fun (y26:zs5)=>some (Sum.inr (y26.fst,y26.snd.fst,y26.snd.snd.fst,y26.snd.snd.snd.fst,y26.snd.snd.snd.snd.fst,y26.snd.snd.snd.snd.snd.fst,q8.mk y26.snd.snd.snd.snd.snd.snd.fst.Kind_ y26.snd.snd.snd.snd.snd.snd.fst.Text_ y26.snd.snd.snd.snd.snd.snd.fst.Num_ y26.snd.snd.snd.snd.snd.snd.fst.At_ y26.snd.snd.snd.snd.snd.snd.fst.Kids_,y26.snd.snd.snd.snd.snd.snd.snd.fst,y26.snd.snd.snd.snd.snd.snd.snd.snd.fst,y26.snd.snd.snd.snd.snd.snd.snd.snd.snd.fst,q8.mk y26.snd.snd.snd.snd.snd.snd.snd.snd.snd.snd.fst.Kind_ y26.snd.snd.snd.snd.snd.snd.snd.snd.snd.snd.fst.Text_ y26.snd.snd.snd.snd.snd.snd.snd.snd.snd.snd.fst.Num_ y26.snd.snd.snd.snd.snd.snd.snd.snd.snd.snd.fst.At_ y26.snd.snd.snd.snd.snd.snd.snd.snd.snd.snd.fst.Kids_,y26.snd.snd.snd.snd.snd.snd.snd.snd.snd.snd.snd))) y24 else some (Sum.inr (y8.fst,y8.snd.fst, -1,y8.snd.snd.fst,y8.snd.snd.snd.fst,y8.snd.snd.snd.snd.fst,q8.mk y8.snd.snd.snd.snd.snd.fst.Kind_ y8.snd.snd.snd.snd.snd.fst.Text_ y8.snd.snd.snd.snd.snd.fst.Num_ y8.snd.snd.snd.snd.snd.fst.At_ y8.snd.snd.snd.snd.snd.fst.Kids_,y8.snd.snd.snd.snd.snd.snd.fst,y8.snd.snd.snd.snd.snd.snd.snd.fst,y8.snd.snd.snd.snd.snd.snd.snd.snd.fst,q8.mk y9.Kind_ y9.Text_ y9.Num_ y9.At_ y9.Kids_,y8.snd.snd.snd.snd.snd.snd.snd.snd.snd))).bind fun (y27:zs2)=>Sum.elim (fun (y28:zT)=>some (Sum.inl y28)) (fun (y29:zs5)=>(zA 24 y29.snd.snd.snd.snd.snd.snd.snd.snd.snd.snd.snd [qp.mk y29.snd.snd.snd.snd.snd.snd.snd.snd.snd.snd.fst.Text_ y29.snd.snd.fst]).bind fun (y30:Sl qp)=>some (Sum.inr (y29.fst,y29.snd.fst,y29.snd.snd.snd.fst,y29.snd.snd.snd.snd.fst,y29.snd.snd.snd.snd.snd.fst,q8.mk y29.snd.snd.snd.snd.snd.snd.fst.Kind_ y29.snd.snd.snd.snd.snd.snd.fst.Text_ y29.snd.snd.snd.snd.snd.snd.fst.Num_ y29.snd.snd.snd.snd.snd.snd.fst.At_ y29.snd.snd.snd.snd.snd.snd.fst.Kids_,y29.snd.snd.snd.snd.snd.snd.snd.fst,y29.snd.snd.snd.snd.snd.snd.snd.snd.fst,y29.snd.snd.snd.snd.snd.snd.snd.snd.snd.fst,y30))) y27) y12).bind fun (y31:Int×Int⊕Sl qa×Sl q8×Sl q8×Int×Int×q8×zP×Sl q8×zP×Sl qp)=>Sum.elim (fun (y32:zT)=>some (Step.done (Sum.inl y32))) (fun (y33:zk7)=>some (Step.next (y33.fst,y33.snd.fst,y33.snd.snd.fst,y33.snd.snd.snd.fst,IntKind.i64.wrap (y33.snd.snd.snd.snd.fst+1),q8.mk y33.snd.snd.snd.snd.snd.fst.Kind_ y33.snd.snd.snd.snd.snd.fst.Text_ y33.snd.snd.snd.snd.snd.fst.Num_ y33.snd.snd.snd.snd.snd.fst.At_ y33.snd.snd.snd.snd.snd.fst.Kids_,y33.snd.snd.snd.snd.snd.snd))) y31 else some (Step.done (Sum.inr (y8.fst,y8.snd.fst,q8.mk y8.snd.snd.snd.snd.snd.fst.Kind_ y8.snd.snd.snd.snd.snd.fst.Text_ y8.snd.snd.snd.snd.snd.fst.Num_ y8.snd.snd.snd.snd.snd.fst.At_ y8.snd.snd.snd.snd.snd.fst.Kids_,y8.snd.snd.snd.snd.snd.snd)))
noncomputable def q75 (L:zc) (G:zf) (f51:ze4) (f54:zbL) (f55:zc8) (f59:zlZ) (f62:zdc) (f64:tA2) (f66:tA9):zpF→Option (Step zpF zp7):=fun (y41:zpF)=>if decide (y41.snd.snd.snd.fst < y41.snd.snd.fst)=true then (ze y41.snd.fst y41.snd.snd.snd.fst).bind fun (y42:q8)=>(f66 (q8.mk y42.Kind_ y42.Text_ y42.Num_ y42.At_ y42.Kids_,y41.fst,y41.snd.snd.snd.snd.snd)).bind fun (y43:zau)=>Sum.elim (fun (y44:V4)=>some (Step.done (Sum.inl y44.fst))) (fun (y45:zdb)=>some (Step.next (y41.fst,y41.snd.fst,y41.snd.snd.fst,IntKind.i64.wrap (y41.snd.snd.snd.fst+1),y41.snd.snd.snd.snd.fst,y45))) y43 else some (Step.done (Sum.inr y41.snd.snd.snd.snd))
noncomputable def qbs (L:zc) (G:zf) (f51:ze4) (f54:zbL) (f55:zc8) (f59:zlZ) (f62:zdc) (f64:tA2) (f66:tA9) (x:Sl qa×q8):Option zeU:=(f51 (q8.mk x.snd.Kind_ x.snd.Text_ x.snd.Num_ x.snd.At_ x.snd.Kids_)).bind fun (y0:zhk)=>(f54 (x.fst,x.snd.Text_)).bind fun (y1:Int)=>(f55 (decide (y1 < 0),q8.mk x.snd.Kind_ x.snd.Text_ x.snd.Num_ x.snd.At_ x.snd.Kids_,30)).bind fun (y2:xb)=>Sum.elim (fun (y3:zT)=>some (Sum.inl y3)) (fun (y4:Unit)=>(f55 (decide (Sl.len y0.fst≤8),q8.mk x.snd.Kind_ x.snd.Text_ x.snd.Num_ x.snd.At_ x.snd.Kids_,22)).bind fun (y5:xb)=>Sum.elim (fun (y6:zT)=>some (Sum.inl y6)) (fun (y7:Unit)=>(L ((q74 L G) f51 f54 f55 f59 f62 f64 f66) (x.fst,y0.fst,y0.fst,Sl.len y0.fst,0,q8.mk x.snd.Kind_ x.snd.Text_ x.snd.Num_ x.snd.At_ x.snd.Kids_,(lit [],0,0),y0.snd,(x.snd.Text_,0,0),Sl.mk [] false)).bind fun (y34:ztd)=>Sum.elim (fun (y35:zT)=>some (Sum.inl y35)) (fun (y36:Sl qa×Sl q8×q8×zP×Sl q8×zP×Sl qp)=>(ze y36.snd.snd.fst.Kids_ 0).bind fun (y37:q8)=>(f64 (y36.fst,q8.mk y37.Kind_ y37.Text_ y37.Num_ y37.At_ y37.Kids_,y36.snd.fst,y36.snd.snd.snd.snd.fst,y36.snd.snd.snd.snd.snd.fst,y36.snd.snd.snd.snd.snd.snd,Sl.mk [] false)).bind fun (y38:zau)=>Sum.elim (fun (y39:V4)=>some (Sum.inl y39.fst)) (fun (y40:zdb)=>(L ((q75 L G) f51 f54 f55 f59 f62 f64 f66) (y36.snd.fst,y36.snd.snd.snd.snd.fst,Sl.len y36.snd.snd.snd.snd.fst,0,y36.snd.snd.snd.fst,y40)).bind fun (y46:zp7)=>Sum.elim (fun (y47:zT)=>some (Sum.inl y47)) (fun (y48:zP×zP×Sl qp×Sl qt)=>some (Sum.inr y48.snd)) y46) y38) y34) y5) y2
noncomputable def q8h:(Sl qa×q8)→Option zeU:=qbs lpW zh qb2 q1l q45 qb3 q1q q46 q54
noncomputable def x4:(Sl qa×q8)→Option zeU:=P67.F
instance (y):LC (q74 lpW zh qb2 q1l q45 qb3 q1q q46 q54 y) (q74 lpO zg XT Zo yW XU Zv yX Yz y):=by
  unfold q74
  repeat (first | infer_instance | refine LCb ?_ fun _=>?_ | refine LCi ?_ ?_ | refine LCe (fun _=>?_) fun _=>?_)
instance (y):LC (q75 lpW zh qb2 q1l q45 qb3 q1q q46 q54 y) (q75 lpO zg XT Zo yW XU Zv yX Yz y):=by
  unfold q75
  infer_instance
instance tw_shape_Table_typ (x):LC (q8h x) (x4 x):=by
  rw [show x4 x=qbs lpO zg XT Zo yW XU Zv yX Yz x from by kernel_rfl]
  unfold q8h qbs
  infer_instance
noncomputable def qai (L:zc) (G:zf) (x:zl0):Option wP:=some (x.fst.fst,x.fst.snd,x.snd.snd.snd)
noncomputable def q6b:zl0→Option wP:=qai lpW zh
noncomputable def xf:zl0→Option wP:=F68
instance tw_shape_Types_1_rec (x):LC (q6b x) (xf x):=by
  rw [show xf x=qai lpO zg x from by kernel_rfl]
  unfold q6b qai
  infer_instance
noncomputable def q7m (L:zc) (G:zf) (x:wP):Option wP:=some x
noncomputable def q4f:wP→Option wP:=q7m lpW zh
noncomputable def Yh:wP→Option wP:=F69
instance tw_shape_Types_1_rec_2 (x):LC (q4f x) (Yh x):=by
  rw [show Yh x=q7m lpO zg x from by kernel_rfl]
  unfold q4f q7m
  infer_instance
noncomputable def qc6 (L:zc) (G:zf) (f67:zp9) (f68:zqk) (f69:zqz):zeY→Option (Step zeY zqj):=fun (y0:zeY)=>if decide (y0.snd.snd.fst < y0.snd.fst)=true then (ze y0.fst y0.snd.snd.fst).bind fun (y1:q8)=>(if decide (y1.Kind_=1)=true then (G _ inferInstance ((f67 (y0.snd.snd.snd.snd.snd.snd,q8.mk y1.Kind_ y1.Text_ y1.Num_ y1.At_ y1.Kids_)).bind fun (y2:zeU)=>Sum.elim (fun (y3:zT)=>some (Sum.inl (y3,q8.mk y0.snd.snd.snd.fst.Kind_ y0.snd.snd.snd.fst.Text_ y0.snd.snd.snd.fst.Num_ y0.snd.snd.snd.fst.At_ y0.snd.snd.snd.fst.Kids_,y0.snd.snd.snd.snd))) (fun (y4:zdb)=>(zA 80 y0.snd.snd.snd.snd.snd.snd [qa.mk y4.fst.fst y4.fst.snd.fst y4.fst.snd.snd y4.snd.fst y4.snd.snd]).bind fun (y5:Sl qa)=>some (Sum.inr (y0.fst,y0.snd.fst,y0.snd.snd.fst,q8.mk y0.snd.snd.snd.fst.Kind_ y0.snd.snd.snd.fst.Text_ y0.snd.snd.snd.fst.Num_ y0.snd.snd.snd.fst.At_ y0.snd.snd.snd.fst.Kids_,y0.snd.snd.snd.snd.fst,y0.snd.snd.snd.snd.snd.fst,y5))) y2) ((f67 (y0.snd.snd.snd.snd.snd.snd,q8.mk y1.Kind_ y1.Text_ y1.Num_ y1.At_ y1.Kids_)).bind fun (y6:zeU)=>Sum.elim (fun (y7:zT)=>some (Sum.inl (y7,q8.mk y0.snd.snd.snd.fst.Kind_ y0.snd.snd.snd.fst.Text_ y0.snd.snd.snd.fst.Num_ y0.snd.snd.snd.fst.At_ y0.snd.snd.snd.fst.Kids_,y0.snd.snd.snd.snd))) (fun (y8:zdb)=>G _ inferInstance ((zA 80 y0.snd.snd.snd.snd.snd.snd [qa.mk y8.fst.fst y8.fst.snd.fst y8.fst.snd.snd y8.snd.fst y8.snd.snd]).bind fun (y9:Sl qa)=>some (Sum.inr (y0.fst,y0.snd.fst,y0.snd.snd.fst,q8.mk y0.snd.snd.snd.fst.Kind_ y0.snd.snd.snd.fst.Text_ y0.snd.snd.snd.fst.Num_ y0.snd.snd.snd.fst.At_ y0.snd.snd.snd.fst.Kids_,y0.snd.snd.snd.snd.fst,y0.snd.snd.snd.snd.snd.fst,y9))) ((zA 80 y0.snd.snd.snd.snd.snd.snd [qa.mk y8.fst.fst y8.fst.snd.fst y8.fst.snd.snd y8.snd.fst y8.snd.snd]).bind fun (y10:Sl qa)=>some (Sum.inr (y0.fst,y0.snd.fst,y0.snd.snd.fst,q8.mk y0.snd.snd.snd.fst.Kind_ y0.snd.snd.snd.fst.Text_ y0.snd.snd.snd.fst.Num_ y0.snd.snd.snd.fst.At_ y0.snd.snd.snd.fst.Kids_,y0.snd.snd.snd.snd.fst,y0.snd.snd.snd.snd.snd.fst,y10)))) y6)).bind fun (y11:zp5)=>Sum.elim (fun (y12:zlS)=>some (Sum.inl (y12.fst,q8.mk y12.snd.fst.Kind_ y12.snd.fst.Text_ y12.snd.fst.Num_ y12.snd.fst.At_ y12.snd.fst.Kids_,y12.snd.snd))) (fun (y13:zeY)=>some (Sum.inr (y13.fst,y13.snd.fst,y13.snd.snd.fst,q8.mk y13.snd.snd.snd.fst.Kind_ y13.snd.snd.snd.fst.Text_ y13.snd.snd.snd.fst.Num_ y13.snd.snd.snd.fst.At_ y13.snd.snd.snd.fst.Kids_,y13.snd.snd.snd.snd))) y11 else some (Sum.inr (y0.fst,y0.snd.fst,y0.snd.snd.fst,q8.mk y0.snd.snd.snd.fst.Kind_ y0.snd.snd.snd.fst.Text_ y0.snd.snd.snd.fst.Num_ y0.snd.snd.snd.fst.At_ y0.snd.snd.snd.fst.Kids_,y0.snd.snd.snd.snd))).bind fun (y14:zp5)=>Sum.elim (fun (y15:zlS)=>some (Step.done (Sum.inl (y15.fst,q8.mk y15.snd.fst.Kind_ y15.snd.fst.Text_ y15.snd.fst.Num_ y15.snd.fst.At_ y15.snd.fst.Kids_,y15.snd.snd)))) (fun (y16:zeY)=>some (Step.next (y16.fst,y16.snd.fst,IntKind.i64.wrap (y16.snd.snd.fst+1),q8.mk y16.snd.snd.snd.fst.Kind_ y16.snd.snd.snd.fst.Text_ y16.snd.snd.snd.fst.Num_ y16.snd.snd.snd.fst.At_ y16.snd.snd.snd.fst.Kids_,y16.snd.snd.snd.snd))) y14 else some (Step.done (Sum.inr (q8.mk y0.snd.snd.snd.fst.Kind_ y0.snd.snd.snd.fst.Text_ y0.snd.snd.snd.fst.Num_ y0.snd.snd.snd.fst.At_ y0.snd.snd.snd.fst.Kids_,y0.snd.snd.snd.snd)))
noncomputable def qdd (L:zc) (G:zf) (f67:zp9) (f68:zqk) (f69:zqz) (x:q8):Option wP:=(L ((qc6 L G) f67 f68 f69) (x.Kids_,x.Kids_.len,0,q8.mk x.Kind_ x.Text_ x.Num_ x.At_ x.Kids_,0,0,Sl.mk [] false)).bind fun (y17:zqj)=>Sum.elim (fun (y18:zlS)=>(f68 (y18.fst,y18.snd.snd)).bind fun (y19:wP)=>some (y19.fst,y19.snd.fst,Sl.mk [] false)) (fun (y20:q8×Int×Int×Sl qa)=>(f69 (0,0,y20.snd.snd.snd)).bind fun (y21:wP)=>some y21) y17
noncomputable def qcl:zgX:=qdd lpW zh q8h q6b q4f
noncomputable def Wh:zgX:=F70
instance (y):LC (qc6 lpW zh q8h q6b q4f y) (qc6 lpO zg x4 xf Yh y):=by
  unfold qc6
  infer_instance
instance tw_shape_Types (x):LC (qcl x) (Wh x):=by
  rw [show Wh x=qdd lpO zg x4 xf Yh x from by kernel_rfl]
  unfold qcl qdd
  infer_instance
noncomputable def qe0 (L:zc) (G:zf) (f63:zqN) (f54:zbL) (x:v8):Option (qj×Int):=(f63 (Sl.mk [lit [],lit [105,110,116],lit [111,119,110],lit [38],lit [38,109,117,116]] true,x.fst.Text_)).bind fun (y0:Int)=>(if decide (0 < x.fst.Kids_.len)=true then (ze x.fst.Kids_ 0).bind fun (y1:q8)=>(f54 (x.snd,y1.Text_)).bind fun (y2:Int)=>if decide (y2 < 0)=true then some (Sum.inl (31,qj.mk (lit []) 0 0)) else some (Sum.inr (qj.mk (lit []) 0 0,qj.mk (lit []) y0 y2)) else some (Sum.inr (qj.mk (lit []) 0 0,qj.mk (lit []) y0 0))).bind fun (y3:Int×qj⊕qj×qj)=>Sum.elim (fun (y4:Int×qj)=>some (y4.snd,y4.fst)) (fun (y5:qj×qj)=>some (y5.snd,0)) y3
noncomputable def qdh:v8→Option (qj×Int):=qe0 lpW zh q1z q1l
noncomputable def vy:v8→Option (qj×Int):=P71.F
instance tw_sign_mode (x):LC (qdh x) (vy x):=by
  rw [show vy x=qe0 lpO zg ZT Zo x from by kernel_rfl]
  unfold qdh qe0
  infer_instance
noncomputable def qdr (L:zc) (G:zf) (x:qj×qj):Option Va:=some (decide (x.fst.Name_=x.snd.Name_),x.snd)
noncomputable def qd1:(qj×qj)→Option Va:=qdr lpW zh
noncomputable def W0:(qj×qj)→Option Va:=P72.F
instance tw_sign_sig_1 (x):LC (qd1 x) (W0 x):=by
  rw [show W0 x=qdr lpO zg x from by kernel_rfl]
  unfold qd1 qdr
  infer_instance
noncomputable def q76 (L:zc) (G:zf) (f72:zg2):zdn→Option (Step zdn zg0):=fun (y0:zdn)=>if decide (y0.snd.fst < y0.fst)=true then (ze y0.snd.snd.fst y0.snd.fst).bind fun (y1:qj)=>(ze y0.snd.snd.fst y0.snd.fst).bind fun (y2:qj)=>(f72 (y2,y0.snd.snd.snd)).bind fun (y3:Va)=>if y3.fst=true then some (Step.done (Sum.inl (y0.snd.fst,y0.snd.snd.fst,y3.snd))) else some (Step.next (y0.fst,IntKind.i64.wrap (y0.snd.fst+1),y0.snd.snd.fst,y3.snd)) else some (Step.done (Sum.inr y0.snd.snd))
noncomputable def qbt (L:zc) (G:zf) (f72:zg2) (x:we):Option vw:=(L ((q76 L G) f72) (Sl.len x.fst,0,x)).bind fun (y4:zg0)=>Sum.elim (fun (y5:vw)=>some y5) (fun (y6:we)=>some (-1,y6)) y4
noncomputable def qcd:we→Option vw:=qbt lpW zh qd1
noncomputable def wV:we→Option vw:=P73.F
instance (y):LC (q76 lpW zh qd1 y) (q76 lpO zg W0 y):=by
  unfold q76
  infer_instance
instance tw_sign_Param_sig1 (x):LC (qcd x) (wV x):=by
  rw [show wV x=qbt lpO zg W0 x from by kernel_rfl]
  unfold qcd qbt
  infer_instance
noncomputable def qaj (L:zc) (G:zf) (f73:zqL) (x:we):Option zad:=(f73 x).bind fun (y0:vw)=>some (decide (0≤y0.fst),y0.snd)
noncomputable def q6c:we→Option zad:=qaj lpW zh qcd
noncomputable def xg:we→Option zad:=P74.F
instance tw_sign_Param_sig1_2 (x):LC (q6c x) (xg x):=by
  rw [show xg x=qaj lpO zg wV x from by kernel_rfl]
  unfold q6c qaj
  infer_instance
noncomputable def qde (L:zc) (G:zf) (x:ze9):Option Bool:=(if decide (1 < x.fst.Mode_)=true then (ze x.snd x.fst.Type_).bind fun (y0:qa)=>some (decide (y0.Sort_≠0)) else some false).bind fun (y1:Bool)=>some y1
noncomputable def qcm:ze9→Option Bool:=qde lpW zh
noncomputable def Wi:ze9→Option Bool:=P75.F
instance tw_sign_shared (x):LC (qcm x) (Wi x):=by
  rw [show Wi x=qde lpO zg x from by kernel_rfl]
  unfold qcm qde
  infer_instance
noncomputable def qds (L:zc) (G:zf) (x:qj×qj):Option Va:=(if decide (1 < x.fst.Mode_)=true then some (decide (x.fst.Type_=x.snd.Type_),x.snd) else some (false,x.snd)).bind fun (y0:Va)=>some y0
noncomputable def qd2:(qj×qj)→Option Va:=qds lpW zh
noncomputable def W1:(qj×qj)→Option Va:=P76.F
instance tw_sign_sig_2 (x):LC (qd2 x) (W1 x):=by
  rw [show W1 x=qds lpO zg x from by kernel_rfl]
  unfold qd2 qds
  infer_instance
noncomputable def q77 (L:zc) (G:zf) (f76:zg2):zdn→Option (Step zdn zg0):=fun (y0:zdn)=>if decide (y0.snd.fst < y0.fst)=true then (ze y0.snd.snd.fst y0.snd.fst).bind fun (y1:qj)=>(ze y0.snd.snd.fst y0.snd.fst).bind fun (y2:qj)=>(f76 (y2,y0.snd.snd.snd)).bind fun (y3:Va)=>if y3.fst=true then some (Step.done (Sum.inl (y0.snd.fst,y0.snd.snd.fst,y3.snd))) else some (Step.next (y0.fst,IntKind.i64.wrap (y0.snd.fst+1),y0.snd.snd.fst,y3.snd)) else some (Step.done (Sum.inr y0.snd.snd))
noncomputable def qbu (L:zc) (G:zf) (f76:zg2) (x:we):Option vw:=(L ((q77 L G) f76) (Sl.len x.fst,0,x)).bind fun (y4:zg0)=>Sum.elim (fun (y5:vw)=>some y5) (fun (y6:we)=>some (-1,y6)) y4
noncomputable def qce:we→Option vw:=qbu lpW zh qd2
noncomputable def wW:we→Option vw:=P77.F
instance (y):LC (q77 lpW zh qd2 y) (q77 lpO zg W1 y):=by
  unfold q77
  infer_instance
instance tw_sign_Param_sig2 (x):LC (qce x) (wW x):=by
  rw [show wW x=qbu lpO zg W1 x from by kernel_rfl]
  unfold qce qbu
  infer_instance
noncomputable def qak (L:zc) (G:zf) (f77:zqL) (x:we):Option zad:=(f77 x).bind fun (y0:vw)=>some (decide (0≤y0.fst),y0.snd)
noncomputable def q6d:we→Option zad:=qak lpW zh qce
noncomputable def xh:we→Option zad:=P78.F
instance tw_sign_Param_sig2_2 (x):LC (q6d x) (xh x):=by
  rw [show xh x=qak lpO zg wW x from by kernel_rfl]
  unfold q6d qak
  infer_instance
noncomputable def qdi (L:zc) (G:zf) (f71:zqS) (f74:zgQ) (f75:ze9→Option Bool) (f78:zgQ):zpu→Option (Step zpu zsW):=fun (y1:zpu)=>if decide (y1.snd.snd.snd.snd.fst < y1.snd.snd.snd.fst)=true then (ze y1.snd.snd.fst y1.snd.snd.snd.snd.fst).bind fun (y2:q8)=>(ze y2.Kids_ 0).bind fun (y3:q8)=>(f71 (q8.mk y3.Kind_ y3.Text_ y3.Num_ y3.At_ y3.Kids_,y1.fst)).bind fun (y4:qj×Int)=>(f74 (y1.snd.snd.snd.snd.snd.snd.snd.snd,qj.mk y2.Text_ y4.fst.Mode_ y4.fst.Type_)).bind fun (y5:zad)=>(if y5.fst=true then some (Sum.inl (y2.At_,30,lit [],lit [],0,0)) else (if decide (y4.snd≠0)=true then (ze y2.Kids_ 0).bind fun (y6:q8)=>some (Sum.inl (y6.At_,y4.snd,lit [],lit [],0,0)) else ((f75 (y5.snd.snd,y1.fst)).bind fun (y7:Bool)=>if y7=true then (f78 y5.snd).bind fun (y8:zad)=>some (y1.fst,y1.snd.fst,y1.snd.snd.fst,y1.snd.snd.snd.fst,y1.snd.snd.snd.snd.fst,y8.fst,q8.mk y1.snd.snd.snd.snd.snd.fst.Kind_ y1.snd.snd.snd.snd.snd.fst.Text_ y1.snd.snd.snd.snd.snd.fst.Num_ y1.snd.snd.snd.snd.snd.fst.At_ y1.snd.snd.snd.snd.snd.fst.Kids_,y1.snd.snd.snd.snd.snd.snd.fst,y1.snd.snd.snd.snd.snd.snd.snd.fst,q8.mk y2.Kind_ y2.Text_ y2.Num_ y2.At_ y2.Kids_,y8.snd.snd,y8.snd.fst) else some (y1.fst,y1.snd.fst,y1.snd.snd.fst,y1.snd.snd.snd.fst,y1.snd.snd.snd.snd.fst,false,q8.mk y1.snd.snd.snd.snd.snd.fst.Kind_ y1.snd.snd.snd.snd.snd.fst.Text_ y1.snd.snd.snd.snd.snd.fst.Num_ y1.snd.snd.snd.snd.snd.fst.At_ y1.snd.snd.snd.snd.snd.fst.Kids_,y1.snd.snd.snd.snd.snd.snd.fst,y1.snd.snd.snd.snd.snd.snd.snd.fst,q8.mk y2.Kind_ y2.Text_ y2.Num_ y2.At_ y2.Kids_,y5.snd.snd,y5.snd.fst)).bind fun (y9:Sl qa×Int×Sl q8×Int×Int×Bool×q8×(ByteArray×ByteArray×Int×Int)×(ByteArray×ByteArray×Int×Int)×q8×qj×Sl qj)=>if y9.snd.snd.snd.snd.snd.fst=true then (ze y9.snd.snd.snd.snd.snd.snd.snd.snd.snd.fst.Kids_ 0).bind fun (y10:q8)=>some (Sum.inl (y10.At_,34,lit [],lit [],0,0)) else some (Sum.inr (y9.fst,y9.snd.fst,y9.snd.snd.fst,y9.snd.snd.snd.fst,y9.snd.snd.snd.snd.fst,q8.mk y9.snd.snd.snd.snd.snd.snd.fst.Kind_ y9.snd.snd.snd.snd.snd.snd.fst.Text_ y9.snd.snd.snd.snd.snd.snd.fst.Num_ y9.snd.snd.snd.snd.snd.snd.fst.At_ y9.snd.snd.snd.snd.snd.snd.fst.Kids_,y9.snd.snd.snd.snd.snd.snd.snd.fst,y9.snd.snd.snd.snd.snd.snd.snd.snd.fst,y9.snd.snd.snd.snd.snd.snd.snd.snd.snd.snd))).bind fun (y11:tA3)=>Sum.elim (fun (y12:zbJ)=>some (Sum.inl y12)) (fun (y13:zs3)=>some (Sum.inr (y13.fst,y13.snd.fst,y13.snd.snd.fst,y13.snd.snd.snd.fst,y13.snd.snd.snd.snd.fst,q8.mk y13.snd.snd.snd.snd.snd.fst.Kind_ y13.snd.snd.snd.snd.snd.fst.Text_ y13.snd.snd.snd.snd.snd.fst.Num_ y13.snd.snd.snd.snd.snd.fst.At_ y13.snd.snd.snd.snd.snd.fst.Kids_,y13.snd.snd.snd.snd.snd.snd))) y11).bind fun (y14:tA3)=>Sum.elim (fun (y15:zbJ)=>some (Step.done (Sum.inl y15))) (fun (y16:zs3)=>(zA 32 y16.snd.snd.snd.snd.snd.snd.snd.snd.snd [y16.snd.snd.snd.snd.snd.snd.snd.snd.fst]).bind fun (y17:Sl qj)=>some (Step.next (y16.fst,y16.snd.fst,y16.snd.snd.fst,y16.snd.snd.snd.fst,IntKind.i64.wrap (y16.snd.snd.snd.snd.fst+1),q8.mk y16.snd.snd.snd.snd.snd.fst.Kind_ y16.snd.snd.snd.snd.snd.fst.Text_ y16.snd.snd.snd.snd.snd.fst.Num_ y16.snd.snd.snd.snd.snd.fst.At_ y16.snd.snd.snd.snd.snd.fst.Kids_,y16.snd.snd.snd.snd.snd.snd.fst,y16.snd.snd.snd.snd.snd.snd.snd.fst,y17))) y14 else some (Step.done (Sum.inr (y1.fst,y1.snd.fst,q8.mk y1.snd.snd.snd.snd.snd.fst.Kind_ y1.snd.snd.snd.snd.snd.fst.Text_ y1.snd.snd.snd.snd.snd.fst.Num_ y1.snd.snd.snd.snd.snd.fst.At_ y1.snd.snd.snd.snd.snd.fst.Kids_,y1.snd.snd.snd.snd.snd.snd)))
noncomputable def qea (L:zc) (G:zf) (f71:zqS) (f74:zgQ) (f75:ze9→Option Bool) (f78:zgQ) (x:v8):Option zhi:=if decide (8 < IntKind.i64.wrap (x.fst.Kids_.len - 2))=true then some (qf.mk (lit []) (Sl.mk [] false) (qj.mk (lit []) 0 0),x.fst.At_,22) else (z6 x.fst.Kids_ 0 (IntKind.i64.wrap (x.fst.Kids_.len - 2))).bind fun (y0:Sl q8)=>(L ((qdi L G) f71 f74 f75 f78) (x.snd,IntKind.i64.wrap (x.fst.Kids_.len - 2),y0,y0.len,0,q8.mk x.fst.Kind_ x.fst.Text_ x.fst.Num_ x.fst.At_ x.fst.Kids_,(lit [],lit [],0,0),(x.fst.Text_,lit [],0,0),Sl.mk [] false)).bind fun (y18:zsW)=>Sum.elim (fun (y19:zbJ)=>some (qf.mk y19.snd.snd.fst (Sl.mk [] false) (qj.mk y19.snd.snd.snd.fst y19.snd.snd.snd.snd.fst y19.snd.snd.snd.snd.snd),y19.fst,y19.snd.fst)) (fun (y20:Sl qa×Int×q8×(ByteArray×ByteArray×Int×Int)×(ByteArray×ByteArray×Int×Int)×Sl qj)=>(ze y20.snd.snd.fst.Kids_ y20.snd.fst).bind fun (y21:q8)=>(f71 (q8.mk y21.Kind_ y21.Text_ y21.Num_ y21.At_ y21.Kids_,y20.fst)).bind fun (y22:qj×Int)=>if decide (y22.snd≠0)=true then (ze y20.snd.snd.fst.Kids_ y20.snd.fst).bind fun (y23:q8)=>some (qf.mk (lit []) (Sl.mk [] false) (qj.mk (lit []) 0 0),y23.At_,y22.snd) else some (qf.mk y20.snd.snd.snd.snd.fst.fst y20.snd.snd.snd.snd.snd y22.fst,0,0)) y18
noncomputable def qdx:v8→Option zhi:=qea lpW zh qdh q6c qcm q6d
noncomputable def Ve:v8→Option zhi:=P79.F
instance (y):LC (qdi lpW zh qdh q6c qcm q6d y) (qdi lpO zg vy xg Wi xh y):=by
  unfold qdi
  infer_instance
instance tw_sign_sig (x):LC (qdx x) (Ve x):=by
  rw [show Ve x=qea lpO zg vy xg Wi xh x from by kernel_rfl]
  unfold qdx qea
  infer_instance
noncomputable def qd3 (L:zc) (G:zf) (f79:zqO):zgV→Option (Step zgV (Int×Int⊕Sl qf)):=fun (y0:zgV)=>if decide (y0.snd.snd.snd.fst < y0.snd.snd.fst)=true then ((ze y0.snd.fst y0.snd.snd.snd.fst).bind fun (y1:q8)=>if decide (y1.Kind_≠6)=true then some (Sum.inl y0) else (f79 (q8.mk y1.Kind_ y1.Text_ y1.Num_ y1.At_ y1.Kids_,y0.fst)).bind fun (y2:zhi)=>if decide (y2.snd.snd≠0)=true then some (Sum.inr y2.snd) else (zA 72 y0.snd.snd.snd.snd [y2.fst]).bind fun (y3:Sl qf)=>some (Sum.inl (y0.fst,y0.snd.fst,y0.snd.snd.fst,y0.snd.snd.snd.fst,y3))).bind fun (y4:Sl qa×Sl q8×Int×Int×Sl qf⊕Int×Int)=>Sum.elim (fun (y5:zgV)=>some (Step.next (y5.fst,y5.snd.fst,y5.snd.snd.fst,IntKind.i64.wrap (y5.snd.snd.snd.fst+1),y5.snd.snd.snd.snd))) (fun (y6:zT)=>some (Step.done (Sum.inl y6))) y4 else some (Step.done (Sum.inr y0.snd.snd.snd.snd))
noncomputable def qe1 (L:zc) (G:zf) (f79:zqO) (x:v8):Option zhc:=(L ((qd3 L G) f79) (x.snd,x.fst.Kids_,x.fst.Kids_.len,0,Sl.mk [] false)).bind fun (y7:Int×Int⊕Sl qf)=>Sum.elim (fun (y8:zT)=>some (y8.fst,y8.snd,Sl.mk [] false)) (fun (y9:Sl qf)=>some (0,0,y9)) y7
noncomputable def qdj:v8→Option zhc:=qe1 lpW zh qdx
noncomputable def vz:v8→Option zhc:=P80.F
instance (y):LC (qd3 lpW zh qdx y) (qd3 lpO zg Ve y):=by
  unfold qd3
  infer_instance
instance tw_sign_Sigs (x):LC (qdj x) (vz x):=by
  rw [show vz x=qe1 lpO zg Ve x from by kernel_rfl]
  unfold qdj qe1
  infer_instance
noncomputable def q6p (L:zc) (G:zf) (x:Int):Option Bool:=(if decide (97≤x)=true then if decide (x≤122)=true then some true else some (decide (x=95)) else some (decide (x=95))).bind fun (y0:Bool)=>some y0
noncomputable def q27:zV:=q6p lpW zh
noncomputable def Z2:zV:=P81.F
instance tw_lychgateref01_letter (x):LC (q27 x) (Z2 x):=by
  rw [show Z2 x=q6p lpO zg x from by kernel_rfl]
  unfold q27 q6p
  infer_instance
noncomputable def q7n (L:zc) (G:zf) (x:Int):Option Bool:=(if decide (48≤x)=true then some (decide (x≤57)) else some false).bind fun (y0:Bool)=>some y0
noncomputable def q2g:zV:=q7n lpW zh
noncomputable def yb:zV:=P82.F
instance tw_lychgateref01_digit (x):LC (q2g x) (yb x):=by
  rw [show yb x=q7n lpO zg x from by kernel_rfl]
  unfold q2g q7n
  infer_instance
noncomputable def q7o (L:zc) (G:zf) (x:Zy):Option Bool:=(if decide (x=lit [116,121,112,101])=true then some (decide (x=lit [116,121,112,101])) else (if decide (x=lit [102,110])=true then some (decide (x=lit [102,110])) else (if decide (x=lit [111,119,110])=true then some (decide (x=lit [111,119,110])) else (if decide (x=lit [99,101,108,108])=true then some (decide (x=lit [99,101,108,108])) else (if decide (x=lit [99,111,117,110,116,101,100])=true then some (decide (x=lit [99,111,117,110,116,101,100])) else (if decide (x=lit [108,111,99,107])=true then some (decide (x=lit [108,111,99,107])) else (if decide (x=lit [103,117,97,114,100])=true then some (decide (x=lit [103,117,97,114,100])) else (if decide (x=lit [119,104,101,114,101])=true then some (decide (x=lit [119,104,101,114,101])) else (if decide (x=lit [105,110,116])=true then some (decide (x=lit [105,110,116])) else (if decide (x=lit [109,117,116])=true then some (decide (x=lit [109,117,116])) else (if decide (x=lit [102,114,101,101])=true then some (decide (x=lit [102,114,101,101])) else (if decide (x=lit [117,110,108,111,99,107])=true then some (decide (x=lit [117,110,108,111,99,107])) else (if decide (x=lit [105,102])=true then some (decide (x=lit [105,102])) else (if decide (x=lit [101,108,115,101])=true then some (decide (x=lit [101,108,115,101])) else (if decide (x=lit [119,104,105,108,101])=true then some (decide (x=lit [119,104,105,108,101])) else (if decide (x=lit [114,101,116,117,114,110])=true then some (decide (x=lit [114,101,116,117,114,110])) else (if decide (x=lit [97,98,111,114,116])=true then some (decide (x=lit [97,98,111,114,116])) else (if decide (x=lit [102,111,114,107])=true then some (decide (x=lit [102,111,114,107])) else (if decide (x=lit [110,101,119])=true then some (decide (x=lit [110,101,119])) else some (decide (x=lit [97,114,114,97,121]))).bind fun (y0:Bool)=>some y0).bind fun (y1:Bool)=>some y1).bind fun (y2:Bool)=>some y2).bind fun (y3:Bool)=>some y3).bind fun (y4:Bool)=>some y4).bind fun (y5:Bool)=>some y5).bind fun (y6:Bool)=>some y6).bind fun (y7:Bool)=>some y7).bind fun (y8:Bool)=>some y8).bind fun (y9:Bool)=>some y9).bind fun (y10:Bool)=>some y10).bind fun (y11:Bool)=>some y11).bind fun (y12:Bool)=>some y12).bind fun (y13:Bool)=>some y13).bind fun (y14:Bool)=>some y14).bind fun (y15:Bool)=>some y15).bind fun (y16:Bool)=>some y16).bind fun (y17:Bool)=>some y17).bind fun (y18:Bool)=>if y18=true then some true else some false
noncomputable def q2h:zac:=q7o lpW zh
noncomputable def yc:zac:=P83.F
instance tw_lychgateref01_IsKey (x):LC (q2h x) (yc x):=by
  rw [show yc x=q7o lpO zg x from by kernel_rfl]
  unfold q2h q7o
  repeat (first | infer_instance | refine LCb ?_ fun _=>?_ | refine LCi ?_ ?_ | refine LCe (fun _=>?_) fun _=>?_)
noncomputable def q97 (L:zc) (G:zf) (x:zW):Option Int:=(if decide (IntKind.i64.wrap (x.snd+1) < (↑(ByteArray.size x.fst):Int))=true then (yY x.fst x.snd (IntKind.i64.wrap (x.snd+2))).bind fun (y0:Zy)=>some (x.fst,x.snd,y0) else some (x.fst,x.snd,lit [])).bind fun (y1:ByteArray×Int×ByteArray)=>(if decide (y1.snd.snd=lit [45,62])=true then some (y1.fst,y1.snd.fst,true) else if decide (y1.snd.snd=lit [60,61])=true then some (y1.fst,y1.snd.fst,true) else some (y1.fst,y1.snd.fst,decide (y1.snd.snd=lit [61,61]))).bind fun (y2:zg6)=>if y2.snd.snd=true then some 2 else (Z0 y2.fst y2.snd.fst).bind fun (y3:Int)=>(if decide (y3=123)=true then some (decide (y3=123)) else (if decide (y3=125)=true then some (decide (y3=125)) else (if decide (y3=40)=true then some (decide (y3=40)) else (if decide (y3=41)=true then some (decide (y3=41)) else (if decide (y3=91)=true then some (decide (y3=91)) else (if decide (y3=93)=true then some (decide (y3=93)) else (if decide (y3=44)=true then some (decide (y3=44)) else (if decide (y3=58)=true then some (decide (y3=58)) else (if decide (y3=59)=true then some (decide (y3=59)) else (if decide (y3=61)=true then some (decide (y3=61)) else (if decide (y3=43)=true then some (decide (y3=43)) else (if decide (y3=45)=true then some (decide (y3=45)) else (if decide (y3=38)=true then some (decide (y3=38)) else some (decide (y3=60))).bind fun (y4:Bool)=>some y4).bind fun (y5:Bool)=>some y5).bind fun (y6:Bool)=>some y6).bind fun (y7:Bool)=>some y7).bind fun (y8:Bool)=>some y8).bind fun (y9:Bool)=>some y9).bind fun (y10:Bool)=>some y10).bind fun (y11:Bool)=>some y11).bind fun (y12:Bool)=>some y12).bind fun (y13:Bool)=>some y13).bind fun (y14:Bool)=>some y14).bind fun (y15:Bool)=>some y15).bind fun (y16:Bool)=>if y16=true then some 1 else some 0
noncomputable def q2n:zW→Option Int:=q97 lpW zh
noncomputable def yn:zW→Option Int:=P84.F
instance tw_lychgateref01_sign (x):LC (q2n x) (yn x):=by
  rw [show yn x=q97 lpO zg x from by kernel_rfl]
  unfold q2n q97
  infer_instance
noncomputable def q5e (L:zc) (G:zf) (f81:zV) (f82:zV) (f83:zac) (f84:WT):ze2→Option (Step ze2 ze2):=fun (y4:ze2)=>if decide (y4.snd.snd.fst < (↑(ByteArray.size y4.fst):Int))=true then (Z0 y4.fst y4.snd.snd.fst).bind fun (y5:Int)=>(f81 y5).bind fun (y6:Bool)=>(Z0 y4.fst y4.snd.snd.fst).bind fun (y7:Int)=>(f82 y7).bind fun (y8:Bool)=>(if (!y6)=true then some (y4.fst,y4.snd.fst,y4.snd.snd.fst, !y8,y4.snd.snd.snd) else some (y4.fst,y4.snd.fst,y4.snd.snd.fst,false,y4.snd.snd.snd)).bind fun (y9:zqM)=>if y9.snd.snd.snd.fst=true then some (Step.done (y9.fst,y9.snd.fst,y9.snd.snd.fst,y9.snd.snd.snd.snd)) else some (Step.next (y9.fst,y9.snd.fst,IntKind.i64.wrap (y9.snd.snd.fst+1),y9.snd.snd.snd.snd)) else some (Step.done y4)
noncomputable def q5f (L:zc) (G:zf) (f81:zV) (f82:zV) (f83:zac) (f84:WT):V5→Option (Step V5 V5):=fun (y17:V5)=>if decide (y17.snd.snd.fst < (↑(ByteArray.size y17.fst):Int))=true then (Z0 y17.fst y17.snd.snd.fst).bind fun (y18:Int)=>(f82 y18).bind fun (y19:Bool)=>if (!y19)=true then some (Step.done y17) else (if decide (y17.snd.snd.snd.fst≤1099511627776)=true then (Z0 y17.fst y17.snd.snd.fst).bind fun (y20:Int)=>some (y17.fst,y17.snd.fst,y17.snd.snd.fst,IntKind.i64.wrap (IntKind.i64.wrap (y17.snd.snd.snd.fst * 10)+IntKind.i64.wrap (IntKind.u8.wrap (y20 - 48))),y17.snd.snd.snd.snd) else some y17).bind fun (y21:V5)=>(if decide (1099511627776 < y21.snd.snd.snd.fst)=true then some (y21.fst,y21.snd.fst,y21.snd.snd.fst,y21.snd.snd.snd.fst,true,y21.snd.snd.snd.snd.snd) else some y21).bind fun (y22:V5)=>some (Step.next (y22.fst,y22.snd.fst,IntKind.i64.wrap (y22.snd.snd.fst+1),y22.snd.snd.snd)) else some (Step.done y17)
noncomputable def qal (L:zc) (G:zf) (f81:zV) (f82:zV) (f83:zac) (f84:WT) (x:zW):Option (q9×Int):=(Z0 x.fst x.snd).bind fun (y0:Int)=>(f81 y0).bind fun (y1:Bool)=>(Z0 x.fst x.snd).bind fun (y2:Int)=>(f82 y2).bind fun (y3:Bool)=>(if y1=true then (L ((q5e L G) f81 f82 f83 f84) (x.fst,x.snd,x.snd,q9.mk 0 (lit []) 0 0,q9.mk 0 (lit []) 0 x.snd)).bind fun (y10:ze2)=>(yY y10.fst y10.snd.fst y10.snd.snd.fst).bind fun (y11:Zy)=>if decide (16 < (↑y11.size:Int))=true then some (Sum.inl (13,q9.mk 0 (lit []) 0 0)) else (f83 y11).bind fun (y12:Bool)=>(if y12=true then some (y10.snd.snd.snd.fst,q9.mk 2 y11 y10.snd.snd.snd.snd.Num_ y10.snd.snd.snd.snd.At_) else some (y10.snd.snd.snd.fst,q9.mk 1 y11 y10.snd.snd.snd.snd.Num_ y10.snd.snd.snd.snd.At_)).bind fun (y13:q9×q9)=>some (Sum.inl (0,y13.snd)) else some (Sum.inr (x.fst,x.snd,x.snd,y3,q9.mk 0 (lit []) 0 0,q9.mk 0 (lit []) 0 x.snd))).bind fun (y14:Int×q9⊕ByteArray×Int×Int×Bool×q9×q9)=>Sum.elim (fun (y15:Int×q9)=>some (y15.snd,y15.fst)) (fun (y16:zqM)=>(if y16.snd.snd.snd.fst=true then (L ((q5f L G) f81 f82 f83 f84) (y16.fst,y16.snd.fst,y16.snd.snd.fst,0,false,y16.snd.snd.snd.snd)).bind fun (y23:V5)=>(if decide (y23.snd.snd.fst < (↑(ByteArray.size y23.fst):Int))=true then (Z0 y23.fst y23.snd.snd.fst).bind fun (y24:Int)=>(f81 y24).bind fun (y25:Bool)=>some (y23.fst,y23.snd.fst,y23.snd.snd.fst,y23.snd.snd.snd.fst,y23.snd.snd.snd.snd.fst,y25,y23.snd.snd.snd.snd.snd) else some (y23.fst,y23.snd.fst,y23.snd.snd.fst,y23.snd.snd.snd.fst,y23.snd.snd.snd.snd.fst,false,y23.snd.snd.snd.snd.snd)).bind fun (y26:ByteArray×Int×Int×Int×Bool×Bool×q9×q9)=>(if y26.snd.snd.snd.snd.fst=true then some (y26.fst,y26.snd.fst,y26.snd.snd.fst,y26.snd.snd.snd.fst,true,y26.snd.snd.snd.snd.snd.snd) else if y26.snd.snd.snd.snd.snd.fst=true then some (y26.fst,y26.snd.fst,y26.snd.snd.fst,y26.snd.snd.snd.fst,true,y26.snd.snd.snd.snd.snd.snd) else (Z0 y26.fst y26.snd.fst).bind fun (y27:Int)=>if decide (y27=48)=true then some (y26.fst,y26.snd.fst,y26.snd.snd.fst,y26.snd.snd.snd.fst,decide (IntKind.i64.wrap (y26.snd.fst+1) < y26.snd.snd.fst),y26.snd.snd.snd.snd.snd.snd) else some (y26.fst,y26.snd.fst,y26.snd.snd.fst,y26.snd.snd.snd.fst,false,y26.snd.snd.snd.snd.snd.snd)).bind fun (y28:V5)=>if y28.snd.snd.snd.snd.fst=true then some (Sum.inl (12,q9.mk 0 (lit []) 0 0)) else (yY y28.fst y28.snd.fst y28.snd.snd.fst).bind fun (y29:Zy)=>some (Sum.inl (0,q9.mk 3 y29 y28.snd.snd.snd.fst y28.snd.snd.snd.snd.snd.snd.At_)) else some (Sum.inr (y16.fst,y16.snd.fst,y16.snd.snd.snd.snd))).bind fun (y30:Int×q9⊕ByteArray×Int×q9×q9)=>Sum.elim (fun (y31:Int×q9)=>some (y31.snd,y31.fst)) (fun (y32:ByteArray×Int×q9×q9)=>(f84 (y32.fst,y32.snd.fst)).bind fun (y33:Int)=>if decide (y33=0)=true then some (q9.mk 0 (lit []) 0 0,11) else (yY y32.fst y32.snd.fst (IntKind.i64.wrap (y32.snd.fst+y33))).bind fun (y34:Zy)=>some (q9.mk 4 y34 y32.snd.snd.snd.Num_ y32.snd.snd.snd.At_,0)) y30) y14
noncomputable def q3a:zW→Option (q9×Int):=qal lpW zh q27 q2g q2h q2n
noncomputable def yC:zW→Option (q9×Int):=P85.F
instance (y):LC (q5e lpW zh q27 q2g q2h q2n y) (q5e lpO zg Z2 yb yc yn y):=by
  unfold q5e
  infer_instance
instance (y):LC (q5f lpW zh q27 q2g q2h q2n y) (q5f lpO zg Z2 yb yc yn y):=by
  unfold q5f
  infer_instance
instance tw_lychgateref01_one (x):LC (q3a x) (yC x):=by
  rw [show yC x=qal lpO zg Z2 yb yc yn x from by kernel_rfl]
  unfold q3a qal
  infer_instance
noncomputable def q2z (L:zc) (G:zf) (f85:zlV):v7→Option (Step v7 v7):=fun (y5:v7)=>(if decide (y5.snd.fst < (↑(ByteArray.size y5.fst):Int))=true then (Z0 y5.fst y5.snd.fst).bind fun (y6:Int)=>some (y5.fst,y5.snd.fst,decide (y6≠10),y5.snd.snd) else some (y5.fst,y5.snd.fst,false,y5.snd.snd)).bind fun (y7:zqT)=>if y7.snd.snd.fst=true then some (Step.next (y7.fst,IntKind.i64.wrap (y7.snd.fst+1),y7.snd.snd.snd)) else some (Step.done (y7.fst,y7.snd.fst,y7.snd.snd.snd))
noncomputable def q30 (L:zc) (G:zf) (f85:zlV):v7→Option (Step v7 zqW):=fun (y0:v7)=>if decide (y0.snd.fst < (↑(ByteArray.size y0.fst):Int))=true then (((Z0 y0.fst y0.snd.fst).bind fun (y1:Int)=>if decide (y1=32)=true then some (y0.fst,y0.snd.fst,true,y0.snd.snd) else (Z0 y0.fst y0.snd.fst).bind fun (y2:Int)=>some (y0.fst,y0.snd.fst,decide (y2=10),y0.snd.snd)).bind fun (y3:zqT)=>if y3.snd.snd.fst=true then some (Sum.inl (y3.fst,IntKind.i64.wrap (y3.snd.fst+1),y3.snd.snd.snd)) else (Z0 y3.fst y3.snd.fst).bind fun (y4:Int)=>if decide (y4=35)=true then (L ((q2z L G) f85) (y3.fst,y3.snd.fst,y3.snd.snd.snd)).bind fun (y8:v7)=>some (Sum.inl y8) else (f85 (y3.fst,y3.snd.fst)).bind fun (y9:q9×Int)=>if decide (y9.snd≠0)=true then some (Sum.inr (y3.snd.fst,y9.snd)) else (zA 40 y3.snd.snd.snd [y9.fst]).bind fun (y10:Sl q9)=>some (Sum.inl (y3.fst,IntKind.i64.wrap (y3.snd.fst+(↑y9.fst.Text_.size:Int)),y10))).bind fun (y11:ByteArray×Int×Sl q9⊕Int×Int)=>Sum.elim (fun (y12:v7)=>some (Step.next y12)) (fun (y13:zT)=>some (Step.done (Sum.inl y13))) y11 else some (Step.done (Sum.inr (y0.fst,y0.snd.snd)))
noncomputable def q6q (L:zc) (G:zf) (f85:zlV) (x:Zy):Option (Int×Int×Sl q9):=if decide (16384 < (↑x.size:Int))=true then some (0,10,Sl.mk [] false) else (L ((q30 L G) f85) (x,0,Sl.mk [] false)).bind fun (y14:zqW)=>Sum.elim (fun (y15:zT)=>some (y15.fst,y15.snd,Sl.mk [] false)) (fun (y16:ByteArray×Sl q9)=>(zA 40 y16.snd [q9.mk 0 (lit []) 0 (↑(ByteArray.size y16.fst):Int)]).bind fun (y17:Sl q9)=>some (0,0,y17)) y14
noncomputable def q3k:zgS:=q6q lpW zh q3a
noncomputable def yQ:zgS:=P86.F
instance (y):LC (q2z lpW zh q3a y) (q2z lpO zg yC y):=by
  unfold q2z
  infer_instance
instance (y):LC (q30 lpW zh q3a y) (q30 lpO zg yC y):=by
  unfold q30
  infer_instance
instance tw_lychgateref01_Tokens (x):LC (q3k x) (yQ x):=by
  rw [show yQ x=q6q lpO zg yC x from by kernel_rfl]
  unfold q3k q6q
  infer_instance
noncomputable def qbc (L:zc) (G:zf) (x:XB):Option zS:=(ze x.snd.snd x.snd.fst.fst).bind fun (y0:q9)=>(ze x.snd.snd x.snd.fst.fst).bind fun (y1:q9)=>(if decide (x.snd.fst.snd.snd.fst=0)=true then if decide (y1.Kind_=2)=true then (ze x.snd.snd x.snd.fst.fst).bind fun (y2:q9)=>(ze x.snd.snd x.snd.fst.fst).bind fun (y3:q9)=>some (decide (y3.Text_=x.fst),x.snd) else if decide (y1.Kind_=4)=true then (ze x.snd.snd x.snd.fst.fst).bind fun (y4:q9)=>(ze x.snd.snd x.snd.fst.fst).bind fun (y5:q9)=>some (decide (y5.Text_=x.fst),x.snd) else some (false,x.snd) else some (false,x.snd)).bind fun (y6:zS)=>some y6
noncomputable def q1e:XB→Option zS:=qbc lpW zh
noncomputable def Zd:XB→Option zS:=P87.F
instance tw_lychgateref02_is (x):LC (q1e x) (Zd x):=by
  rw [show Zd x=qbc lpO zg x from by kernel_rfl]
  unfold q1e qbc
  infer_instance
noncomputable def qam (L:zc) (G:zf) (f87:Z8) (x:XB):Option zS:=(f87 x).bind fun (y0:zS)=>(if y0.fst=true then some (y0.fst,(IntKind.i64.wrap (y0.snd.fst.fst+1),y0.snd.fst.snd),y0.snd.snd) else some y0).bind fun (y1:zS)=>some y1
noncomputable def qz:XB→Option zS:=qam lpW zh q1e
noncomputable def zo:XB→Option zS:=P88.F
instance tw_lychgateref02_has (x):LC (qz x) (zo x):=by
  rw [show zo x=qam lpO zg Zd x from by kernel_rfl]
  unfold qz qam
  infer_instance
noncomputable def q98 (L:zc) (G:zf) (x:xa):Option zz:=(if decide (x.snd.fst.snd.snd.fst=0)=true then (ze x.snd.snd x.snd.fst.fst).bind fun (y0:q9)=>(ze x.snd.snd x.snd.fst.fst).bind fun (y1:q9)=>some ((x.snd.fst.fst,x.snd.fst.snd.fst,x.fst,y1.At_),x.snd.snd) else some x.snd).bind fun (y2:zz)=>some y2
noncomputable def q19:xa→Option zz:=q98 lpW zh
noncomputable def zJ:xa→Option zz:=P89.F
instance tw_lychgateref02_fail (x):LC (q19 x) (zJ x):=by
  rw [show zJ x=q98 lpO zg x from by kernel_rfl]
  unfold q19 q98
  infer_instance
noncomputable def q99 (L:zc) (G:zf) (f89:WR) (x:zz):Option YE:=(ze x.snd x.fst.fst).bind fun (y0:q9)=>(ze x.snd x.fst.fst).bind fun (y1:q9)=>(if decide (x.fst.snd.snd.fst≠0)=true then some (true,x.fst,x.snd,(0,lit [],0,0),y1) else some (decide (y1.Kind_≠1),x.fst,x.snd,(0,lit [],0,0),y1)).bind fun (y2:Bool×(Int×Int×Int×Int)×Sl q9×(Int×ByteArray×Int×Int)×q9)=>if y2.fst=true then (f89 (20,y2.snd.fst,y2.snd.snd.fst)).bind fun (y3:zz)=>some ((0,lit [],0,0),y3) else some ((5,y2.snd.snd.snd.snd.Text_,0,y2.snd.snd.snd.snd.At_),(IntKind.i64.wrap (y2.snd.fst.fst+1),y2.snd.fst.snd),y2.snd.snd.fst)
noncomputable def q16:zz→Option YE:=q99 lpW zh q19
noncomputable def zG:zz→Option YE:=P90.F
instance tw_lychgateref02_name (x):LC (q16 x) (zG x):=by
  rw [show zG x=q99 lpO zg zJ x from by kernel_rfl]
  unfold q16 q99
  infer_instance
noncomputable def q9a (L:zc) (G:zf) (f88:Z8) (f89:WR) (x:XB):Option zz:=(f88 x).bind fun (y0:zS)=>(if (!y0.fst)=true then (f89 (20,y0.snd)).bind fun (y1:zz)=>some y1 else some y0.snd).bind fun (y2:zz)=>some y2
noncomputable def q11:XB→Option zz:=q9a lpW zh qz q19
noncomputable def zu:XB→Option zz:=P91.F
instance tw_lychgateref02_must (x):LC (q11 x) (zu x):=by
  rw [show zu x=q9a lpO zg zo zJ x from by kernel_rfl]
  unfold q11 q9a
  infer_instance
noncomputable def q9b (L:zc) (G:zf) (f88:Z8) (f91:wU) (f90:vl) (x:zz):Option Zw:=(ze x.snd x.fst.fst).bind fun (y0:q9)=>(ze x.snd x.fst.fst).bind fun (y1:q9)=>(ze x.snd x.fst.fst).bind fun (y2:q9)=>(ze x.snd x.fst.fst).bind fun (y3:q9)=>(f88 (lit [105,110,116],x)).bind fun (y4:zS)=>if y4.fst=true then some (q7.mk 8 y1.Text_ 0 y3.At_ (Sl.mk [] false),y4.snd) else (f88 (lit [111,119,110],y4.snd)).bind fun (y5:zS)=>(if (!y5.fst)=true then (f91 (lit [38],y5.snd)).bind fun (y6:zz)=>(f88 (lit [109,117,116],y6)).bind fun (y7:zS)=>(if y7.fst=true then some (y7.snd.fst,y7.snd.snd,(0,lit [],0,0),8,lit [38,109,117,116],0,y3.At_) else some (y7.snd.fst,y7.snd.snd,(0,lit [],0,0),8,y1.Text_,0,y3.At_)).bind fun (y8:zir)=>some y8 else some (y5.snd.fst,y5.snd.snd,(0,lit [],0,0),8,y1.Text_,0,y3.At_)).bind fun (y9:zir)=>(f90 (y9.fst,y9.snd.fst)).bind fun (y10:YE)=>some (q7.mk y9.snd.snd.snd.fst y9.snd.snd.snd.snd.fst y9.snd.snd.snd.snd.snd.fst y9.snd.snd.snd.snd.snd.snd (Sl.mk [q7.mk y10.fst.fst y10.fst.snd.fst y10.fst.snd.snd.fst y10.fst.snd.snd.snd (Sl.mk [] false)] true),y10.snd)
noncomputable def q5g:zz→Option Zw:=q9b lpW zh qz q11 q16
noncomputable def YN:zz→Option Zw:=P92.F
instance tw_lychgateref02_mode (x):LC (q5g x) (YN x):=by
  rw [show YN x=q9b lpO zg zo zu zG x from by kernel_rfl]
  unfold q5g q9b
  infer_instance
noncomputable def q6r (L:zc) (G:zf) (f89:WR) (x:zz):Option xa:=(ze x.snd x.fst.fst).bind fun (y0:q9)=>(ze x.snd x.fst.fst).bind fun (y1:q9)=>(if decide (x.fst.snd.snd.fst≠0)=true then some (true,x.fst,x.snd,y1) else some (decide (y1.Kind_≠3),x.fst,x.snd,y1)).bind fun (y2:Bool×(Int×Int×Int×Int)×Sl q9×q9)=>if y2.fst=true then (f89 (20,y2.snd.fst,y2.snd.snd.fst)).bind fun (y3:zz)=>some (0,y3) else some (y2.snd.snd.snd.Num_,(IntKind.i64.wrap (y2.snd.fst.fst+1),y2.snd.fst.snd),y2.snd.snd.fst)
noncomputable def q1t:zz→Option xa:=q6r lpW zh q19
noncomputable def ZI:zz→Option xa:=P93.F
instance tw_lychgateref02_number (x):LC (q1t x) (ZI x):=by
  rw [show ZI x=q6r lpO zg zJ x from by kernel_rfl]
  unfold q1t q6r
  infer_instance
noncomputable def q9c (L:zc) (G:zf) (f88:Z8) (f93:zgD) (x:Zw):Option Zw:=(f88 (lit [43],x.snd)).bind fun (y0:zS)=>if y0.fst=true then (f93 y0.snd).bind fun (y1:xa)=>some (q7.mk x.fst.Kind_ x.fst.Text_ y1.fst x.fst.At_ x.fst.Kids_,y1.snd) else (f88 (lit [45],y0.snd)).bind fun (y2:zS)=>(if y2.fst=true then (f93 y2.snd).bind fun (y3:xa)=>some (y3.snd.fst,y3.snd.snd,q7.mk x.fst.Kind_ x.fst.Text_ (IntKind.i64.wrap (0 - y3.fst)) x.fst.At_ x.fst.Kids_,0,lit [],0,0) else some (y2.snd.fst,y2.snd.snd,q7.mk x.fst.Kind_ x.fst.Text_ x.fst.Num_ x.fst.At_ x.fst.Kids_,0,lit [],0,0)).bind fun (y4:(Int×Int×Int×Int)×Sl q9×q7×Int×ByteArray×Int×Int)=>some (q7.mk y4.snd.snd.fst.Kind_ y4.snd.snd.fst.Text_ y4.snd.snd.fst.Num_ y4.snd.snd.fst.At_ y4.snd.snd.fst.Kids_,y4.fst,y4.snd.fst)
noncomputable def q5h:Zw→Option Zw:=q9c lpW zh qz q1t
noncomputable def YO:Zw→Option Zw:=P94.F
instance tw_lychgateref02_more (x):LC (q5h x) (YO x):=by
  rw [show YO x=q9c lpO zg zo ZI x from by kernel_rfl]
  unfold q5h q9c
  infer_instance
noncomputable def q9d (L:zc) (G:zf) (f93:zgD) (f88:Z8) (f90:vl) (f94:zp3) (x:zz):Option Zw:=(ze x.snd x.fst.fst).bind fun (y0:q9)=>(ze x.snd x.fst.fst).bind fun (y1:q9)=>(ze x.snd x.fst.fst).bind fun (y2:q9)=>(ze x.snd x.fst.fst).bind fun (y3:q9)=>if decide (y3.Kind_=3)=true then (f93 x).bind fun (y4:xa)=>some (q7.mk 5 (lit []) y4.fst y1.At_ (Sl.mk [] false),y4.snd) else (f88 (lit [45],x)).bind fun (y5:zS)=>if y5.fst=true then (f93 y5.snd).bind fun (y6:xa)=>some (q7.mk 5 (lit []) (IntKind.i64.wrap (0 - y6.fst)) y1.At_ (Sl.mk [] false),y6.snd) else (f90 y5.snd).bind fun (y7:YE)=>(f94 (q7.mk y7.fst.fst y7.fst.snd.fst y7.fst.snd.snd.fst y7.fst.snd.snd.snd (Sl.mk [] false),y7.snd)).bind fun (y8:Zw)=>some (q7.mk y8.fst.Kind_ y8.fst.Text_ y8.fst.Num_ y8.fst.At_ y8.fst.Kids_,y8.snd)
noncomputable def q1m:zz→Option Zw:=q9d lpW zh q1t qz q16 q5h
noncomputable def Zp:zz→Option Zw:=P95.F
instance tw_lychgateref02_term (x):LC (q1m x) (Zp x):=by
  rw [show Zp x=q9d lpO zg ZI zo zG YO x from by kernel_rfl]
  unfold q1m q9d
  infer_instance
noncomputable def q5i (L:zc) (G:zf) (f88:Z8) (f89:WR):zlw→Option (Step zlw zp8):=fun (y0:zlw)=>if decide (y0.fst < Sl.len y0.snd.snd.snd)=true then (ze y0.snd.snd.snd y0.fst).bind fun (y1:Zy)=>(ze y0.snd.snd.snd y0.fst).bind fun (y2:Zy)=>(f88 (y2,y0.snd.fst,y0.snd.snd.fst)).bind fun (y3:zS)=>if y3.fst=true then (ze y0.snd.snd.snd y0.fst).bind fun (y4:Zy)=>(ze y0.snd.snd.snd y0.fst).bind fun (y5:Zy)=>some (Step.done (Sum.inl (y5,y3.snd))) else some (Step.next (IntKind.i64.wrap (y0.fst+1),y3.snd.fst,y3.snd.snd,y0.snd.snd.snd)) else some (Step.done (Sum.inr (y0.snd.fst,y0.snd.snd.fst)))
noncomputable def qan (L:zc) (G:zf) (f88:Z8) (f89:WR) (x:zz):Option XB:=(L ((q5i L G) f88 f89) (0,x.fst,x.snd,Sl.mk [lit [60],lit [60,61],lit [61,61]] true)).bind fun (y6:zp8)=>Sum.elim (fun (y7:XB)=>some y7) (fun (y8:zz)=>(f89 (20,y8)).bind fun (y9:zz)=>some (lit [],y9)) y6
noncomputable def qbd:zz→Option XB:=qan lpW zh qz q19
noncomputable def X6:zz→Option XB:=P96.F
instance (y):LC (q5i lpW zh qz q19 y) (q5i lpO zg zo zJ y):=by
  unfold q5i
  infer_instance
instance tw_lychgateref02_cmp (x):LC (qbd x) (X6 x):=by
  rw [show X6 x=qan lpO zg zo zJ x from by kernel_rfl]
  unfold qbd qan
  infer_instance
noncomputable def q9e (L:zc) (G:zf) (f95:Wd) (f96:zz→Option XB) (x:zz):Option Zt:=(f95 x).bind fun (y0:Zw)=>(f96 y0.snd).bind fun (y1:XB)=>(f95 y1.snd).bind fun (y2:Zw)=>some ((4,y1.fst,0,y0.fst.At_),y2.snd.fst,y2.snd.snd,Sl.mk [q7.mk y0.fst.Kind_ y0.fst.Text_ y0.fst.Num_ y0.fst.At_ y0.fst.Kids_,q7.mk y2.fst.Kind_ y2.fst.Text_ y2.fst.Num_ y2.fst.At_ y2.fst.Kids_] true)
noncomputable def q20:xR:=q9e lpW zh q1m qbd
noncomputable def ZU:xR:=P97.F
instance tw_lychgateref02_fact (x):LC (q20 x) (ZU x):=by
  rw [show ZU x=q9e lpO zg Zp X6 x from by kernel_rfl]
  unfold q20 q9e
  infer_instance
noncomputable def q4g (L:zc) (G:zf) (f91:wU) (f88:Z8) (f95:Wd):zlK→Option (Step zlK V8):=fun (y4:zlK)=>(f88 (lit [44],y4.fst,y4.snd.fst)).bind fun (y5:zS)=>if (!y5.fst)=true then some (Step.done (y5.snd.fst,y5.snd.snd,y4.snd.snd.snd)) else (f95 y5.snd).bind fun (y6:Zw)=>(zA 64 y4.snd.snd.snd [q7.mk y6.fst.Kind_ y6.fst.Text_ y6.fst.Num_ y6.fst.At_ y6.fst.Kids_]).bind fun (y7:Sl q7)=>some (Step.next (y6.snd.fst,y6.snd.snd,q7.mk y6.fst.Kind_ y6.fst.Text_ y6.fst.Num_ y6.fst.At_ y6.fst.Kids_,y7))
noncomputable def q9f (L:zc) (G:zf) (f91:wU) (f88:Z8) (f95:Wd) (x:zz):Option V8:=(f91 (lit [40],x)).bind fun (y0:zz)=>(f88 (lit [41],y0)).bind fun (y1:zS)=>(if y1.fst=true then some (true,y1.snd) else some (decide (y1.snd.fst.snd.snd.fst≠0),y1.snd)).bind fun (y2:zS)=>if y2.fst=true then some (y2.snd.fst,y2.snd.snd,Sl.mk [] false) else (f95 y2.snd).bind fun (y3:Zw)=>(L ((q4g L G) f91 f88 f95) (y3.snd.fst,y3.snd.snd,q7.mk y3.fst.Kind_ y3.fst.Text_ y3.fst.Num_ y3.fst.At_ y3.fst.Kids_,Sl.mk [q7.mk y3.fst.Kind_ y3.fst.Text_ y3.fst.Num_ y3.fst.At_ y3.fst.Kids_] true)).bind fun (y8:V8)=>(f91 (lit [41],y8.fst,y8.snd.fst)).bind fun (y9:zz)=>some (y9.fst,y9.snd,y8.snd.snd)
noncomputable def q2o:zz→Option V8:=q9f lpW zh q11 qz q1m
noncomputable def yo:zz→Option V8:=P98.F
instance (y):LC (q4g lpW zh q11 qz q1m y) (q4g lpO zg zu zo Zp y):=by
  unfold q4g
  infer_instance
instance tw_lychgateref02_args (x):LC (q2o x) (yo x):=by
  rw [show yo x=q9f lpO zg zu zo Zp x from by kernel_rfl]
  unfold q2o q9f
  infer_instance
noncomputable def q9g (L:zc) (G:zf) (f88:Z8) (f93:zgD) (f90:vl) (f95:Wd) (f87:Z8) (f98:zlf) (f91:wU) (f94:zp3) (x:zz):Option Zw:=(ze x.snd x.fst.fst).bind fun (y0:q9)=>(ze x.snd x.fst.fst).bind fun (y1:q9)=>(f88 (lit [110,101,119],x)).bind fun (y2:zS)=>if y2.fst=true then (f93 y2.snd).bind fun (y3:xa)=>some (q7.mk 23 (lit []) y3.fst y1.At_ (Sl.mk [] false),y3.snd) else (f88 (lit [97,114,114,97,121],y2.snd)).bind fun (y4:zS)=>if y4.fst=true then (f90 y4.snd).bind fun (y5:YE)=>some (q7.mk 24 y5.fst.snd.fst 0 y1.At_ (Sl.mk [] false),y5.snd) else (f88 (lit [38],y4.snd)).bind fun (y6:zS)=>if y6.fst=true then (f88 (lit [109,117,116],y6.snd)).bind fun (y7:zS)=>(if y7.fst=true then some (y7.snd.fst,y7.snd.snd,(0,lit [],0,0),27,lit [],0,y1.At_) else some (y7.snd.fst,y7.snd.snd,(0,lit [],0,0),26,lit [],0,y1.At_)).bind fun (y8:zir)=>(f90 (y8.fst,y8.snd.fst)).bind fun (y9:YE)=>some (q7.mk y8.snd.snd.snd.fst y9.fst.snd.fst y8.snd.snd.snd.snd.snd.fst y8.snd.snd.snd.snd.snd.snd (Sl.mk [] false),y9.snd) else (ze y6.snd.snd y6.snd.fst.fst).bind fun (y10:q9)=>(ze y6.snd.snd y6.snd.fst.fst).bind fun (y11:q9)=>if decide (y11.Kind_≠1)=true then (f95 y6.snd).bind fun (y12:Zw)=>some (q7.mk y12.fst.Kind_ y12.fst.Text_ y12.fst.Num_ y12.fst.At_ y12.fst.Kids_,y12.snd) else (f90 y6.snd).bind fun (y13:YE)=>(f87 (lit [40],y13.snd)).bind fun (y14:zS)=>if y14.fst=true then (f98 y14.snd).bind fun (y15:V8)=>some (q7.mk 28 y13.fst.snd.fst y13.fst.snd.snd.fst y13.fst.snd.snd.snd y15.snd.snd,y15.fst,y15.snd.fst) else (f88 (lit [91],y14.snd)).bind fun (y16:zS)=>if y16.fst=true then (f95 y16.snd).bind fun (y17:Zw)=>(f91 (lit [93],y17.snd)).bind fun (y18:zz)=>some (q7.mk 25 y13.fst.snd.fst y13.fst.snd.snd.fst y13.fst.snd.snd.snd (Sl.mk [q7.mk y17.fst.Kind_ y17.fst.Text_ y17.fst.Num_ y17.fst.At_ y17.fst.Kids_] true),y18) else (f87 (lit [43],y16.snd)).bind fun (y19:zS)=>(f87 (lit [45],y19.snd)).bind fun (y20:zS)=>(if y19.fst=true then (ze y20.snd.snd (IntKind.i64.wrap (y20.snd.fst.fst+1))).bind fun (y21:q9)=>(ze y20.snd.snd (IntKind.i64.wrap (y20.snd.fst.fst+1))).bind fun (y22:q9)=>some (y20.fst,decide (y22.Kind_=1),y20.snd.fst,y20.snd.snd,(0,lit [],0,0),y13.fst) else if y20.fst=true then (ze y20.snd.snd (IntKind.i64.wrap (y20.snd.fst.fst+1))).bind fun (y23:q9)=>(ze y20.snd.snd (IntKind.i64.wrap (y20.snd.fst.fst+1))).bind fun (y24:q9)=>some (y20.fst,decide (y24.Kind_=1),y20.snd.fst,y20.snd.snd,(0,lit [],0,0),y13.fst) else some (y20.fst,false,y20.snd.fst,y20.snd.snd,(0,lit [],0,0),y13.fst)).bind fun (y25:Bool×Bool×(Int×Int×Int×Int)×Sl q9×(Int×ByteArray×Int×Int)×Int×ByteArray×Int×Int)=>if y25.snd.fst=true then (f90 ((IntKind.i64.wrap (y25.snd.snd.fst.fst+1),y25.snd.snd.fst.snd),y25.snd.snd.snd.fst)).bind fun (y26:YE)=>(if y25.fst=true then some (y26.snd.fst,y26.snd.snd,y25.snd.snd.snd.snd.fst,(22,lit [],0,y25.snd.snd.snd.snd.snd.snd.snd.snd),Sl.mk [q7.mk y25.snd.snd.snd.snd.snd.fst y25.snd.snd.snd.snd.snd.snd.fst y25.snd.snd.snd.snd.snd.snd.snd.fst y25.snd.snd.snd.snd.snd.snd.snd.snd (Sl.mk [] false),q7.mk y26.fst.fst y26.fst.snd.fst y26.fst.snd.snd.fst y26.fst.snd.snd.snd (Sl.mk [] false)] true) else some (y26.snd.fst,y26.snd.snd,y25.snd.snd.snd.snd.fst,(21,lit [],0,y25.snd.snd.snd.snd.snd.snd.snd.snd),Sl.mk [q7.mk y25.snd.snd.snd.snd.snd.fst y25.snd.snd.snd.snd.snd.snd.fst y25.snd.snd.snd.snd.snd.snd.snd.fst y25.snd.snd.snd.snd.snd.snd.snd.snd (Sl.mk [] false),q7.mk y26.fst.fst y26.fst.snd.fst y26.fst.snd.snd.fst y26.fst.snd.snd.snd (Sl.mk [] false)] true)).bind fun (y27:Xh)=>some (q7.mk y27.snd.snd.snd.fst.fst y27.snd.snd.snd.fst.snd.fst y27.snd.snd.snd.fst.snd.snd.fst y27.snd.snd.snd.fst.snd.snd.snd y27.snd.snd.snd.snd,y27.fst,y27.snd.fst) else (f94 (q7.mk y25.snd.snd.snd.snd.snd.fst y25.snd.snd.snd.snd.snd.snd.fst y25.snd.snd.snd.snd.snd.snd.snd.fst y25.snd.snd.snd.snd.snd.snd.snd.snd (Sl.mk [] false),y25.snd.snd.fst,y25.snd.snd.snd.fst)).bind fun (y28:Zw)=>some (q7.mk y28.fst.Kind_ y28.fst.Text_ y28.fst.Num_ y28.fst.At_ y28.fst.Kids_,y28.snd)
noncomputable def qao:zz→Option Zw:=q9g lpW zh qz q1t q16 q1m q1e q2o q11 q5h
noncomputable def XI:zz→Option Zw:=P99.F
instance tw_lychgateref02_expr (x):LC (qao x) (XI x):=by
  rw [show XI x=q9g lpO zg zo ZI zG Zp Zd yo zu YO x from by kernel_rfl]
  unfold qao q9g
  repeat (first | infer_instance | refine LCb ?_ fun _=>?_ | refine LCi ?_ ?_ | refine LCe (fun _=>?_) fun _=>?_)
noncomputable def q7p (L:zc) (G:zf) (f90:vl) (f87:Z8) (f98:zlf) (f88:Z8) (f95:Wd) (f91:wU) (f99:Wd) (x:zz):Option Zt:=(f90 x).bind fun (y0:YE)=>(f87 (lit [40],y0.snd)).bind fun (y1:zS)=>if y1.fst=true then (f98 y1.snd).bind fun (y2:V8)=>some ((20,lit [],0,y0.fst.snd.snd.snd),y2.fst,y2.snd.fst,Sl.mk [q7.mk 28 y0.fst.snd.fst y0.fst.snd.snd.fst y0.fst.snd.snd.snd y2.snd.snd] true) else (f88 (lit [91],y1.snd)).bind fun (y3:zS)=>if y3.fst=true then (f95 y3.snd).bind fun (y4:Zw)=>(f91 (lit [93],y4.snd)).bind fun (y5:zz)=>(f91 (lit [61],y5)).bind fun (y6:zz)=>(f95 y6).bind fun (y7:Zw)=>some ((11,y0.fst.snd),y7.snd.fst,y7.snd.snd,Sl.mk [q7.mk y4.fst.Kind_ y4.fst.Text_ y4.fst.Num_ y4.fst.At_ y4.fst.Kids_,q7.mk y7.fst.Kind_ y7.fst.Text_ y7.fst.Num_ y7.fst.At_ y7.fst.Kids_] true) else (f91 (lit [61],y3.snd)).bind fun (y8:zz)=>(f99 y8).bind fun (y9:Zw)=>some ((10,y0.fst.snd),y9.snd.fst,y9.snd.snd,Sl.mk [q7.mk y9.fst.Kind_ y9.fst.Text_ y9.fst.Num_ y9.fst.At_ y9.fst.Kids_] true)
noncomputable def q9h:xR:=q7p lpW zh q16 q1e q2o qz q1m q11 qao
noncomputable def Xm:xR:=zol.F
instance tw_lychgateref02_named (x):LC (q9h x) (Xm x):=by
  rw [show Xm x=q7p lpO zg zG Zd yo zo Zp zu XI x from by kernel_rfl]
  unfold q9h q7p
  infer_instance
end Go.Px
