/- Part S1. -/
import Derived.Test.YtdmfcbmibjojpaaGreatDoorCh
set_option linter.unusedVariables false
set_option linter.unusedSimpArgs false
namespace Go.Px
open Bool renaming true->g,false->N
open _root_.ByteArray renaming size->V
open Decidable renaming decide->q
open List renaming take->Y,drop->Z
open _root_.Option renaming some->f,none->X
open Sl renaming mk->O
open Sum renaming inl->y,elim->F,inr->M
open Go.Proofs
set_option maxRecDepth 100000
set_option maxHeartbeats 4000000
noncomputable section
abbrev ke(a:q8):=q8.mk a.k_ a.T_ a.N_ a.a_ a.K_
abbrev kr(a:q6):=q6.mk a.k_ a.T_ a.N_ a.a_ a.K_
abbrev z6:=Int×Int
abbrev zR:=U0×z6
abbrev GQ:=Int×zR
abbrev X4:=q7×GQ×GQ
abbrev GT:=Sl q8
abbrev xd:=q7×GQ×GQ×GT
abbrev tA0:=z6×X4⊕xd⊕X4
abbrev GW:=Sl Int
abbrev GS:=U0×Sl (Int×Bool)
abbrev GN:=Sl (Sl Bool)
abbrev Uh:=GN×GN×Sl GW
abbrev zh7:=Int×Int×qm×GW×GS×Uh
abbrev Uw:=GS×GN×GN×Sl GW×GW
abbrev zei:=Int×qm×Uw
abbrev tA1:=zh7->U3 zei
abbrev GJ:=Int×Int×U0×U0×U0×Int×U0×Int×Int×Bool
abbrev zjh:=GJ×Sl qp
abbrev tA2:=GJ×zjh
abbrev Ub:=Sl qa
abbrev GR:=zR×Sl qt×Sl qw
abbrev zpX:=Ub×q8×GT×GT×GR
abbrev zaR:=z6×GR⊕GR
abbrev tA3:=zpX->U3 zaR
abbrev GY:=Sl qd
abbrev GZ:=Sl qn×Sl qu
abbrev GV:=Sl q6
abbrev Ud:=Int×Int×GY×zR×GV×GV×zR×GW×GZ
abbrev tA5:=Int×Int×GY×zR×GZ⊕Ud
abbrev tA6:=GJ×GJ
abbrev GU:=Int×Int×z6
abbrev Up:=Sl q9
abbrev zgP:=GU×Up×GQ×GQ
abbrev tA7:=GU×Up×GQ×GV⊕zgP
abbrev GM:=U0×zR
abbrev Uk:=Int×Int×GM
abbrev Ut:=Sl qh
abbrev Ue:=Int×Int×q6×GM×GM×q6×qh×Ut
abbrev tA8:=Uk⊕GY×Ue
abbrev Uy:=Sl qe
abbrev GL:=(Sl qf×Ub×z6)×Uy
abbrev zp0:=GT×(Int×z6)×GL
abbrev zE:=z6×GL⊕GL
abbrev Ug:=U3 zE
abbrev tA9:=zp0->Ug
abbrev zp9:=q8×GT×GR
abbrev zuP:=zp9->U3 zaR
abbrev Uj:=Int×Int×q6×GM×GM×q6×Ut
abbrev zzS:=Uk⊕GY×Uj
abbrev zjt:=Bool×Int×GL
abbrev zp6:=q8×zjt
abbrev zuQ:=zp6->Ug
abbrev Us:=Int×Int×GY×zR×Sl qn
abbrev Uc:=Int×GY×zR×GV×GV×q6×zR×q6×Sl qn
abbrev zzT:=Us⊕Uc
abbrev zqf:=U0×GL
abbrev X3:=z6×GL⊕qj×GL
abbrev zzU:=zqf->U3 X3
abbrev zqb:=U0×qj×GL
abbrev zuR:=zqb->Ug
abbrev Uq:=Sl qf×Ub×Int
abbrev GO:=Uq×Uy
abbrev zqx:=q8×GO
abbrev zV:=U0×Int
abbrev zmz:=z6×GO⊕zV×Uq×Uy×Sl qj
abbrev zuS:=zqx->U3 zmz
abbrev Uv:=Int×q8×GM×GM×Sl qj
abbrev zzV:=Uk⊕Ub×Uv
abbrev zzW:=Uk⊕GY×Int×q6×GM×GM×Ut
abbrev W5:=zjt->Ug
abbrev zqk:=q8×qj×GL
abbrev zfG:=zqk->Ug
abbrev zeq:=q8×GL
abbrev zpF:=zeq->U3 X3
abbrev zjg:=qj×GL⊕z6×GL
abbrev zuT:=zeq->U3 zjg
abbrev zwo:=GT×GL
abbrev zcq:=zwo->Ug
abbrev zmv:=Int×Int×Int×Int×zei
abbrev zpH:=Int×Int×Int×Int×zmv
abbrev Ul:=GY×zR×GV×GV×q6×zR×Sl qn
abbrev zzY:=Us⊕Ul
abbrev zzZ:=Int×Int×GY×zR×GZ⊕GY×zR×zR×GZ
abbrev zjz:=Bool×Int×GO
abbrev zqe:=q8×zjz
abbrev xY:=z6×GO⊕GO
abbrev zmu:=zqe->U3 xY
abbrev Ua:=Int×Uq×Uy×q8×zV×zV×Sl qj
abbrev zz0:=z6×GO⊕Ua
abbrev zuV:=zjz->U3 xY
abbrev zf:=z6×q7
abbrev zuW:=zf⊕q7×GQ×GT⊕X4
abbrev xf:=GQ×Int×Int×GT
abbrev zaq:=z6×xf
abbrev zz3:=zaq->U3 xf
abbrev zuX:=GY×Int×Ue
abbrev zuZ:=Ub×Int×GT×Int×Uv
abbrev zF:=GU×Up
abbrev Yh:=Int×zF
abbrev zaw:=GU×Up×GV
abbrev ZH:=GQ×zaw
abbrev zpI:=Yh->U3 ZH
abbrev zu0:=Int×Int×Int×Int×qm×GW×Uw
abbrev zem:=qm×Uh
abbrev zp1:=Bool×GW×zem
abbrev zu1:=zp1->U3 zem
abbrev zu2:=GY×Int×Uj
abbrev Yy:=zF->U3 ZH
abbrev zcI:=Sl U0
abbrev zu3:=Int×GU×Up×GQ×GQ×zcI
abbrev zpJ:=Int×Ud
abbrev zz5:=zaq⊕xf
abbrev zu4:=Int×Int×Int×GY×zR×GV×GV×zR×Sl qu×GZ
abbrev GP:=Sl qi×GY×z6
abbrev Um:=Sl qg
abbrev ZB:=GP×Um
abbrev zgY:=q6×ZB
abbrev zjq:=zV×GP×Um×Ut
abbrev zu5:=zgY->U3 zjq
abbrev ya:=Int×GW×GS
abbrev ym:=Int×ya
abbrev Xr:=Int×ym
abbrev Wv:=Bool×ya
abbrev zmw:=Xr->U3 Wv
abbrev Ur:=zR×Sl qt×Sl qw×q8×z6
abbrev zz6:=z6×GR⊕Ur
abbrev Wu:=GT×Int×Int×(Sl qf×Ub×z6)×Uy×qj
abbrev zdP:=z6×GL⊕Wu
abbrev zgQ:=qm×GN×GN×Sl GW×ya
abbrev zu6:=GW×Int×Int×zgQ
abbrev zz7:=xf->U3 xf
abbrev xG:=GU×Up×GQ×GQ×GV
abbrev VY:=Bool×xG
abbrev zpK:=Int×GT×Int×Ua
abbrev zz8:=Int×Bool×Sl ql×q8×GJ
abbrev zmx:=Xr->U3 ya
abbrev zjj:=Int×Int×Int×Int×GN×GN×GN×GN×Sl qm
abbrev zu8:=Int×Int×Int×zjj
abbrev Ux:=q8×zR×GT×zR×Sl qt
abbrev zpL:=Ub×GT×GT×Int×Int×Ux
abbrev Yg:=GQ×zF
abbrev W6:=zF->U3 Yg
abbrev zpM:=GY×Int×Int×q6×GM×GM×Ut
abbrev zcr:=q6->U3 zjh
abbrev xg:=Int×zgY
abbrev vf:=Int×ZB
abbrev vV:=qh×vf
abbrev zmy:=xg->U3 vV
abbrev xZ:=Int×GS×GW
abbrev zcs:=ym->U3 xZ
abbrev vU:=Int×xZ
abbrev zpN:=ya->U3 vU
abbrev zfH:=GQ×GU×GQ×Up×GV
abbrev zpO:=Int×Uc
abbrev zmA:=ya->U3 ym
abbrev zAb:=zf⊕q7×GQ×GT⊕q7×q8×GQ
abbrev zmB:=Int×Int×GY×zR×GV×GV×zR×GZ
abbrev vF:=Sl ql×GJ×Sl qz
abbrev zAf:=Int×GP×Um×q6×zV×zV×Ut
abbrev zu9:=Int×zAf
abbrev zva:=xg->U3 vf
abbrev zAc:=z6⊕Ub×GT×Ux
abbrev zwd:=Int×GV×ZB
abbrev zct:=zwd->U3 ZB
abbrev Ui:=Uy×GP×Um×Sl q1j×Sl q1k
abbrev zpP:=Int×GT×Int×Int×q13×q6×Ui
abbrev zAe:=Bool⊕zjj
abbrev zjv:=Int×vf
abbrev zdQ:=zjv->U3 ZB
abbrev zvd:=Int×Int×Int×Int×Int×qm×GW×GW×Uh
abbrev zve:=zf⊕q7×q8⊕X4
abbrev zcu:=zf⊕xd
abbrev zvf:=GT×GT×Int×Int×zR×GR
abbrev xh:=U0×zF
abbrev zT:=Bool×zF
abbrev ZD:=xh->U3 zT
abbrev zjf:=Int×Ul
abbrev zvH:=Sl ql×GJ
abbrev zjp:=Bool×X4
abbrev zji:=U0×Int×zjp
abbrev zvI:=Int×GP×Um×qh⊕GP×Um×qh
abbrev xc:=xh->U3 zF
abbrev zgR:=GT×GT×Int×Int×Ur
abbrev Zx:=q6×zF
abbrev zvK:=Zx->U3 Zx
abbrev Uu:=Sl qi×(Ub×GY)×GT×GV
abbrev zjk:=Int×Int×GT×Int×Int×Sl qf×q6×Uu
abbrev zpS:=zF->U3 zaw
abbrev Uo:=Int×q7
abbrev yu:=q7×GT
abbrev Zj:=zf⊕GQ×yu
abbrev zjl:=Uo->U3 Zj
abbrev Wt:=Yh->U3 zF
abbrev zjm:=zF->U3 Yh
abbrev zpT:=GT×Int×Int×Wu
abbrev zjH:=U0×zV×Ut
abbrev zev:=Int×zV×Ut
abbrev zvN:=zjH->U3 zev
abbrev wz:=zF->U3 Zx
abbrev zcv:=vf⊕ZB
abbrev zvO:=z6⊕zR×GR
abbrev zvP:=xh⊕zF
abbrev zjo:=z6×q8×z6⊕q8×Int×Int×GO
abbrev ZQ:=q7->U3 Zj
abbrev zvZ:=GQ×yu⊕zf
abbrev zpU:=q7->U3 zvZ
abbrev zpV:=(Int×z6)×GT×Int×Int×GL
abbrev zgV:=z6⊕GR
abbrev zvQ:=Ub×q8->U3 zgV
abbrev zvR:=ZB⊕ZB
abbrev zvS:=Int×q13×Ui
abbrev Z4:=zf⊕GQ×q7
abbrev wA:=q7->U3 Z4
abbrev zv7:=qm×GW×Uh
abbrev zgS:=Int×Int×zv7
abbrev zap:=GT×Int×Int×q8×Int×Int×GO
abbrev zqc:=Int×Int×GP×Um×q6
abbrev zpY:=Int×GV×zqc
abbrev zqS:=q6×Sl qi×GY
abbrev zvW:=zqS->U3 ZB
abbrev zwn:=U0×U0×zcI×Sl ql
abbrev zgT:=GT×Int×Int×zwn
abbrev zpZ:=Sl qj×GT×Int×Int×GL
abbrev zqo:=Int×GV×(Int×z6)×Um
abbrev Z6:=Int×Um
abbrev Uz:=U3 Z6
abbrev zvY:=zqo->Uz
abbrev zar:=zf⊕q7×q8⊕q7×GQ
abbrev xl:=Int×Int×Ub
abbrev zv0:=z6×q8×xl⊕q8×xl
abbrev zjL:=z6×xl
abbrev zv1:=zjL->U3 xl
abbrev Yi:=Int×Int×Uy
abbrev zjP:=z6×Yi
abbrev zp2:=zjP->U3 Yi
abbrev zjr:=Int×Xr
abbrev zv2:=Int×Int×Sl qf×Uu
abbrev zv3:=zev⊕zV×Ut
abbrev zp4:=Int×Int×GP×Um×q6×qh
abbrev zv6:=zf⊕q7×q8×GQ
abbrev zej:=Int×GV×vf
abbrev zek:=GQ×Int×Int×yu
abbrev xj:=U0×U0
abbrev zg5:=Bool×Sl qm×Sl q17
abbrev zgU:=xj->U3 zg5
abbrev zp5:=U0×(U0×xj)×Int
abbrev zp7:=Int×Int×Int×Int×Int×q6×Sl qq×q6×Sl qq
abbrev zwf:=Int×q6×U0×U0×zcI
abbrev zp8:=Int×zwf
abbrev zqa:=Int×GU×Up×zcI
abbrev zjs:=GT×Sl qj×GL
abbrev zcE:=Int×U0×Um
abbrev zaC:=qh×Z6
abbrev zv9:=zcE->U3 zaC
abbrev zay:=U0×GU
abbrev zwb:=zay->U3 (Sl qw)
abbrev zel:=zay->U3 (Sl qu)
abbrev zqE:=Int×GV×Ut×Um
abbrev zwc:=zqE->Uz
abbrev zkc:=q13×q1o×Bool
abbrev zwe:=xj->U3 zkc
abbrev Wx:=U0×q7
abbrev yb:=zf⊕q7
abbrev Xs:=Wx->U3 yb
abbrev vX:=zf⊕Uo
abbrev zju:=Uo->U3 vX
abbrev zwA:=Wx⊕zf
abbrev zqd:=q7->U3 zwA
abbrev zqR:=q8×Sl qf×Ub
abbrev zwg:=zqR->U3 Yi
abbrev zg2:=zf⊕qr×q7
abbrev zwh:=Uo->U3 zg2
abbrev zqg:=(U0×xj)×Uo
abbrev zwi:=xl->U3 xl
abbrev zqh:=Yi->U3 Yi
abbrev zqi:=zcE->Uz
abbrev zqz:=U0×zcI×Sl qq
abbrev zcx:=q6->U3 zqz
abbrev ZR:=zf⊕q8×q7
abbrev zqj:=q8×q7->U3 ZR
abbrev zql:=Int×GV×(Int×z6)×Z6
abbrev X5:=GT×U0
abbrev yy:=Int×U0
abbrev zwl:=X5->U3 yy
abbrev zat:=U0×Int×Int×Int×Bool×q9×q9
abbrev zqm:=GU×Up×q6×GV
abbrev wB:=q6×GY
abbrev zj1:=qd×Int×Int×GY
abbrev zwm:=wB->U3 zj1
abbrev zqO:=Int×q6×qh×Um
abbrev zen:=zqO->Uz
abbrev yT:=zf⊕yu
abbrev YY:=q7->U3 yT
abbrev zkd:=Bool×q8×Int
abbrev Y0:=z6⊕Unit
abbrev zeo:=zkd->U3 Y0
abbrev zep:=Int×Yh
abbrev zqn:=U0×zev
abbrev zkf:=qa×U0
abbrev Z5:=Bool×U0
abbrev zwp:=zkf->U3 Z5
abbrev zaD:=q8×U0
abbrev zjy:=zaD->U3 Z5
abbrev zgX:=GT×Int×Int×q8×xl
abbrev zki:=qj×U0
abbrev zwq:=zki->U3 Z5
abbrev zjA:=zR->U3 (qr×Int)
abbrev zjV:=GN×GN
abbrev zcA:=qm->U3 zjV
abbrev zqF:=q8×q7⊕zf
abbrev zjB:=q7->U3 zqF
abbrev YZ:=q7->U3 ZR
abbrev Xu:=Sl qj×qj
abbrev zaB:=Bool×Xu
abbrev zjD:=Xu->U3 zaB
abbrev v7:=q8×Ub
abbrev zj7:=Int×Int×Sl qf
abbrev zws:=v7->U3 zj7
abbrev zj8:=Int×Int×Sl qi
abbrev zwt:=wB->U3 zj8
abbrev zwu:=Int×Int×Int×Int×q6×Sl qq×q6
abbrev zqT:=Int×Int×Sl qr
abbrev zjE:=U0->U3 zqT
abbrev vi:=Int×Xu
abbrev zwv:=Xu->U3 vi
abbrev zjF:=U0->U3 (Int×Int×Up)
abbrev zg6:=Int×Uy×q8
abbrev zqp:=Uy×q8->U3 zg6
abbrev zqq:=Int×Int×q13×q1o×Sl qm×Sl q17
abbrev zqr:=Int×Int×qm×GW×zcI
abbrev zjX:=zcI×U0
abbrev GX:=U3 Int
abbrev zwx:=zjX->GX
abbrev zax:=Uo->U3 zf
abbrev zqs:=zcI×zR
abbrev zkg:=qf×z6
abbrev zwy:=v7->U3 zkg
abbrev zkh:=qi×z6
abbrev zwz:=wB->U3 zkh
abbrev zqu:=Int×Int×Int×q6×Sl qq×Sl qq
abbrev Uf:=U3 Bool
abbrev zqv:=xj->Uf
abbrev zJ:=Bool×q7
abbrev Zy:=Wx->U3 zJ
abbrev zqL:=qa×U0×GT
abbrev zes:=zqL->GX
abbrev zqw:=zV->U3 (q9×Int)
abbrev zet:=U0->U3 (q8×z6)
abbrev zeu:=U0->U3 (q6×z6)
abbrev zkk:=GT×GT
abbrev zgZ:=GT×Int×Int×zkk
abbrev zjJ:=Ub×GT×zj7
abbrev v6:=Int×Sl ql
abbrev zg0:=ql×Sl ql->U3 v6
abbrev zqy:=Int×GV×Ut×Z6
abbrev zjK:=Int×Int×zcI×Sl qz
abbrev zqA:=X5->Uf
abbrev zg1:=U0×Int×Int×q9×q9
abbrev zg8:=qh×Bool
abbrev zjM:=wB->U3 zg8
abbrev zjN:=q8->U3 xl
abbrev zjO:=q6->U3 (Int×Int×GY)
abbrev zjQ:=U0->U3 (q13×Bool)
abbrev zcF:=Ub×U0
abbrev zcB:=zcF->GX
abbrev zwB:=v7->U3 (qj×Int)
abbrev zj5:=GY×U0
abbrev vW:=zj5->GX
abbrev zj6:=GV×U0
abbrev zew:=zj6->GX
abbrev zwD:=z6⊕U0×Sl qr
abbrev zqB:=Ub×Int×yy
abbrev zex:=GT×Int×yy
abbrev zjR:=vi⊕Xu
abbrev zwE:=z6⊕U0×Up
abbrev zqC:=Sl qj×Int×yy
abbrev zwF:=zg6⊕Uy×q8
abbrev yJ:=q8×Sl ql->U3 (Sl ql)
abbrev zqD:=Int×U0×Z6
abbrev zcJ:=ql×Bool
abbrev zjS:=qm×Int->U3 zcJ
abbrev Ww:=zV->GX
abbrev zjT:=U0->U3 U0
abbrev Wz:=Bool×qj
abbrev zjU:=qj×qj->U3 Wz
abbrev zg9:=Bool×q8
abbrev zwG:=qf×q8->U3 zg9
abbrev zaA:=yy⊕U0
abbrev zez:=q8->U3 zkk
abbrev zcC:=qe×U0->GX
abbrev vY:=q6×Int->U3 (Sl qq)
abbrev zjW:=zf⊕q7×q8
abbrev zg3:=ql->U3 zcI
abbrev zcD:=qm×Int->U3 GW
abbrev zeB:=q6×Int->U3 GV
abbrev zqG:=GT×Int×Int×Sl qz
abbrev zqH:=GT×Int×v6
abbrev zjY:=GY×Int×q6×Sl qi
abbrev vh:=U0->Uf
abbrev zg4:=U0×Int×Sl qr
abbrev zqI:=Int×GT×z6
abbrev vZ:=U0×Int×Up
abbrev zqJ:=GY×zV
abbrev zqK:=GV×zV
abbrev zeD:=Int×vi
abbrev zj0:=Int×Int×q6×GV
abbrev zqM:=Sl qf×Int×Int×q8
abbrev zqN:=Int×zg6
abbrev zeE:=Int×Int×q6×Sl qq
abbrev xk:=q7->U3 (qr×q7)
abbrev zj2:=qm×Int->GX
abbrev zqP:=q8×Int->U3 qz
abbrev zj4:=q8->U3 (Sl qz)
abbrev zeF:=Z6⊕Um
abbrev zqQ:=GV×Int×Sl qp
abbrev zeG:=Unit->Uf
abbrev Zk:=Int->Uf
abbrev zj9:=Sl qj×U0
abbrev zka:=Int×Int×Sl qm
abbrev zkb:=Int×wB
abbrev X6:=q8->GX
abbrev X7:=q6->GX
abbrev zke:=q8×q8×Sl ql
abbrev zcG:=q8->U3 q1j
abbrev zeH:=Int×Uo
abbrev zcH:=q8->U3 qz
abbrev zkj:=q8->U3 q8
abbrev Wy:=q6->U3 qp
abbrev zeI:=Int⊕Unit
abbrev zeJ:=qj×Ub
abbrev zh6:=zcq
abbrev Ws:=Yy
abbrev zh8:=zct
abbrev zeA:=yJ
abbrev zeC:=vY
abbrev Zr:=U0
def qff(x:Int):Uf:=f (q (x≠10))
def qca:Zk:=qff
theorem qkf:qca=P0.F:=by kernel_rfl
def qjh(A:Zk):zV->U3 (Step zV Int):=λa=>(if q (a.2 < (↑(V a.1):Int))=g then(Zg a.1 a.2).bind λb=>(A b).bind λc=>f (a.1,a.2,c) else f (a.1,a.2,N)).bind λb=>if b.2.2=g then f (Step.next (b.1,U4 (b.2.1+1))) else f (Step.done b.2.1)
def qg7(A:Zk)(x:zV):GX:=(lpO (qjh A) x).bind λa=>f a
def qc2:zV->GX:=qg7 qca
theorem qju:qc2=P1.F:=by delta qc2;rw[qkf];kernel_rfl
def qgm(x:Int):Uf:=(if q (48<=x)=g then f (q (x<=57)) else f N).bind λa=>f a
def qaj:Zk:=qgm
theorem qh0:qaj=P2.F:=by kernel_rfl
def q6r(A:Zk):zV->U3 (Step zV Int):=λa=>(if q (a.2 < (↑(V a.1):Int))=g then(Zg a.1 a.2).bind λb=>(A b).bind λc=>f (a.1,a.2,c) else f (a.1,a.2,N)).bind λb=>if b.2.2=g then f (Step.next (b.1,U4 (b.2.1+1))) else f (Step.done b.2.1)
def qgq(A:Zk)(x:zV):GX:=(lpO (q6r A) x).bind λa=>f a
def qdj:zV->GX:=qgq qaj
theorem qkd:qdj=P3.F:=by delta qdj;rw[qh0];kernel_rfl
def qdm:=wn
theorem qji:F4=qdm:=rfl
def qg9(x:Int):Uf:=(if q (97<=x)=g then if q (x<=122)=g then f g else f (q (x=95)) else f (q (x=95))).bind λa=>f a
def q8p:Zk:=qg9
theorem qgr:q8p=P5.F:=by kernel_rfl
def qgb(A:zR->U3 (Int⊕Int))(B:Zk)(x:zR):U3 (qr×Int):=(ZI x.1 x.2.1 x.2.2).bind λa=>((A (a,10,64)).bind λb=>F (λc=>f (y (x.1,x.2.1,x.2.2,a,c,qr.mk 0 (lit []) 0 0))) (λc=>f (M (x.1,x.2.1,x.2.2,a,c,qr.mk 0 (lit []) 0 0))) b).bind λb=>F (λc=>if q (1099511627776 < c.2.2.2.2.1)=g then f (qr.mk 0 (lit []) 0 0,12) else if q (1 < (↑(V c.2.2.2.1):Int))=g then(Zg c.2.2.2.1 0).bind λd=>if q (d=48)=g then f (qr.mk 0 (lit []) 0 0,12) else if q (c.2.2.1 < (↑(V c.1):Int))=g then(Zg c.1 c.2.2.1).bind λe=>(B e).bind λi=>if i=g then f (qr.mk 0 (lit []) 0 0,12) else f (qr.mk 3 c.2.2.2.1 c.2.2.2.2.1 c.2.1,0) else f (qr.mk 3 c.2.2.2.1 c.2.2.2.2.1 c.2.1,0) else if q (c.2.2.1 < (↑(V c.1):Int))=g then(Zg c.1 c.2.2.1).bind λj=>(B j).bind λl=>if l=g then f (qr.mk 0 (lit []) 0 0,12) else f (qr.mk 3 c.2.2.2.1 c.2.2.2.2.1 c.2.1,0) else f (qr.mk 3 c.2.2.2.1 c.2.2.2.2.1 c.2.1,0)) (λc=>f (qr.mk 0 (lit []) 0 0,12)) b
def qdl:zR->U3 (qr×Int):=qgb qdm q8p
theorem qko:qdl=P6.F:=by delta qdl;rw[<-qji,qgr];kernel_rfl
def qga(A:Zk)(B:Zk)(x:Int):Uf:=((A x).bind λa=>if a=g then f g else(B x).bind λb=>f b).bind λa=>f a
def qdk:Zk:=qga q8p qaj
theorem qkp:qdk=P7.F:=by delta qdk;rw[qgr,qh0];kernel_rfl
def qjv(A:Zk):zV->U3 (Step zV Int):=λa=>(if q (a.2 < (↑(V a.1):Int))=g then(Zg a.1 a.2).bind λb=>(A b).bind λc=>f (a.1,a.2,c) else f (a.1,a.2,N)).bind λb=>if b.2.2=g then f (Step.next (b.1,U4 (b.2.1+1))) else f (Step.done b.2.1)
def qgh(A:Zk)(x:zV):GX:=(lpO (qjv A) x).bind λa=>f a
def qco:zV->GX:=qgh qdk
theorem qk9:qco=P8.F:=by delta qco;rw[qkp];kernel_rfl
def qgn(x:Zr):Uf:=(if q (x=lit [116,121,112,101])=g then f (q (x=lit [116,121,112,101])) else(if q (x=lit [102,110])=g then f (q (x=lit [102,110])) else(if q (x=lit [111,119,110])=g then f (q (x=lit [111,119,110])) else(if q (x=lit [99,101,108,108])=g then f (q (x=lit [99,101,108,108])) else(if q (x=lit [99,111,117,110,116,101,100])=g then f (q (x=lit [99,111,117,110,116,101,100])) else(if q (x=lit [108,111,99,107])=g then f (q (x=lit [108,111,99,107])) else(if q (x=lit [103,117,97,114,100])=g then f (q (x=lit [103,117,97,114,100])) else(if q (x=lit [119,104,101,114,101])=g then f (q (x=lit [119,104,101,114,101])) else(if q (x=lit [105,110,116])=g then f (q (x=lit [105,110,116])) else(if q (x=lit [109,117,116])=g then f (q (x=lit [109,117,116])) else(if q (x=lit [102,114,101,101])=g then f (q (x=lit [102,114,101,101])) else(if q (x=lit [117,110,108,111,99,107])=g then f (q (x=lit [117,110,108,111,99,107])) else(if q (x=lit [105,102])=g then f (q (x=lit [105,102])) else(if q (x=lit [101,108,115,101])=g then f (q (x=lit [101,108,115,101])) else(if q (x=lit [119,104,105,108,101])=g then f (q (x=lit [119,104,105,108,101])) else(if q (x=lit [114,101,116,117,114,110])=g then f (q (x=lit [114,101,116,117,114,110])) else(if q (x=lit [97,98,111,114,116])=g then f (q (x=lit [97,98,111,114,116])) else(if q (x=lit [102,111,114,107])=g then f (q (x=lit [102,111,114,107])) else(if q (x=lit [110,101,119])=g then f (q (x=lit [110,101,119])) else f (q (x=lit [97,114,114,97,121]))).bind λa=>f a).bind λa=>f a).bind λa=>f a).bind λa=>f a).bind λa=>f a).bind λa=>f a).bind λa=>f a).bind λa=>f a).bind λa=>f a).bind λa=>f a).bind λa=>f a).bind λa=>f a).bind λa=>f a).bind λa=>f a).bind λa=>f a).bind λa=>f a).bind λa=>f a).bind λa=>f a).bind λa=>if a=g then f g else f N
def qe5:vh:=qgn
theorem qkv:qe5=P9.F:=by kernel_rfl
def qgz(A:vh)(x:zR):U3 (qr×Int):=(ZI x.1 x.2.1 x.2.2).bind λa=>if q (16 < (↑a.size:Int))=g then f (qr.mk 0 (lit []) 0 0,13) else(A a).bind λb=>(if b=g then f (qr.mk 0 (lit []) 0 0,qr.mk 2 a 0 x.2.1) else f (qr.mk 0 (lit []) 0 0,qr.mk 1 a 0 x.2.1)).bind λc=>f (c.2,0)
def qfg:zR->U3 (qr×Int):=qgz qe5
theorem ql0:qfg=P10.F:=by delta qfg;rw[qkv];kernel_rfl
def q4n(x:xj):Uf:=(if q ((↑(V x.2):Int)<=(↑(V x.1):Int))=g then(ZI x.1 0 (↑(V x.2):Int)).bind λa=>f (q (a=x.2)) else f N).bind λa=>f a
def qaq:xj->Uf:=q4n
theorem qer:qaq=P11.F:=by kernel_rfl
def qfk(A:zqv)(x:xj):Uf:=(A x).bind λa=>f a
def q7x:xj->Uf:=qfk qaq
theorem qiy:q7x=P12.F:=by delta q7x;rw[qer];kernel_rfl
def q7y:=Wa
theorem qiz:F13=q7y:=rfl
def qbr(A:zqv)(B:Ww):zp5->U3 (Step zp5 (U0⊕U0)):=λa=>if q (a.2.2 < 3)=g then(vy [a.2.1.1,a.2.1.2.1,a.2.1.2.2] a.2.2).bind λb=>(A (a.1,b)).bind λc=>if c=g then f (Step.done (y b)) else f (Step.next (a.1,a.2.1,U4 (a.2.2+1))) else f (Step.done (M a.1))
def qk6(A:zqv)(B:Ww)(x:Zr):U3 U0:=(lpO (qbr A B) (x,(lit [45,62],lit [60,61],lit [61,61]),0)).bind λa=>F (λb=>f b) (λb=>(Zg b 0).bind λc=>(B (lit [123,125,40,41,91,93,44,58,59,61,43,45,38,60],c)).bind λd=>if q (0<=d)=g then(ZI b 0 1).bind λe=>f e else f (lit [])) a
def qgj:zjT:=qk6 q7x q7y
theorem ql1:qgj=P14.F:=by delta qgj;rw[qiy,<-qiz];kernel_rfl
def qej(A:Ww)(B:Zk)(C:Ww)(D:zjA)(E:Zk)(G:Ww)(H:zjA)(I:zjT):zg4->U3 (Step zg4 zwD):=λa=>if q (a.2.1 < (↑(V a.1):Int))=g then((Zg a.1 a.2.1).bind λb=>(if q (b=32)=g then f (a.1,a.2.1,0,b,g,a.2.2,qr.mk 0 (lit []) 0 0) else f (a.1,a.2.1,0,b,q (b=10),a.2.2,qr.mk 0 (lit []) 0 0)).bind λc=>(if c.2.2.2.2.1=g then f (y (c.1,U4 (c.2.1+1),c.2.2.2.2.2.1)) else if q (c.2.2.2.1=35)=g then(A (c.1,c.2.1)).bind λd=>f (y (c.1,d,c.2.2.2.2.2.1)) else(B c.2.2.2.1).bind λe=>(if e=g then(C (c.1,c.2.1)).bind λi=>(D (c.1,c.2.1,i)).bind λj=>f (c.1,c.2.1,j.2,c.2.2.2.2.2.1,j.1) else(E c.2.2.2.1).bind λl=>(if l=g then(G (c.1,c.2.1)).bind λm=>(H (c.1,c.2.1,m)).bind λn=>f (c.1,c.2.1,n.2,c.2.2.2.2.2.1,n.1) else(ZI c.1 c.2.1 (↑(V c.1):Int)).bind λo=>(I o).bind λp=>(if q (p=lit [])=g then f (c.1,c.2.1,11,c.2.2.2.2.2.1,qr.mk 4 p 0 c.2.1) else f (c.1,c.2.1,c.2.2.1,c.2.2.2.2.2.1,qr.mk 4 p 0 c.2.1)).bind λr=>f r).bind λm=>f m).bind λi=>f (M i)).bind λd=>F (λe=>f (y e)) (λe=>if q (e.2.2.1≠0)=g then f (M (e.2.1,e.2.2.1)) else(zo 40 e.2.2.2.1 [e.2.2.2.2]).bind λi=>f (y (e.1,U4 (e.2.1+(↑e.2.2.2.2.T_.size:Int)),i))) d).bind λb=>F (λc=>f (Step.next c)) (λc=>f (Step.done (y c))) b else f (Step.done (M (a.1,a.2.2)))
def qgc(A:Ww)(B:Zk)(C:Ww)(D:zjA)(E:Zk)(G:Ww)(H:zjA)(I:zjT)(x:Zr):U3 zqT:=(if q (16384 < (↑x.size:Int))=g then f (0,10,O [] N) else(lpO (qej A B C D E G H I) (x,0,O [] N)).bind λa=>F (λb=>f (b.1,b.2,O [] N)) (λb=>(zo 40 b.2 [qr.mk 0 (lit []) 0 (↑(V b.1):Int)]).bind λc=>f (0,0,c)) a).bind λa=>f a
def qcb:zjE:=qgc qc2 qaj qdj qdl q8p qco qfg qgj
theorem qkq:qcb=P15.F:=by delta qcb;rw[qju,qh0,qkd,qko,qgr,qk9,ql0,ql1];kernel_rfl
def qeu(x:q7):U3 (qr×q7):=(za x.Z_ 0).bind λa=>f (a,x)
def q14:xk:=qeu
theorem q2l:q14=P16.F:=by kernel_rfl
def qg0(A:xk)(x:Wx):U3 zJ:=(A x.2).bind λa=>(if q (a.1.k_=2)=g then f (q (a.1.T_=x.1),a.2) else if q (a.1.k_=4)=g then f (q (a.1.T_=x.1),a.2) else f (N,a.2)).bind λb=>f b
def q29:Wx->U3 zJ:=qg0 q14
theorem q78:q29=P17.F:=by delta q29;rw[q2l];kernel_rfl
def qfl(A:Zy)(x:Wx):U3 zJ:=(A x).bind λa=>if(!a.1)=g then f (N,a.2) else(z8 a.2.Z_ 1 a.2.Z_.len).bind λb=>f (g,q7.mk b a.2.D_)
def q11:Wx->U3 zJ:=qfl q29
theorem q1g:q11=P18.F:=by delta q11;rw[q78];kernel_rfl
def qev(A:xk)(x:Uo):U3 zf:=(A x.2).bind λa=>f ((a.1.a_,x.1),a.2)
def q1q:Uo->U3 zf:=qev q14
theorem q67:q1q=P19.F:=by delta q1q;rw[q2l];kernel_rfl
def qew(A:xk)(B:zax)(x:Uo):U3 zg2:=(A x.2).bind λa=>if q (a.1.k_≠x.1)=g then(B (20,a.2)).bind λb=>f (y b) else(z8 a.2.Z_ 1 a.2.Z_.len).bind λc=>f (M (a.1,q7.mk c a.2.D_))
def q5u:Uo->U3 zg2:=qew q14 q1q
theorem qfm:q5u=P20.F:=by delta q5u;rw[q2l,q67];kernel_rfl
def qex(A:zwh)(x:q7):U3 Z4:=(A (1,x)).bind λa=>F (λb=>f (y b)) (λb=>f (M ((5,b.1.T_,0,b.1.a_),b.2))) a
def q1c:wA:=qex q5u
theorem q2y:q1c=P21.F:=by delta q1c;rw[qfm];kernel_rfl
def qey(A:Zy)(B:zax)(x:Wx):U3 yb:=(A x).bind λa=>if(!a.1)=g then(B (20,a.2)).bind λb=>f (y b) else f (M a.2)
def q18:Wx->U3 yb:=qey q11 q1q
theorem q26:q18=P22.F:=by delta q18;rw[q1g,q67];kernel_rfl
def qez(A:xk)(B:Zy)(C:Xs)(D:wA)(x:q7):U3 zqF:=(A x).bind λa=>(A a.2).bind λb=>(B (lit [105,110,116],b.2)).bind λc=>if c.1=g then f (y (q8.mk 8 a.1.T_ 0 b.1.a_ (O [] N),c.2)) else(B (lit [111,119,110],c.2)).bind λd=>(if d.1=g then f (y (d.2,(0,lit [],0,0),8,a.1.T_,0,b.1.a_)) else(C (lit [38],d.2)).bind λe=>F (λi=>f (M i)) (λi=>(B (lit [109,117,116],i)).bind λj=>(if j.1=g then f (j.2,(0,lit [],0,0),8,lit [38,109,117,116],0,b.1.a_) else f (j.2,(0,lit [],0,0),8,a.1.T_,0,b.1.a_)).bind λ(l:X4)=>f (y l)) e).bind λ(e:q7×(Int×U0×Int×Int)×Int×U0×Int×Int⊕z6×q7)=>F (λi=>(D i.1).bind λj=>F (λl=>f (M l)) (λl=>f (y (q8.mk i.2.2.1 i.2.2.2.1 i.2.2.2.2.1 i.2.2.2.2.2 (O [q8.mk l.1.1 l.1.2.1 l.1.2.2.1 l.1.2.2.2 (O [] N)] g),l.2))) j) (λi=>f (M i)) e
def qa6:zjB:=qez q14 q11 q18 q1c
theorem qfn:qa6=P23.F:=by delta qa6;rw[q2l,q1g,q26,q2y];kernel_rfl
def qe8(A:wA)(B:Xs)(C:zjB)(x:q7):U3 Zj:=(A x).bind λa=>F (λb=>f (y b)) (λb=>(B (lit [58],b.2)).bind λc=>F (λd=>f (y d)) (λd=>(C d).bind λe=>F (λi=>f (M ((7,b.1.2),i.2,O [ke i.1] g))) (λi=>f (y i)) e) c) a
def q91:ZQ:=qe8 q1c q18 qa6
theorem qhj:q91=P24.F:=by delta q91;rw[q2y,q26,qfn];kernel_rfl
def q8r(A:ZQ)(B:Zy):yu->U3 (Step yu yT):=λa=>(B (lit [44],a.1)).bind λb=>if b.1=g then(A b.2).bind λc=>F (λd=>f (Step.done (y d))) (λd=>(zo 64 a.2 [q8.mk d.1.1 d.1.2.1 d.1.2.2.1 d.1.2.2.2 d.2.2]).bind λe=>f (Step.next (d.2.1,e))) c else f (Step.done (M (b.2,a.2)))
def qcm(A:ZQ)(B:Zy)(x:q7):U3 yT:=(A x).bind λa=>F (λb=>f (y b)) (λb=>(lpO (q8r A B) (b.2.1,O [q8.mk b.1.1 b.1.2.1 b.1.2.2.1 b.1.2.2.2 b.2.2] g)).bind λc=>F (λd=>f (y d)) (λd=>f (M d)) c) a
def q9z:YY:=qcm q91 q11
theorem qgf:q9z=P25.F:=by delta q9z;rw[qhj,q1g];kernel_rfl
def qdy(x:q8×Int):U3 (q8×Int):=f (q8.mk x.1.k_ x.1.T_ x.1.N_ x.2 x.1.K_,x.2)
def q85:q8×Int->U3 (q8×Int):=qdy
theorem qh1:q85=P26.F:=by kernel_rfl
def qe9(A:Xs)(x:q8×q7):U3 ZR:=(A (lit [59],x.2)).bind λa=>F (λb=>f (y b)) (λb=>f (M (ke x.1,b))) a
def q6t:q8×q7->U3 ZR:=qe9 q18
theorem qhk:q6t=P27.F:=by delta q6t;rw[q26];kernel_rfl
def qdz(A:zwh)(x:Uo):U3 vX:=(A (3,x.2)).bind λa=>F (λb=>f (y b)) (λb=>f (M (U4 (x.1 * b.1.N_),b.2))) a
def q53:Uo->U3 vX:=qdz q5u
theorem q8i:q53=P28.F:=by delta q53;rw[qfm];kernel_rfl
def qg1(A:wA)(B:Xs)(C:zju)(x:Uo):U3 Z4:=(A x.2).bind λa=>F (λb=>f (y b)) (λb=>(B (lit [91],b.2)).bind λc=>F (λd=>f (y d)) (λd=>(C (1,d)).bind λe=>F (λi=>f (y i)) (λi=>(B (lit [93],i.2)).bind λj=>F (λl=>f (y l)) (λl=>f (M ((x.1,b.1.2.1,i.1,b.1.2.2.2),l))) j) e) c) a
def qb8:Uo->U3 Z4:=qg1 q1c q18 q53
theorem qjj:qb8=P29.F:=by delta qb8;rw[q2y,q26,q8i];kernel_rfl
def qf0(A:Zy)(B:zju)(x:q8×q7):U3 ZR:=(A (lit [43],x.2)).bind λa=>(if a.1=g then(B (1,a.2)).bind λb=>F (λc=>f (y c)) (λc=>f (M (c.2,q8.mk x.1.k_ x.1.T_ c.1 x.1.a_ x.1.K_,0,lit [],0,0))) b else(A (lit [45],a.2)).bind λc=>(if c.1=g then(B (-1,c.2)).bind λd=>F (λe=>f (y e)) (λe=>f (M (e.2,q8.mk x.1.k_ x.1.T_ e.1 x.1.a_ x.1.K_,0,lit [],0,0))) d else f (M (c.2,ke x.1,0,lit [],0,0))).bind λ(d:zv6)=>F (λe=>f (y e)) (λe=>f (M (e.1,ke e.2.1,e.2.2))) d).bind λ(b:zv6)=>F (λc=>f (y c)) (λc=>f (M (ke c.2.1,c.1))) b
def q5v:q8×q7->U3 ZR:=qf0 q11 q53
theorem qfo:q5v=P30.F:=by delta q5v;rw[q1g,q8i];kernel_rfl
def qf1(A:xk)(B:zju)(C:Zy)(D:wA)(E:zqj)(x:q7):U3 ZR:=(A x).bind λa=>(A a.2).bind λb=>(if q (b.1.k_=3)=g then(B (1,b.2)).bind λc=>F (λd=>f (y d)) (λd=>f (M (y (d.2,5,lit [],d.1,a.1.a_)))) c else(C (lit [45],b.2)).bind λd=>if d.1=g then(B (-1,d.2)).bind λe=>F (λi=>f (y i)) (λi=>f (M (y (i.2,5,lit [],i.1,a.1.a_)))) e else f (M (M (d.2,0,lit [],0,0)))).bind λ(c:z6×q7⊕q7×Int×U0×Int×Int⊕q7×Int×U0×Int×Int)=>F (λd=>f (y d)) (λd=>F (λe=>f (M (q8.mk e.2.1 e.2.2.1 e.2.2.2.1 e.2.2.2.2 (O [] N),e.1))) (λe=>((D e.1).bind λi=>F (λj=>f (y j)) (λj=>(E (q8.mk j.1.1 j.1.2.1 j.1.2.2.1 j.1.2.2.2 (O [] N),j.2)).bind λl=>F (λm=>f (y m)) (λm=>f (M (m.2,ke m.1))) l) i).bind λ(i:zjW)=>F (λj=>f (y j)) (λj=>f (M (ke j.2,j.1))) i) d) c
def q2i:YZ:=qf1 q14 q53 q11 q1c q5v
theorem q7i:q2i=P31.F:=by delta q2i;rw[q2l,q8i,q1g,q2y,qfo];kernel_rfl
def q7d(A:Zy)(B:zax):zqg->U3 (Step zqg (Wx⊕q7)):=λa=>if q (a.2.1 < 3)=g then(vy [a.1.1,a.1.2.1,a.1.2.2] a.2.1).bind λb=>(A (b,a.2.2)).bind λc=>if c.1=g then f (Step.done (y (b,c.2))) else f (Step.next (a.1,U4 (a.2.1+1),c.2)) else f (Step.done (M a.2.2))
def qfp(A:Zy)(B:zax)(x:q7):U3 zwA:=(lpO (q7d A B) ((lit [60],lit [60,61],lit [61,61]),0,x)).bind λa=>F (λb=>f (y b)) (λb=>(B (20,b)).bind λc=>f (M c)) a
def qdb:zqd:=qfp q11 q1q
theorem qj0:qdb=P32.F:=by delta qdb;rw[q1g,q67];kernel_rfl
def qf2(A:YZ)(B:zqd)(x:q7):U3 Zj:=(A x).bind λa=>F (λb=>f (y b)) (λb=>(B b.2).bind λc=>F (λd=>(A d.2).bind λe=>F (λi=>f (y i)) (λi=>f (M ((4,d.1,0,b.1.a_),i.2,O [ke b.1,ke i.1] g))) e) (λd=>f (y d)) c) a
def q4w:ZQ:=qf2 q2i qdb
theorem qfq:q4w=P33.F:=by delta q4w;rw[q7i,qj0];kernel_rfl
def q9w(A:YZ)(B:Zy):yu->U3 (Step yu yT):=λa=>(B (lit [44],a.1)).bind λb=>if b.1=g then(A b.2).bind λc=>F (λd=>f (Step.done (y d))) (λd=>(zo 64 a.2 [ke d.1]).bind λe=>f (Step.next (d.2,e))) c else f (Step.done (M (b.2,a.2)))
def qd8(A:YZ)(B:Zy)(x:q7):U3 yT:=(A x).bind λa=>F (λb=>f (y b)) (λb=>(lpO (q9w A B) (b.2,O [ke b.1] g)).bind λc=>F (λd=>f (y d)) (λd=>f (M d)) c) a
def qa4:YY:=qd8 q2i q11
theorem qgk:qa4=P34.F:=by delta qa4;rw[q7i,q1g];kernel_rfl
def qf3(A:Xs)(B:Zy)(C:YY)(x:q7):U3 yT:=(A (lit [40],x)).bind λa=>F (λb=>f (y b)) (λb=>(B (lit [41],b)).bind λc=>if c.1=g then f (M (c.2,O [] N)) else(C c.2).bind λd=>F (λe=>f (y e)) (λe=>(A (lit [41],e.1)).bind λi=>F (λj=>f (y j)) (λj=>f (M (j,e.2))) i) d) a
def q5w:YY:=qf3 q18 q11 qa4
theorem qd1:q5w=P35.F:=by delta q5w;rw[q26,q1g,qgk];kernel_rfl
def qf4(A:xk)(B:Zy)(C:zju)(D:wA)(E:YZ)(G:Zy)(H:YY)(I:Xs)(J:zqj)(x:q7):U3 ZR:=(A x).bind λa=>(B (lit [110,101,119],a.2)).bind λb=>(if b.1=g then(C (1,b.2)).bind λc=>F (λd=>f (y d)) (λd=>f (M (y (d.2,q8.mk 23 (lit []) d.1 a.1.a_ (O [] N))))) c else(B (lit [97,114,114,97,121],b.2)).bind λd=>(if d.1=g then(D d.2).bind λe=>F (λi=>f (y i)) (λi=>f (M (y (i.2,q8.mk 24 i.1.2.1 0 a.1.a_ (O [] N))))) e else(B (lit [38],d.2)).bind λi=>(if i.1=g then(B (lit [109,117,116],i.2)).bind λj=>(if j.1=g then f (j.2,(0,lit [],0,0),27,lit [],0,a.1.a_) else f (j.2,(0,lit [],0,0),26,lit [],0,a.1.a_)).bind λ(l:X4)=>(D l.1).bind λm=>F (λn=>f (y n)) (λn=>f (M (y (n.2,q8.mk l.2.2.1 n.1.2.1 l.2.2.2.2.1 l.2.2.2.2.2 (O [] N))))) m else(A i.2).bind λn=>if q (n.1.k_≠1)=g then(E n.2).bind λo=>F (λp=>f (y p)) (λp=>f (M (y (p.2,ke p.1)))) o else f (M (M (n.2,(0,lit [],0,0),0,lit [],0,a.1.a_)))).bind λ(j:zve)=>F (λl=>f (y l)) (λl=>F (λm=>f (M (y (m.1,ke m.2)))) (λm=>f (M (M m))) l) j).bind λ(e:zve)=>F (λi=>f (y i)) (λi=>F (λj=>f (M (y (j.1,ke j.2)))) (λj=>f (M (M j))) i) e).bind λ(c:zve)=>F (λd=>f (y d)) (λd=>F (λe=>f (M (ke e.2,e.1))) (λe=>(D e.1).bind λi=>F (λj=>f (y j)) (λj=>(G (lit [40],j.2)).bind λl=>(if l.1=g then(H l.2).bind λm=>F (λn=>f (y n)) (λn=>f (M (y (n.1,(28,j.1.2),n.2)))) m else(B (lit [91],l.2)).bind λn=>(if n.1=g then(E n.2).bind λo=>F (λp=>f (y p)) (λp=>(I (lit [93],p.2)).bind λr=>F (λs=>f (y s)) (λs=>f (M (y (s,(25,j.1.2),O [ke p.1] g)))) r) o else f (M (M (n.2,e.2.1,j.1)))).bind λ(o:zuW)=>F (λp=>f (y p)) (λp=>F (λr=>f (M (y r))) (λr=>f (M (M r))) p) o).bind λ(m:zuW)=>F (λn=>f (y n)) (λn=>F (λo=>f (M (q8.mk o.2.1.1 o.2.1.2.1 o.2.1.2.2.1 o.2.1.2.2.2 o.2.2,o.1))) (λo=>(yd (((G (lit [43],o.1)).bind λp=>if p.1=g then(za p.2.Z_ 1).bind λr=>f (lit [43],21,q (r.k_=1),p.2,o.2) else f (lit [43],21,N,p.2,o.2)).bind λ(p:zji)=>(if p.2.2.1=g then(I (p.1,p.2.2.2.1)).bind λr=>F (λs=>f (y (s.1,s.2,p.2.2.2.2))) (λs=>(D s).bind λt=>F (λu=>f (y (u.1,u.2,p.2.2.2.2))) (λu=>f (M (y (u.2,(p.2.1,lit [],0,p.2.2.2.2.2.2.2.2),p.2.2.2.2.2,O [q8.mk p.2.2.2.2.2.1 p.2.2.2.2.2.2.1 p.2.2.2.2.2.2.2.1 p.2.2.2.2.2.2.2.2 (O [] N),q8.mk u.1.1 u.1.2.1 u.1.2.2.1 u.1.2.2.2 (O [] N)] g)))) t) r else f (M (M p.2.2.2))).bind λ(r:tA0)=>F (λs=>f (y (s.1,s.2.1))) (λs=>F (λt=>f (M (y (t.1,t.2.1,t.2.2.2)))) (λt=>((G (lit [45],t.1)).bind λu=>if u.1=g then(za u.2.Z_ 1).bind λv=>f (lit [45],22,q (v.k_=1),u.2,t.2) else f (lit [45],22,N,u.2,t.2)).bind λ(u:zji)=>(if u.2.2.1=g then(I (u.1,u.2.2.2.1)).bind λv=>F (λw=>f (y (w.1,w.2,u.2.2.2.2))) (λw=>(D w).bind λz=>F (λK=>f (y (K.1,K.2,u.2.2.2.2))) (λK=>f (M (y (K.2,(u.2.1,lit [],0,u.2.2.2.2.2.2.2.2),u.2.2.2.2.2,O [q8.mk u.2.2.2.2.2.1 u.2.2.2.2.2.2.1 u.2.2.2.2.2.2.2.1 u.2.2.2.2.2.2.2.2 (O [] N),q8.mk K.1.1 K.1.2.1 K.1.2.2.1 K.1.2.2.2 (O [] N)] g)))) z) v else f (M (M u.2.2.2))).bind λ(v:tA0)=>F (λw=>f (y (w.1,w.2.1))) (λw=>F (λz=>f (M (y (z.1,z.2.1,z.2.2.2)))) (λz=>f (M (M z))) w) v) s) r) (((G (lit [45],o.1)).bind λp=>if p.1=g then(za p.2.Z_ 1).bind λr=>f (lit [45],22,q (r.k_=1),p.2,o.2) else f (lit [45],22,N,p.2,o.2)).bind λ(p:zji)=>(if p.2.2.1=g then(I (p.1,p.2.2.2.1)).bind λr=>F (λs=>f (y (s.1,s.2,p.2.2.2.2))) (λs=>(D s).bind λt=>F (λu=>f (y (u.1,u.2,p.2.2.2.2))) (λu=>f (M (y (u.2,(p.2.1,lit [],0,p.2.2.2.2.2.2.2.2),p.2.2.2.2.2,O [q8.mk p.2.2.2.2.2.1 p.2.2.2.2.2.2.1 p.2.2.2.2.2.2.2.1 p.2.2.2.2.2.2.2.2 (O [] N),q8.mk u.1.1 u.1.2.1 u.1.2.2.1 u.1.2.2.2 (O [] N)] g)))) t) r else f (M (M p.2.2.2))).bind λ(r:tA0)=>F (λs=>f (y (s.1,s.2.1))) (λs=>F (λt=>f (M (y (t.1,t.2.1,t.2.2.2)))) (λt=>((G (lit [43],t.1)).bind λu=>if u.1=g then(za u.2.Z_ 1).bind λv=>f (lit [43],21,q (v.k_=1),u.2,t.2) else f (lit [43],21,N,u.2,t.2)).bind λ(u:zji)=>(if u.2.2.1=g then(I (u.1,u.2.2.2.1)).bind λv=>F (λw=>f (y (w.1,w.2,u.2.2.2.2))) (λw=>(D w).bind λz=>F (λK=>f (y (K.1,K.2,u.2.2.2.2))) (λK=>f (M (y (K.2,(u.2.1,lit [],0,u.2.2.2.2.2.2.2.2),u.2.2.2.2.2,O [q8.mk u.2.2.2.2.2.1 u.2.2.2.2.2.2.1 u.2.2.2.2.2.2.2.1 u.2.2.2.2.2.2.2.2 (O [] N),q8.mk K.1.1 K.1.2.1 K.1.2.2.1 K.1.2.2.2 (O [] N)] g)))) z) v else f (M (M u.2.2.2))).bind λ(v:tA0)=>F (λw=>f (y (w.1,w.2.1))) (λw=>F (λz=>f (M (y (z.1,z.2.1,z.2.2.2)))) (λz=>f (M (M z))) w) v) s) r)).bind λp=>F (λr=>f (y r)) (λr=>F (λs=>f (M (q8.mk s.2.1.1 s.2.1.2.1 s.2.1.2.2.1 s.2.1.2.2.2 s.2.2,s.1))) (λs=>(J (q8.mk s.2.2.1 s.2.2.2.1 s.2.2.2.2.1 s.2.2.2.2.2 (O [] N),s.1)).bind λt=>F (λu=>f (y u)) (λu=>f (M (ke u.1,u.2))) t) r) p) n) m) i) d) c
def qcr:YZ:=qf4 q14 q11 q53 q1c q2i q29 q5w q18 q5v
theorem qia:@Eq YZ F36 qcr:=by delta qcr;rw[q2l,q1g,q8i,q2y,q7i,q78,qd1,q26,qfo];kernel_rfl
def qea(A:Zy)(B:YY)(C:Zy)(D:YZ)(E:Xs)(G:YZ)(x:q8×q7):U3 Zj:=(A (lit [40],x.2)).bind λa=>(if a.1=g then(B a.2).bind λb=>F (λc=>f (y c)) (λc=>f (M (y (c.1,(20,lit [],0,x.1.a_),O [q8.mk 28 x.1.T_ x.1.N_ x.1.a_ c.2] g)))) b else(C (lit [91],a.2)).bind λc=>(if c.1=g then(D c.2).bind λd=>F (λe=>f (y e)) (λe=>(E (lit [93],e.2)).bind λi=>F (λj=>f (y j)) (λj=>(E (lit [61],j)).bind λl=>F (λm=>f (y m)) (λm=>(D m).bind λn=>F (λo=>f (y o)) (λo=>f (M (y (o.2,(11,x.1.T_,x.1.N_,x.1.a_),O ([ke e.1]++[ke o.1]) (g || ![ke o.1].isEmpty))))) n) l) i) d else f (M (M (c.2,ke x.1,0,lit [],0,0)))).bind λ(d:zAb)=>F (λe=>f (y e)) (λe=>F (λi=>f (M (y i))) (λi=>f (M (M (i.1,ke i.2.1,i.2.2)))) e) d).bind λ(b:zAb)=>F (λc=>f (y c)) (λc=>F (λd=>f (M (d.2.1,d.1,d.2.2))) (λd=>(E (lit [61],d.1)).bind λe=>F (λi=>f (y i)) (λi=>(G i).bind λj=>F (λl=>f (y l)) (λl=>f (M ((10,d.2.1.T_,d.2.1.N_,d.2.1.a_),l.2,O [ke l.1] g))) j) e) c) b
def q92:q8×q7->U3 Zj:=qea q29 q5w q11 q2i q18 qcr
theorem qhl:q92=P37.F:=by delta q92;rw[q78,qd1,q1g,q7i,q26,<-qia];kernel_rfl
def q7w(A:ZQ)(B:ZQ)(x:zeH):U3 Zj:=(A x.2.2).bind λa=>F (λb=>f (y b)) (λb=>(B b.2.1).bind λc=>F (λd=>f (y d)) (λd=>(zo 64 b.2.2 [q8.mk d.1.1 d.1.2.1 d.1.2.2.1 d.1.2.2.2 d.2.2]).bind λe=>f (M ((x.1,b.1.2.1,b.1.2.2.1,x.2.1),d.2.1,e))) c) a
def q41(h:ZQ):zeH->U3 Zj:=q7w q4w h
theorem qe0(h:ZQ):@Eq ((zeH)->U3 Zj) (zll h) (q41 h):=by delta q41;rw[qfq];kernel_rfl
def q9t(A:xk)(B:Zy)(C:wA)(D:q8×Int->U3 (q8×Int))(E:zqj)(G:Uo->U3 Z4)(H:zeH->U3 Zj)(I:ZQ)(J:Zy)(K:YZ)(L:YY)(P:q8×q7->U3 Zj)(x:q7):U3 ZR:=(A x).bind λa=>(B (lit [102,114,101,101],a.2)).bind λb=>(if b.1=g then(C b.2).bind λc=>F (λd=>f (y d)) (λd=>(D (q8.mk 12 d.1.2.1 d.1.2.2.1 d.1.2.2.2 (O [] N),a.1.a_)).bind λe=>(E (ke e.1,d.2)).bind λi=>F (λj=>f (y j)) (λj=>f (M (y (j.2,ke j.1)))) i) c else(B (lit [108,111,99,107],b.2)).bind λd=>(if d.1=g then((G (13,d.2)).bind λe=>F (λi=>f (y i)) (λi=>(D (q8.mk i.1.1 i.1.2.1 i.1.2.2.1 i.1.2.2.2 (O [] N),a.1.a_)).bind λj=>(E (ke j.1,i.2)).bind λl=>F (λm=>f (y m)) (λm=>f (M (m.2,ke m.1))) l) e).bind λ(e:zjW)=>F (λi=>f (y i)) (λi=>f (M (y (i.1,ke i.2)))) e else(B (lit [117,110,108,111,99,107],d.2)).bind λi=>(if i.1=g then((G (14,i.2)).bind λj=>F (λl=>f (y l)) (λl=>(D (q8.mk l.1.1 l.1.2.1 l.1.2.2.1 l.1.2.2.2 (O [] N),a.1.a_)).bind λm=>(E (ke m.1,l.2)).bind λn=>F (λo=>f (y o)) (λo=>f (M (o.2,ke o.1))) n) j).bind λ(j:zjW)=>F (λl=>f (y l)) (λl=>f (M (y (l.1,ke l.2)))) j else(B (lit [105,102],i.2)).bind λl=>(if l.1=g then(H (15,a.1.a_,l.2)).bind λm=>F (λn=>f (y n)) (λn=>(B (lit [101,108,115,101],n.2.1)).bind λo=>(if o.1=g then(I o.2).bind λp=>F (λr=>f (y r)) (λr=>(zo 64 n.2.2 [q8.mk r.1.1 r.1.2.1 r.1.2.2.1 r.1.2.2.2 r.2.2]).bind λs=>f (M (r.2.1,(0,lit [],0,0),n.1,s))) p else(zo 64 n.2.2 [q8.mk 9 (lit []) 0 a.1.a_ (O [] N)]).bind λr=>f (M (o.2,(0,lit [],0,0),n.1,r))).bind λ(p:zcu)=>F (λr=>f (y r)) (λr=>f (M (y (r.1,q8.mk r.2.2.1.1 r.2.2.1.2.1 r.2.2.1.2.2.1 r.2.2.1.2.2.2 r.2.2.2)))) p) m else(B (lit [119,104,105,108,101],l.2)).bind λn=>(if n.1=g then(H (16,a.1.a_,n.2)).bind λo=>F (λp=>f (y p)) (λp=>f (M (y (p.2.1,q8.mk p.1.1 p.1.2.1 p.1.2.2.1 p.1.2.2.2 p.2.2)))) o else(B (lit [114,101,116,117,114,110],n.2)).bind λp=>(if p.1=g then(J (lit [59],p.2)).bind λr=>(if(!r.1)=g then(K r.2).bind λs=>F (λt=>f (y t)) (λt=>f (M (t.2,(0,lit [],0,0),(17,lit [],0,a.1.a_),O [ke t.1] g))) s else f (M (r.2,(0,lit [],0,0),(17,lit [],0,a.1.a_),O [] N))).bind λ(s:zcu)=>F (λt=>f (y t)) (λt=>(E (q8.mk t.2.2.1.1 t.2.2.1.2.1 t.2.2.1.2.2.1 t.2.2.1.2.2.2 t.2.2.2,t.1)).bind λu=>F (λv=>f (y v)) (λv=>f (M (y (v.2,ke v.1)))) u) s else(B (lit [97,98,111,114,116],p.2)).bind λt=>(if t.1=g then(E (q8.mk 18 (lit []) 0 a.1.a_ (O [] N),t.2)).bind λu=>F (λv=>f (y v)) (λv=>f (M (y (v.2,ke v.1)))) u else(B (lit [102,111,114,107],t.2)).bind λv=>(if v.1=g then(C v.2).bind λw=>F (λz=>f (y z)) (λz=>(L z.2).bind λQ=>F (λR=>f (y R)) (λR=>(D (q8.mk 19 z.1.2.1 z.1.2.2.1 z.1.2.2.2 R.2,a.1.a_)).bind λS=>(E (ke S.1,R.1)).bind λT=>F (λU=>f (y U)) (λU=>f (M (y (U.2,ke U.1)))) T) Q) w else f (M (M (v.2,0,lit [],0,0)))).bind λ(w:zar)=>F (λz=>f (y z)) (λz=>F (λQ=>f (M (y (Q.1,ke Q.2)))) (λQ=>f (M (M Q))) z) w).bind λ(u:zar)=>F (λv=>f (y v)) (λv=>F (λw=>f (M (y (w.1,ke w.2)))) (λw=>f (M (M w))) v) u).bind λ(r:zar)=>F (λs=>f (y s)) (λs=>F (λt=>f (M (y (t.1,ke t.2)))) (λt=>f (M (M t))) s) r).bind λ(o:zar)=>F (λp=>f (y p)) (λp=>F (λr=>f (M (y (r.1,ke r.2)))) (λr=>f (M (M r))) p) o).bind λ(m:zar)=>F (λn=>f (y n)) (λn=>F (λo=>f (M (y (o.1,ke o.2)))) (λo=>f (M (M o))) n) m).bind λ(j:zar)=>F (λl=>f (y l)) (λl=>F (λm=>f (M (y (m.1,ke m.2)))) (λm=>f (M (M m))) l) j).bind λ(e:zar)=>F (λi=>f (y i)) (λi=>F (λj=>f (M (y (j.1,ke j.2)))) (λj=>f (M (M j))) i) e).bind λ(c:zar)=>F (λd=>f (y d)) (λd=>F (λe=>f (M (ke e.2,e.1))) (λe=>((C e.1).bind λi=>F (λj=>f (y j)) (λj=>(P (q8.mk j.1.1 j.1.2.1 j.1.2.2.1 j.1.2.2.2 (O [] N),j.2)).bind λl=>F (λm=>f (y m)) (λm=>(E (q8.mk m.1.1 m.1.2.1 m.1.2.2.1 m.1.2.2.2 m.2.2,m.2.1)).bind λn=>F (λo=>f (y o)) (λo=>f (M (o.2,ke o.1))) n) l) i).bind λ(i:zjW)=>F (λj=>f (y j)) (λj=>f (M (ke j.2,j.1))) i) d) c
def q3t(h:ZQ):YZ:=q9t q14 q11 q1c q85 q6t qb8 (q41 h) h q29 q2i q5w q92
theorem qf5(h:ZQ):@Eq YZ (zlm h) (q3t h):=by delta q3t;rw[q2l,q1g,q2y,qh1,qhk,qjj,<-qe0 h,q78,q7i,qd1,qhl];kernel_rfl
def qe6(A:xk)(B:Zy)(C:zax)(D:Xs)(E:Zy)(G:YZ):xd->U3 (Step xd zcu):=λa=>(E (lit [125],a.1)).bind λb=>if(!b.1)=g then(G b.2).bind λc=>F (λd=>f (Step.done (y d))) (λd=>(zo 64 a.2.2.2 [ke d.1]).bind λe=>f (Step.next (d.2,a.2.1,a.2.2.1,e))) c else f (Step.done (M (b.2,a.2)))
def q8j(A:xk)(B:Zy)(C:zax)(D:Xs)(E:Zy)(G:YZ)(x:q7):U3 Zj:=(A x).bind λa=>((B (lit [123],a.2)).bind λb=>if b.1=g then f (q (8<=b.2.D_),b.2,(0,lit [],0,0),9,lit [],0,a.1.a_) else f (N,b.2,(0,lit [],0,0),9,lit [],0,a.1.a_)).bind λb=>if b.1=g then(C (21,b.2.1)).bind λc=>f (y c) else(D (lit [123],b.2.1)).bind λd=>F (λe=>f (y e)) (λe=>(lpO (qe6 A B C D E G) (q7.mk e.Z_ (U4 (e.D_+1)),b.2.2.1,b.2.2.2,O [] N)).bind λi=>F (λj=>f (y j)) (λj=>f (M (j.2.2.1,q7.mk j.1.Z_ (U4 (j.1.D_ - 1)),j.2.2.2))) i) d
def q8k(h:ZQ):ZQ:=q8j q14 q29 q1q q18 q11 (q3t h)
theorem qh2(h:ZQ):@Eq ZQ (zoR h) (q8k h):=by delta q8k;rw[q2l,q78,q67,q26,q1g,<-qf5 h];kernel_rfl
def q3i:Nat->q7->U3 Zj
 |0=>λ_=>X
 |k+1=>q8k (q3i k)
theorem q8l:∀k,@Eq ZQ (zfr k) (q3i k)
 |0=>rfl
 |k+1=>(qh2 (zfr k)).trans (congrArg q8k (q8l k))
def qcd:ZQ:=q3i 100000
theorem qhm:@Eq ZQ F40 qcd:=q8l 100000
def qg2(A:wA)(B:Xs)(C:Zy)(D:YY)(E:Zy)(G:zax)(H:zjB)(I:xk)(J:ZQ)(x:Uo):U3 Zj:=(A x.2).bind λa=>F (λb=>f (y b)) (λb=>(B (lit [40],b.2)).bind λc=>F (λd=>f (y d)) (λd=>(C (lit [41],d)).bind λe=>(if(!e.1)=g then(D e.2).bind λi=>F (λj=>f (y j)) (λj=>f (M (j.1,(0,lit [],0,0),(6,b.1.2.1,b.1.2.2.1,x.1),j.2))) i else f (M (e.2,(0,lit [],0,0),(6,b.1.2.1,b.1.2.2.1,x.1),O [] N))).bind λ(i:zcu)=>F (λj=>f (y j)) (λj=>(B (lit [41],j.1)).bind λl=>F (λm=>f (y m)) (λm=>(E (lit [45,62],m)).bind λn=>(if n.1=g then(C (lit [38],n.2)).bind λo=>if o.1=g then(G (20,o.2)).bind λp=>f (y p) else(H o.2).bind λr=>F (λs=>f (M (s.2,j.2.1,j.2.2.1,ke s.1,j.2.2.2))) (λs=>f (y s)) r else(I n.2).bind λs=>f (M (s.2,j.2.1,j.2.2.1,q8.mk 8 (lit []) 0 s.1.a_ (O [] N),j.2.2.2))).bind λ(o:z6×q7⊕q7×(Int×U0×Int×Int)×(Int×U0×Int×Int)×q8×Sl q8)=>F (λp=>f (y p)) (λp=>(J p.1).bind λr=>F (λs=>f (y s)) (λs=>(zo 64 p.2.2.2.2 [ke p.2.2.2.1,q8.mk s.1.1 s.1.2.1 s.1.2.2.1 s.1.2.2.2 s.2.2]).bind λt=>f (M (p.2.2.1,s.2.1,t))) r) o) l) i) c) a
def qb9:Uo->U3 Zj:=qg2 q1c q18 q29 q9z q11 q1q qa6 q14 qcd
theorem qjk:qb9=P41.F:=by delta qb9;rw[q2y,q26,q78,qgf,q1g,q67,qfn,q2l,<-qhm];kernel_rfl
def qf6(A:xk)(B:Zy)(C:wA)(D:zax)(x:q7):U3 zvZ:=(A x).bind λa=>(A a.2).bind λb=>(B (lit [111,119,110],b.2)).bind λc=>(if c.1=g then f (c.1,c.2,(0,lit [],0,0),2,a.1.T_,0,b.1.a_) else(B (lit [99,101,108,108],c.2)).bind λd=>f (d.1,d.2,(0,lit [],0,0),2,a.1.T_,0,b.1.a_)).bind λ(d:zjp)=>(if d.1=g then f (y (d.2.1,d.2.2.1,d.2.2.2,O [] N)) else(B (lit [99,111,117,110,116,101,100],d.2.1)).bind λe=>(if e.1=g then f (e.1,e.2,d.2.2) else(B (lit [108,111,99,107],e.2)).bind λi=>(if i.1=g then f (i.1,i.2,d.2.2) else(B (lit [103,117,97,114,100],i.2)).bind λj=>f (j.1,j.2,d.2.2)).bind λ(j:zjp)=>f j).bind λ(i:zjp)=>(if i.1=g then(C i.2.1).bind λj=>F (λl=>f (y l)) (λl=>f (M (l.2,i.2.2.1,i.2.2.2,O [q8.mk l.1.1 l.1.2.1 l.1.2.2.1 l.1.2.2.2 (O [] N)] g))) j else(D (20,i.2.1)).bind λl=>f (y l)).bind λ(j:zcu)=>F (λl=>f (M l)) (λl=>f (y l)) j).bind λ(e:q7×(Int×U0×Int×Int)×(Int×U0×Int×Int)×Sl q8⊕z6×q7)=>F (λi=>f (y (i.2.2.1,i.1,i.2.2.2))) (λi=>f (M i)) e
def qcq:zpU:=qf6 q14 q11 q1c q1q
theorem qic:qcq=P42.F:=by delta qcq;rw[q2l,q1g,q2y,q67];kernel_rfl
def qeb(A:wA)(B:Zy)(C:Xs)(x:q7):U3 Zj:=(A x).bind λa=>F (λb=>f (y b)) (λb=>(B (lit [91],b.2)).bind λc=>(if c.1=g then(A c.2).bind λd=>F (λe=>f (y e)) (λe=>(C (lit [93],e.2)).bind λi=>F (λj=>f (y j)) (λj=>f (M (j,(0,lit [],0,0),(3,b.1.2),O [q8.mk e.1.1 e.1.2.1 e.1.2.2.1 e.1.2.2.2 (O [] N)] g))) i) d else f (M (c.2,(0,lit [],0,0),(3,b.1.2),O [] N))).bind λ(d:zcu)=>F (λe=>f (y e)) (λe=>f (M (e.2.2.1,e.1,e.2.2.2))) d) a
def q90:ZQ:=qeb q1c q11 q18
theorem qhn:q90=P43.F:=by delta q90;rw[q2y,q1g,q26];kernel_rfl
def q8q(A:ZQ)(B:Zy):yu->U3 (Step yu yT):=λa=>(B (lit [44],a.1)).bind λb=>if b.1=g then(A b.2).bind λc=>F (λd=>f (Step.done (y d))) (λd=>(zo 64 a.2 [q8.mk d.1.1 d.1.2.1 d.1.2.2.1 d.1.2.2.2 d.2.2]).bind λe=>f (Step.next (d.2.1,e))) c else f (Step.done (M (b.2,a.2)))
def qcn(A:ZQ)(B:Zy)(x:q7):U3 yT:=(A x).bind λa=>F (λb=>f (y b)) (λb=>(lpO (q8q A B) (b.2.1,O [q8.mk b.1.1 b.1.2.1 b.1.2.2.1 b.1.2.2.2 b.2.2] g)).bind λc=>F (λd=>f (y d)) (λd=>f (M d)) c) a
def q9y:YY:=qcn q90 q11
theorem qgg:q9y=P44.F:=by delta q9y;rw[qhn,q1g];kernel_rfl
def q9x(A:ZQ)(B:Zy):yu->U3 (Step yu yT):=λa=>(B (lit [44],a.1)).bind λb=>if b.1=g then(A b.2).bind λc=>F (λd=>f (Step.done (y d))) (λd=>(zo 64 a.2 [q8.mk d.1.1 d.1.2.1 d.1.2.2.1 d.1.2.2.2 d.2.2]).bind λe=>f (Step.next (d.2.1,e))) c else f (Step.done (M (b.2,a.2)))
def qd9(A:ZQ)(B:Zy)(x:q7):U3 yT:=(A x).bind λa=>F (λb=>f (y b)) (λb=>(lpO (q9x A B) (b.2.1,O [q8.mk b.1.1 b.1.2.1 b.1.2.2.1 b.1.2.2.2 b.2.2] g)).bind λc=>F (λd=>f (y d)) (λd=>f (M d)) c) a
def qa5:YY:=qd9 q4w q11
theorem qgl:qa5=P45.F:=by delta qa5;rw[qfq,q1g];kernel_rfl
def qfr(A:wA)(B:zpU)(C:Zy)(D:YY)(E:Xs)(G:YY)(x:Uo):U3 Zj:=(A x.2).bind λa=>F (λb=>f (y b)) (λb=>(B b.2).bind λc=>F (λd=>(C (lit [123],d.2.1)).bind λe=>(if e.1=g then(D e.2).bind λi=>F (λj=>f (y j)) (λj=>(zo 64 (O [q8.mk d.1.1 d.1.2.1 d.1.2.2.1 d.1.2.2.2 d.2.2] g) j.2.xs).bind λl=>(E (lit [125],j.1)).bind λm=>F (λn=>f (y n)) (λn=>f (M (n,(0,lit [],0,0),(1,b.1.2.1,b.1.2.2.1,x.1),l))) m) i else f (M (e.2,(0,lit [],0,0),(1,b.1.2.1,b.1.2.2.1,x.1),O [q8.mk d.1.1 d.1.2.1 d.1.2.2.1 d.1.2.2.2 d.2.2] g))).bind λ(i:zcu)=>F (λj=>f (y j)) (λj=>(C (lit [119,104,101,114,101],j.1)).bind λl=>(if l.1=g then(G l.2).bind λm=>F (λn=>f (y n)) (λn=>(zo 64 j.2.2.2 n.2.xs).bind λo=>f (M (n.1,j.2.1,j.2.2.1,o))) m else f (M (l.2,j.2))).bind λ(m:zcu)=>F (λn=>f (y n)) (λn=>(E (lit [59],n.1)).bind λo=>F (λp=>f (y p)) (λp=>f (M (n.2.2.1,p,n.2.2.2))) o) m) i) (λd=>f (y d)) c) a
def qar:Uo->U3 Zj:=qfr q1c qcq q11 q9y q18 qa5
theorem qj1:qar=P46.F:=by delta qar;rw[q2y,qic,q1g,qgg,q26,qgl];kernel_rfl
def qce(A:X6):zqI->U3 (Step zqI Int):=λa=>if q (a.2.2.2 < a.2.2.1)=g then(za a.2.1 a.2.2.2).bind λb=>(A (ke b)).bind λc=>f (Step.next (U4 (a.1+c),a.2.1,a.2.2.1,U4 (a.2.2.2+1))) else f (Step.done a.1)
def qdw(A:X6)(x:q8):GX:=(lpO (qce A) (1,x.K_,x.K_.len,0)).bind λa=>f a
def qdx(h:X6):X6:=qdw h
theorem qkg(h:X6):@Eq X6 (zoT h) (qdx h):=by kernel_rfl
def q5x:Nat->q8->U3 Int
 |0=>λ_=>X
 |k+1=>qdx (q5x k)
theorem qho:∀k,@Eq X6 (zln k) (q5x k)
 |0=>rfl
 |k+1=>(qkg (zln k)).trans (congrArg qdx (qho k))
def qek:X6:=q5x 100000
theorem qkh:@Eq X6 F47 qek:=qho 100000
def qf7(x:zaq):U3 xf:=f ((0,lit [],0,0),x.1.1,x.1.2,x.2.2.2.2)
def qcs:zaq->U3 xf:=qf7
theorem qid:@Eq ((zaq)->U3 xf) F48 qcs:=by kernel_rfl
def qe1(x:xf):U3 xf:=f x
def qbs:xf->U3 xf:=qe1
theorem qh4:@Eq ((xf)->U3 xf) F49 qbs:=by kernel_rfl
def q6a(A:zjE)(B:xk)(C:Zy)(D:zjl)(E:Xs)(G:zjl)(H:zz3)(I:X6)(J:zz7):zek->U3 (Step zek zz5):=λa=>(B a.2.2.2.1).bind λb=>if q (b.1.k_≠0)=g then((B b.2).bind λc=>(C (lit [102,110],c.2)).bind λd=>if d.1=g then((D (c.1.a_,d.2)).bind λe=>F (λi=>f (y (i.1,a.1,a.2.1,a.2.2.1,a.2.2.2.2))) (λi=>(zo 64 a.2.2.2.2 [q8.mk 0 (lit []) 0 0 (O [] N)]).bind λj=>(za j (Sl.len a.2.2.2.2)).bind λl=>yd ((za j (Sl.len a.2.2.2.2)).bind λm=>f (M (a.1,a.2.1,a.2.2.1,i.2.1,j.set (Sl.len a.2.2.2.2) (q8.mk i.1.1 i.1.2.1 i.1.2.2.1 i.1.2.2.2 i.2.2)))) ((za j (Sl.len a.2.2.2.2)).bind λm=>f (M (a.1,a.2.1,a.2.2.1,i.2.1,j.set (Sl.len a.2.2.2.2) (q8.mk i.1.1 i.1.2.1 i.1.2.2.1 i.1.2.2.2 i.2.2))))) e).bind λe=>F (λi=>f (y i)) (λi=>f (M i)) e else(E (lit [116,121,112,101],d.2)).bind λi=>F (λj=>f (y (j.1,a.1,a.2.1,a.2.2.1,a.2.2.2.2))) (λj=>((G (c.1.a_,j)).bind λl=>F (λm=>f (y (m.1,a.1,a.2.1,a.2.2.1,a.2.2.2.2))) (λm=>(zo 64 a.2.2.2.2 [q8.mk 0 (lit []) 0 0 (O [] N)]).bind λn=>(za n (Sl.len a.2.2.2.2)).bind λo=>yd ((za n (Sl.len a.2.2.2.2)).bind λp=>f (M (a.1,a.2.1,a.2.2.1,m.2.1,n.set (Sl.len a.2.2.2.2) (q8.mk m.1.1 m.1.2.1 m.1.2.2.1 m.1.2.2.2 m.2.2)))) ((za n (Sl.len a.2.2.2.2)).bind λp=>f (M (a.1,a.2.1,a.2.2.1,m.2.1,n.set (Sl.len a.2.2.2.2) (q8.mk m.1.1 m.1.2.1 m.1.2.2.1 m.1.2.2.2 m.2.2))))) l).bind λl=>F (λm=>f (y m)) (λm=>f (M m)) l) i).bind λc=>F (λd=>f (Step.done (y d))) (λd=>f (Step.next d)) c else f (Step.done (M (a.1,a.2.1,a.2.2.1,a.2.2.2.2)))
def qgy(A:zjE)(B:xk)(C:Zy)(D:zjl)(E:Xs)(G:zjl)(H:zz3)(I:X6)(J:zz7)(x:Zr):U3 (q8×z6):=(A x).bind λa=>if q (a.2.1≠0)=g then f (q8.mk 0 (lit []) 0 0 (O [] N),a.1,a.2.1) else(lpO (q6a A B C D E G H I J) ((0,lit [],0,0),a.1,a.2.1,q7.mk a.2.2 0,O [] N)).bind λb=>F (λc=>(H c).bind λd=>f (q8.mk d.1.1 d.1.2.1 d.1.2.2.1 d.1.2.2.2 (O [] N),d.2.1,d.2.2.1)) (λc=>(I (q8.mk c.1.1 c.1.2.1 c.1.2.2.1 c.1.2.2.2 c.2.2.2)).bind λd=>if q (4096 < d)=g then(J ((0,lit [],0,0),0,22,O [] N)).bind λe=>f (q8.mk e.1.1 e.1.2.1 e.1.2.2.1 e.1.2.2.2 e.2.2.2,e.2.1,e.2.2.1) else(J (c.1,0,0,c.2.2.2)).bind λi=>f (q8.mk i.1.1 i.1.2.1 i.1.2.2.1 i.1.2.2.2 i.2.2.2,i.2.1,i.2.2.1)) b
def q5y:zet:=qgy qcb q14 q11 qb9 q18 qar qcs qek qbs
theorem qhp:@Eq zet F50 q5y:=by delta q5y;rw[qkq,q2l,q1g,qjk,q26,qj1,<-qid,<-qkh,<-qh4];kernel_rfl
def q83:zgZ->U3 (Step zgZ zkk):=λa=>if q (a.2.2.1 < a.2.1)=g then(za a.1 a.2.2.1).bind λb=>(if q (b.k_=3)=g then(zo 64 a.2.2.2.1 [ke b]).bind λc=>f (a.1,a.2.1,a.2.2.1,c,a.2.2.2.2) else(if q (b.k_=4)=g then(zo 64 a.2.2.2.2 [ke b]).bind λd=>f (a.1,a.2.1,a.2.2.1,a.2.2.2.1,d) else f a).bind λd=>f d).bind λc=>f (Step.next (c.1,c.2.1,U4 (c.2.2.1+1),c.2.2.2)) else f (Step.done a.2.2.2)
def qg3(x:q8):U3 zkk:=(lpO q83 (x.K_,x.K_.len,0,O [] N,O [] N)).bind λa=>f a
def qa1:zez:=qg3
theorem qki:qa1=P51.F:=by kernel_rfl
def qch(x:zkf):U3 Z5:=f (q (x.1.n_=x.2),x.2)
def q7f:zkf->U3 Z5:=qch
theorem qie:q7f=P52.F:=by kernel_rfl
def qfz(A:zwp):zqB->U3 (Step zqB zaA):=λa=>if q (a.2.2.1 < a.2.1)=g then(za a.1 a.2.2.1).bind λb=>(A (b,a.2.2.2)).bind λc=>if c.1=g then f (Step.done (y (a.2.2.1,c.2))) else f (Step.next (a.1,a.2.1,U4 (a.2.2.1+1),c.2)) else f (Step.done (M a.2.2.2))
def qdd(A:zwp)(x:zcF):U3 yy:=(lpO (qfz A) (x.1,Sl.len x.1,0,x.2)).bind λa=>F (λb=>f b) (λb=>f (-1,b)) a
def qbm:zcF->U3 yy:=qdd q7f
theorem qjl:qbm=P53.F:=by delta qbm;rw[qie];kernel_rfl
def qde(A:zcF->U3 yy)(x:zcF):GX:=(A x).bind λa=>f a.1
def q2a:zcF->GX:=qde qbm
theorem qbo:q2a=P54.F:=by delta q2a;rw[qjl];kernel_rfl
def qgd(x:zkd):U3 Y0:=if(!x.1)=g then f (y (x.2.1.a_,x.2.2)) else f (M ())
def q6k:zkd->U3 Y0:=qgd
theorem qgs:q6k=P55.F:=by kernel_rfl
def qep(x:zaD):U3 Z5:=f (q (x.1.T_=x.2),x.2)
def qba:zaD->U3 Z5:=qep
theorem qke:qba=P56.F:=by kernel_rfl
def qet(A:zjy):zex->U3 (Step zex zaA):=λa=>if q (a.2.2.1 < a.2.1)=g then(za a.1 a.2.2.1).bind λb=>(A (ke b,a.2.2.2)).bind λc=>if c.1=g then f (Step.done (y (a.2.2.1,c.2))) else f (Step.next (a.1,a.2.1,U4 (a.2.2.1+1),c.2)) else f (Step.done (M a.2.2.2))
def qci(A:zjy)(x:X5):U3 yy:=(lpO (qet A) (x.1,Sl.len x.1,0,x.2)).bind λa=>F (λb=>f b) (λb=>f (-1,b)) a
def qah:X5->U3 yy:=qci qba
theorem qif:qah=P57.F:=by delta qah;rw[qke];kernel_rfl
def qb2(A:zwl)(x:X5):U3 Z5:=(A x).bind λa=>f (q (0<=a.1),a.2)
def q8h:X5->U3 Z5:=qb2 qah
theorem qh5:q8h=P58.F:=by delta q8h;rw[qif];kernel_rfl
def qg4(A:X5->U3 Z5)(x:X5):Uf:=(A x).bind λa=>f a.1
def qa0:X5->Uf:=qg4 q8h
theorem qkj:qa0=P59.F:=by delta qa0;rw[qh5];kernel_rfl
def q87(x:zaD):U3 Z5:=(if q (x.1.T_=x.2)=g then f (q (x.1.K_.len=0),x.2) else f (N,x.2)).bind λa=>f a
def q5l:zaD->U3 Z5:=q87
theorem qhq:q5l=P60.F:=by kernel_rfl
def qe7(A:zjy):zex->U3 (Step zex zaA):=λa=>if q (a.2.2.1 < a.2.1)=g then(za a.1 a.2.2.1).bind λb=>(A (ke b,a.2.2.2)).bind λc=>if c.1=g then f (Step.done (y (a.2.2.1,c.2))) else f (Step.next (a.1,a.2.1,U4 (a.2.2.1+1),c.2)) else f (Step.done (M a.2.2.2))
def qbx(A:zjy)(x:X5):U3 yy:=(lpO (qe7 A) (x.1,Sl.len x.1,0,x.2)).bind λa=>F (λb=>f b) (λb=>f (-1,b)) a
def q9s:X5->U3 yy:=qbx q5l
theorem qhr:q9s=P61.F:=by delta q9s;rw[qhq];kernel_rfl
def qcw(A:zwl)(x:zqL):GX:=(A (x.2.2,x.2.1)).bind λa=>f a.1
def q37:zqL->GX:=qcw q9s
theorem qdh:q37=P62.F:=by delta q37;rw[qhr];kernel_rfl
def q1m:zqs->U3 (Step zqs zeI):=λa=>if q (a.2.2.2 < a.2.2.1)=g then(za a.1 a.2.2.2).bind λb=>if q (a.2.1=b)=g then f (Step.done (y a.2.2.2)) else f (Step.next (a.1,a.2.1,a.2.2.1,U4 (a.2.2.2+1))) else f (Step.done (M ()))
def q7o(x:zjX):GX:=(lpO q1m (x.1,x.2,Sl.len x.1,0)).bind λa=>F (λb=>f b) (λb=>f (-1)) a
def q2p:zjX->GX:=q7o
theorem qcl:q2p=P63.F:=by kernel_rfl
def qau(A:zwx)(B:zes)(C:zeo)(D:zcB)(x:zpX):U3 zaR:=(A (O [lit [111,119,110],lit [99,101,108,108],lit [99,111,117,110,116,101,100],lit [108,111,99,107],lit [103,117,97,114,100]] g,x.2.1.T_)).bind λa=>(if q (a=2)=g then f (x.1,x.2.2.1,x.2.2.2.1,a,q (a=2),(x.2.2.2.2.1.1,a,x.2.2.2.2.1.2.2),x.2.2.2.2.2.1,x.2.2.2.2.2.2,ke x.2.1) else f (x.1,x.2.2.1,x.2.2.2.1,a,q (a=3),(x.2.2.2.2.1.1,a,x.2.2.2.2.1.2.2),x.2.2.2.2.2.1,x.2.2.2.2.2.2,ke x.2.1)).bind λb=>(if b.2.2.2.2.1=g then(za b.2.2.2.2.2.2.2.2.K_ 0).bind λc=>(B (qa.mk b.2.2.2.2.2.1.1 b.2.2.2.2.2.1.2.1 b.2.2.2.2.2.1.2.2 b.2.2.2.2.2.2.1 b.2.2.2.2.2.2.2.1,c.T_,b.2.1)).bind λd=>(C (q (0<=d),ke b.2.2.2.2.2.2.2.2,32)).bind λe=>F (λi=>f (y (i,(b.2.2.2.2.2.1.1,b.2.2.2.2.2.1.2.1,d),b.2.2.2.2.2.2.1,b.2.2.2.2.2.2.2.1))) (λi=>f (M ((b.2.2.2.2.2.1.1,b.2.2.2.2.2.1.2.1,d),b.2.2.2.2.2.2.1,b.2.2.2.2.2.2.2.1))) e else(if q (b.2.2.2.1=4)=g then(za b.2.2.2.2.2.2.2.2.K_ 0).bind λi=>(D (b.1,i.T_)).bind λj=>(if q (0<=j)=g then(za b.1 j).bind λl=>(C (q (l.S_=3),ke b.2.2.2.2.2.2.2.2,31)).bind λm=>F (λn=>f (y (n,(b.2.2.2.2.2.1.1,b.2.2.2.2.2.1.2.1,j),b.2.2.2.2.2.2.1,b.2.2.2.2.2.2.2.1))) (λn=>f (M (b.2.1,b.2.2.1,(b.2.2.2.2.2.1.1,b.2.2.2.2.2.1.2.1,j),b.2.2.2.2.2.2.1,b.2.2.2.2.2.2.2.1,ke b.2.2.2.2.2.2.2.2))) m else(C (N,ke b.2.2.2.2.2.2.2.2,31)).bind λn=>F (λo=>f (y (o,(b.2.2.2.2.2.1.1,b.2.2.2.2.2.1.2.1,j),b.2.2.2.2.2.2.1,b.2.2.2.2.2.2.2.1))) (λo=>f (M (b.2.1,b.2.2.1,(b.2.2.2.2.2.1.1,b.2.2.2.2.2.1.2.1,j),b.2.2.2.2.2.2.1,b.2.2.2.2.2.2.2.1,ke b.2.2.2.2.2.2.2.2))) n).bind λl=>F (λm=>f (y m)) (λm=>(C (q (U4 (Sl.len m.1+Sl.len m.2.1)=0),ke m.2.2.2.2.2,32)).bind λn=>F (λo=>f (y (o,m.2.2.1,m.2.2.2.1,m.2.2.2.2.1))) (λo=>f (M (m.2.2.1,m.2.2.2.1,m.2.2.2.2.1))) n) l else f (M (b.2.2.2.2.2.1,b.2.2.2.2.2.2.1,b.2.2.2.2.2.2.2.1))).bind λi=>F (λj=>f (y j)) (λj=>f (M j)) i).bind λc=>F (λd=>f (y d)) (λd=>f (M d)) c
def q4o:zpX->U3 zaR:=qau q2p q37 q6k q2a
theorem qjm:q4o=P64.F:=by delta q4o;rw[qcl,qdh,qgs,qbo];kernel_rfl
def qds(x:zay):U3 (Sl qw):=(if q (x.1=lit [60])=g then f (y (O [qw.mk x.2.1 x.2.2.1 (U4 (U4 (x.2.2.2.2 - x.2.2.2.1) - 1))] g)) else(if q (x.1=lit [60,61])=g then f (y (O [qw.mk x.2.1 x.2.2.1 (U4 (x.2.2.2.2 - x.2.2.2.1))] g)) else if q (x.1=lit [61,61])=g then f (y (O [qw.mk x.2.1 x.2.2.1 (U4 (x.2.2.2.2 - x.2.2.2.1)),qw.mk x.2.2.1 x.2.1 (U4 (x.2.2.2.1 - x.2.2.2.2))] g)) else f (M ())).bind λa=>F (λb=>f (y b)) (λb=>f (M ())) a).bind λa=>F (λb=>f b) (λb=>f (O [] N)) a
def qa2:zay->U3 (Sl qw):=qds
theorem qkk:qa2=P65.F:=by kernel_rfl
def q8s(A:zes)(B:zeo)(C:zwb):zgR->U3 (Step zgR zz6):=λa=>if q (a.2.2.2.1 < a.2.2.1)=g then((za a.2.1 a.2.2.2.1).bind λb=>if q (b.T_=lit [])=g then f (y (a.1,a.2.1,a.2.2.1,a.2.2.2.1,a.2.2.2.2.1,a.2.2.2.2.2.1,a.2.2.2.2.2.2.1,ke a.2.2.2.2.2.2.2.1,a.2.2.2.2.2.2.2.2)) else(A (qa.mk a.2.2.2.2.1.1 a.2.2.2.2.1.2.1 a.2.2.2.2.1.2.2 a.2.2.2.2.2.1 a.2.2.2.2.2.2.1,b.T_,a.1)).bind λc=>(if q (0<=c)=g then if q (a.2.2.2.2.1.2.1=2)=g then(B (!q (c=a.2.2.2.2.1.2.2),ke a.2.2.2.2.2.2.2.1,33)).bind λd=>F (λe=>f (y (e,a.2.2.2.2.1,a.2.2.2.2.2.1,a.2.2.2.2.2.2.1))) (λe=>f (M (a.1,a.2.2.2.1,c,a.2.1,a.2.2.1,a.2.2.2.1,a.2.2.2.2.1,a.2.2.2.2.2.1,a.2.2.2.2.2.2.1,ke a.2.2.2.2.2.2.2.1,a.2.2.2.2.2.2.2.2))) d else if q (a.2.2.2.2.1.2.1=3)=g then(B (!q (c=a.2.2.2.2.1.2.2),ke a.2.2.2.2.2.2.2.1,33)).bind λe=>F (λi=>f (y (i,a.2.2.2.2.1,a.2.2.2.2.2.1,a.2.2.2.2.2.2.1))) (λi=>f (M (a.1,a.2.2.2.1,c,a.2.1,a.2.2.1,a.2.2.2.1,a.2.2.2.2.1,a.2.2.2.2.2.1,a.2.2.2.2.2.2.1,ke a.2.2.2.2.2.2.2.1,a.2.2.2.2.2.2.2.2))) e else(B (!N,ke a.2.2.2.2.2.2.2.1,33)).bind λi=>F (λj=>f (y (j,a.2.2.2.2.1,a.2.2.2.2.2.1,a.2.2.2.2.2.2.1))) (λj=>f (M (a.1,a.2.2.2.1,c,a.2.1,a.2.2.1,a.2.2.2.1,a.2.2.2.2.1,a.2.2.2.2.2.1,a.2.2.2.2.2.2.1,ke a.2.2.2.2.2.2.2.1,a.2.2.2.2.2.2.2.2))) i else(B (N,ke a.2.2.2.2.2.2.2.1,33)).bind λj=>F (λl=>f (y (l,a.2.2.2.2.1,a.2.2.2.2.2.1,a.2.2.2.2.2.2.1))) (λl=>f (M (a.1,a.2.2.2.1,c,a.2.1,a.2.2.1,a.2.2.2.1,a.2.2.2.2.1,a.2.2.2.2.2.1,a.2.2.2.2.2.2.1,ke a.2.2.2.2.2.2.2.1,a.2.2.2.2.2.2.2.2))) j).bind λd=>F (λe=>f (M e)) (λe=>(bif q (e.2.1=1) then f (e.1,e.2.2.2.1,e.2.2.2.2.1,e.2.2.2.2.2.1,e.2.2.2.2.2.2.1,e.2.2.2.2.2.2.2.1,e.2.2.2.2.2.2.2.2.1,ke e.2.2.2.2.2.2.2.2.2.1,e.2.2.2.2.2.2.2.2.2.2.1,U4 (e.2.2.1+1)) else bif q (e.2.1=0) then f (e.1,e.2.2.2.1,e.2.2.2.2.1,e.2.2.2.2.2.1,e.2.2.2.2.2.2.1,e.2.2.2.2.2.2.2.1,e.2.2.2.2.2.2.2.2.1,ke e.2.2.2.2.2.2.2.2.2.1,U4 (e.2.2.1+1),e.2.2.2.2.2.2.2.2.2.2.2) else X).bind λi=>f (y (i.1,i.2.1,i.2.2.1,i.2.2.2.1,i.2.2.2.2.1,i.2.2.2.2.2.1,i.2.2.2.2.2.2.1,ke i.2.2.2.2.2.2.2.1,i.2.2.2.2.2.2.2.2))) d).bind λb=>F (λc=>f (Step.next (c.1,c.2.1,c.2.2.1,U4 (c.2.2.2.1+1),c.2.2.2.2.1,c.2.2.2.2.2.1,c.2.2.2.2.2.2.1,ke c.2.2.2.2.2.2.2.1,c.2.2.2.2.2.2.2.2))) (λc=>f (Step.done (y c))) b else f (Step.done (M (a.2.2.2.2.1,a.2.2.2.2.2.1,a.2.2.2.2.2.2.1,ke a.2.2.2.2.2.2.2.1,a.2.2.2.2.2.2.2.2)))
def qbb(A:zes)(B:zeo)(C:zwb)(x:zp9):U3 zaR:=(lpO (q8s A B C) (x.2.1,x.1.K_,x.1.K_.len,0,x.2.2.1,x.2.2.2.1,x.2.2.2.2,ke x.1,0,0)).bind λa=>F (λb=>f (y b)) (λb=>(za b.2.2.2.1.K_ 0).bind λc=>(za b.2.2.2.1.K_ 1).bind λd=>(C (b.2.2.2.1.T_,b.2.2.2.2.1,b.2.2.2.2.2,c.N_,d.N_)).bind λe=>(zo 24 b.2.2.1 e.xs).bind λi=>f (M (b.1,b.2.1,i))) a
def q5f:zp9->U3 zaR:=qbb q37 q6k qa2
theorem qjw:q5f=P66.F:=by delta q5f;rw[qdh,qgs,qkk];kernel_rfl
def q8t(A:zez)(B:zcB)(C:zeo)(D:zqA)(E:zes)(G:tA3)(H:zuP):zpL->U3 (Step zpL zAc):=λa=>if q (a.2.2.2.2.1 < a.2.2.2.1)=g then((za a.2.2.1 a.2.2.2.2.1).bind λb=>(z8 a.2.1 0 a.2.2.2.2.1).bind λc=>(D (c,b.T_)).bind λd=>(C (!d,ke b,30)).bind λe=>F (λi=>f (y i)) (λi=>(if q (0 < b.K_.len)=g then(za b.K_ 0).bind λj=>(E (qa.mk a.2.2.2.2.2.2.2.2.1.1 a.2.2.2.2.2.2.2.2.1.2.1 a.2.2.2.2.2.2.2.2.1.2.2 a.2.2.2.2.2.2.2.2.2 (O [] N),j.T_,a.2.1)).bind λl=>((za a.2.2.2.2.2.1.K_ 0).bind λm=>if q (m.T_=lit [111,119,110])=g then(C (q (0<=l),ke b,32)).bind λn=>F (λo=>f (y o)) (λo=>f (M (a.1,a.2.1,l,a.2.2.1,a.2.2.2.1,a.2.2.2.2.1,ke a.2.2.2.2.2.1,a.2.2.2.2.2.2.1,a.2.2.2.2.2.2.2.1,a.2.2.2.2.2.2.2.2.1,ke b,a.2.2.2.2.2.2.2.2.2))) n else(C (N,ke b,32)).bind λo=>F (λp=>f (y p)) (λp=>f (M (a.1,a.2.1,l,a.2.2.1,a.2.2.2.1,a.2.2.2.2.1,ke a.2.2.2.2.2.1,a.2.2.2.2.2.2.1,a.2.2.2.2.2.2.2.1,a.2.2.2.2.2.2.2.2.1,ke b,a.2.2.2.2.2.2.2.2.2))) o).bind λm=>F (λn=>f (y n)) (λn=>f (M (n.1,n.2.1,n.2.2.1,n.2.2.2.1,n.2.2.2.2.1,n.2.2.2.2.2.1,ke n.2.2.2.2.2.2.1,n.2.2.2.2.2.2.2.1,n.2.2.2.2.2.2.2.2.1,n.2.2.2.2.2.2.2.2.2.1,ke n.2.2.2.2.2.2.2.2.2.2.1,n.2.2.2.2.2.2.2.2.2.2.2))) m else f (M (a.1,a.2.1, -1,a.2.2.1,a.2.2.2.1,a.2.2.2.2.1,ke a.2.2.2.2.2.1,a.2.2.2.2.2.2.1,a.2.2.2.2.2.2.2.1,a.2.2.2.2.2.2.2.2.1,ke b,a.2.2.2.2.2.2.2.2.2))).bind λj=>F (λl=>f (y l)) (λl=>(zo 24 l.2.2.2.2.2.2.2.2.2.2.2 [qt.mk l.2.2.2.2.2.2.2.2.2.2.1.T_ l.2.2.1]).bind λm=>f (M (l.1,l.2.1,l.2.2.2.1,l.2.2.2.2.1,l.2.2.2.2.2.1,ke l.2.2.2.2.2.2.1,l.2.2.2.2.2.2.2.1,l.2.2.2.2.2.2.2.2.1,l.2.2.2.2.2.2.2.2.2.1,m))) j) e).bind λb=>F (λc=>f (Step.done (y c))) (λc=>f (Step.next (c.1,c.2.1,c.2.2.1,c.2.2.2.1,U4 (c.2.2.2.2.1+1),ke c.2.2.2.2.2.1,c.2.2.2.2.2.2))) b else f (Step.done (M (a.1,a.2.1,ke a.2.2.2.2.2.1,a.2.2.2.2.2.2)))
def q8u(A:zez)(B:zcB)(C:zeo)(D:zqA)(E:zes)(G:tA3)(H:zuP):zvf->U3 (Step zvf zvO):=λa=>if q (a.2.2.2.1 < a.2.2.1)=g then(za a.2.1 a.2.2.2.1).bind λb=>(H (ke b,a.1,a.2.2.2.2.2)).bind λc=>F (λd=>f (Step.done (y d.1))) (λd=>f (Step.next (a.1,a.2.1,a.2.2.1,U4 (a.2.2.2.1+1),a.2.2.2.2.1,d))) c else f (Step.done (M a.2.2.2.2))
def qbc(A:zez)(B:zcB)(C:zeo)(D:zqA)(E:zes)(G:tA3)(H:zuP)(x:Ub×q8):U3 zgV:=(A (ke x.2)).bind λa=>(B (x.1,x.2.T_)).bind λb=>(C (q (b < 0),ke x.2,30)).bind λc=>F (λd=>f (y d)) (λd=>(C (q (Sl.len a.1<=8),ke x.2,22)).bind λe=>F (λi=>f (y i)) (λi=>(lpO (q8t A B C D E G H) (x.1,a.1,a.1,Sl.len a.1,0,ke x.2,(lit [],0,0),a.2,(x.2.T_,0,0),O [] N)).bind λj=>F (λl=>f (y l)) (λl=>(za l.2.2.1.K_ 0).bind λm=>(G (l.1,ke m,l.2.1,l.2.2.2.2.1,l.2.2.2.2.2.1,l.2.2.2.2.2.2,O [] N)).bind λn=>F (λo=>f (y o.1)) (λo=>(lpO (q8u A B C D E G H) (l.2.1,l.2.2.2.2.1,Sl.len l.2.2.2.2.1,0,l.2.2.2.1,o)).bind λp=>F (λr=>f (y r)) (λr=>f (M r.2)) p) n) j) e) c
def q69:Ub×q8->U3 zgV:=qbc qa1 q2a q6k qa0 q37 q4o q5f
theorem qjx:q69=P67.F:=by delta q69;rw[qki,qbo,qgs,qkj,qdh,qjm,qjw];kernel_rfl
def qcx(x:zjL):U3 xl:=f (x.1.1,x.1.2,x.2.2.2)
def q7z:zjL->U3 xl:=qcx
theorem qj2:@Eq ((zjL)->U3 xl) F68 q7z:=by kernel_rfl
def qby(x:xl):U3 xl:=f x
def q6z:xl->U3 xl:=qby
theorem qhs:@Eq ((xl)->U3 xl) F69 q6z:=by kernel_rfl
def qcf(A:zvQ)(B:zv1)(C:zwi):zgX->U3 (Step zgX zv0):=λa=>if q (a.2.2.1 < a.2.1)=g then(za a.1 a.2.2.1).bind λb=>(if q (b.k_=1)=g then(yd ((A (a.2.2.2.2.2.2,ke b)).bind λc=>F (λd=>f (y (d,ke a.2.2.2.1,a.2.2.2.2))) (λd=>(zo 80 a.2.2.2.2.2.2 [qa.mk d.1.1 d.1.2.1 d.1.2.2 d.2.1 d.2.2]).bind λe=>f (M (a.1,a.2.1,a.2.2.1,ke a.2.2.2.1,a.2.2.2.2.1,a.2.2.2.2.2.1,e))) c) ((A (a.2.2.2.2.2.2,ke b)).bind λc=>F (λd=>f (y (d,ke a.2.2.2.1,a.2.2.2.2))) (λd=>yd ((zo 80 a.2.2.2.2.2.2 [qa.mk d.1.1 d.1.2.1 d.1.2.2 d.2.1 d.2.2]).bind λe=>f (M (a.1,a.2.1,a.2.2.1,ke a.2.2.2.1,a.2.2.2.2.1,a.2.2.2.2.2.1,e))) ((zo 80 a.2.2.2.2.2.2 [qa.mk d.1.1 d.1.2.1 d.1.2.2 d.2.1 d.2.2]).bind λe=>f (M (a.1,a.2.1,a.2.2.1,ke a.2.2.2.1,a.2.2.2.2.1,a.2.2.2.2.2.1,e)))) c)).bind λc=>F (λd=>f (y (d.1,ke d.2.1,d.2.2))) (λd=>f (M (d.1,d.2.1,d.2.2.1,ke d.2.2.2.1,d.2.2.2.2))) c else f (M (a.1,a.2.1,a.2.2.1,ke a.2.2.2.1,a.2.2.2.2))).bind λc=>F (λd=>f (Step.done (y (d.1,ke d.2.1,d.2.2)))) (λd=>f (Step.next (d.1,d.2.1,U4 (d.2.2.1+1),ke d.2.2.2.1,d.2.2.2.2))) c else f (Step.done (M (ke a.2.2.2.1,a.2.2.2.2)))
def qdt(A:zvQ)(B:zv1)(C:zwi)(x:q8):U3 xl:=(lpO (qcf A B C) (x.K_,x.K_.len,0,ke x,0,0,O [] N)).bind λa=>F (λb=>(B (b.1,b.2.2)).bind λc=>f (c.1,c.2.1,O [] N)) (λb=>(C (0,0,b.2.2.2)).bind λc=>f c) a
def q6q:zjN:=qdt q69 q7z q6z
theorem qkl:@Eq zjN F70 q6q:=by delta q6q;rw[qjx,<-qj2,<-qhs];kernel_rfl
def qfh(A:zwx)(B:zcB)(x:v7):U3 (qj×Int):=(A (O [lit [],lit [105,110,116],lit [111,119,110],lit [38],lit [38,109,117,116]] g,x.1.T_)).bind λa=>(if q (0 < x.1.K_.len)=g then(za x.1.K_ 0).bind λb=>(B (x.2,b.T_)).bind λc=>if q (c < 0)=g then f (y (31,qj.mk (lit []) 0 0)) else f (M (qj.mk (lit []) 0 0,qj.mk (lit []) a c)) else f (M (qj.mk (lit []) 0 0,qj.mk (lit []) a 0))).bind λb=>F (λc=>f (c.2,c.1)) (λc=>f (c.2,0)) b
def qak:v7->U3 (qj×Int):=qfh q2p q2a
theorem qkx:qak=P71.F:=by delta qak;rw[qcl,qbo];kernel_rfl
def qge(x:qj×qj):U3 Wz:=f (q (x.1.n_=x.2.n_),x.2)
def qam:qj×qj->U3 Wz:=qge
theorem qkr:qam=P72.F:=by kernel_rfl
def qbd(A:zjU):zeD->U3 (Step zeD zjR):=λa=>if q (a.2.1 < a.1)=g then(za a.2.2.1 a.2.1).bind λb=>(za a.2.2.1 a.2.1).bind λc=>(A (c,a.2.2.2)).bind λd=>if d.1=g then f (Step.done (y (a.2.1,a.2.2.1,d.2))) else f (Step.next (a.1,U4 (a.2.1+1),a.2.2.1,d.2)) else f (Step.done (M a.2.2))
def qdo(A:zjU)(x:Xu):U3 vi:=(lpO (qbd A) (Sl.len x.1,0,x)).bind λa=>F (λb=>f b) (λb=>f (-1,b)) a
def qc8:Xu->U3 vi:=qdo qam
theorem qjy:qc8=P73.F:=by delta qc8;rw[qkr];kernel_rfl
def qcy(A:zwv)(x:Xu):U3 zaB:=(A x).bind λa=>f (q (0<=a.1),a.2)
def q5h:Xu->U3 zaB:=qcy qc8
theorem qj3:q5h=P74.F:=by delta q5h;rw[qjy];kernel_rfl
def qdu(x:zeJ):Uf:=(if q (1 < x.1.M_)=g then(za x.2 x.1.t_).bind λa=>f (q (a.S_≠0)) else f N).bind λa=>f a
def q7m:zeJ->Uf:=qdu
theorem qkm:q7m=P75.F:=by kernel_rfl
def qel(x:qj×qj):U3 Wz:=(if q (1 < x.1.M_)=g then f (q (x.1.t_=x.2.t_),x.2) else f (N,x.2)).bind λa=>f a
def q8v:qj×qj->U3 Wz:=qel
theorem qks:q8v=P76.F:=by kernel_rfl
def qbe(A:zjU):zeD->U3 (Step zeD zjR):=λa=>if q (a.2.1 < a.1)=g then(za a.2.2.1 a.2.1).bind λb=>(za a.2.2.1 a.2.1).bind λc=>(A (c,a.2.2.2)).bind λd=>if d.1=g then f (Step.done (y (a.2.1,a.2.2.1,d.2))) else f (Step.next (a.1,U4 (a.2.1+1),a.2.2.1,d.2)) else f (Step.done (M a.2.2))
def qdp(A:zjU)(x:Xu):U3 vi:=(lpO (qbe A) (Sl.len x.1,0,x)).bind λa=>F (λb=>f b) (λb=>f (-1,b)) a
def qc9:Xu->U3 vi:=qdp q8v
theorem qjz:qc9=P77.F:=by delta qc9;rw[qks];kernel_rfl
def qcz(A:zwv)(x:Xu):U3 zaB:=(A x).bind λa=>f (q (0<=a.1),a.2)
def q5i:Xu->U3 zaB:=qcz qc9
theorem qj4:q5i=P78.F:=by delta q5i;rw[qjz];kernel_rfl
def qda(A:zwB)(B:zjD)(C:zeJ->Uf)(D:zjD):zuZ->U3 (Step zuZ zzV):=λa=>if q (a.2.2.2.2.1 < a.2.2.2.1)=g then(za a.2.2.1 a.2.2.2.2.1).bind λb=>(za b.K_ 0).bind λc=>(A (ke c,a.1)).bind λd=>(B (a.2.2.2.2.2.2.2.2,qj.mk b.T_ d.1.M_ d.1.t_)).bind λe=>(if e.1=g then f (y (b.a_,30,lit [],lit [],0,0)) else(if q (d.2≠0)=g then(za b.K_ 0).bind λi=>f (y (i.a_,d.2,lit [],lit [],0,0)) else((C (e.2.2,a.1)).bind λj=>if j=g then(D e.2).bind λl=>f (a.1,a.2.1,a.2.2.1,a.2.2.2.1,a.2.2.2.2.1,l.1,ke a.2.2.2.2.2.1,a.2.2.2.2.2.2.1,a.2.2.2.2.2.2.2.1,ke b,l.2.2,l.2.1) else f (a.1,a.2.1,a.2.2.1,a.2.2.2.1,a.2.2.2.2.1,N,ke a.2.2.2.2.2.1,a.2.2.2.2.2.2.1,a.2.2.2.2.2.2.2.1,ke b,e.2.2,e.2.1)).bind λj=>if j.2.2.2.2.2.1=g then(za j.2.2.2.2.2.2.2.2.2.1.K_ 0).bind λl=>f (y (l.a_,34,lit [],lit [],0,0)) else f (M (j.1,j.2.1,j.2.2.1,j.2.2.2.1,j.2.2.2.2.1,ke j.2.2.2.2.2.2.1,j.2.2.2.2.2.2.2.1,j.2.2.2.2.2.2.2.2.1,j.2.2.2.2.2.2.2.2.2.2))).bind λi=>F (λj=>f (y j)) (λj=>f (M (j.1,j.2.1,j.2.2.1,j.2.2.2.1,j.2.2.2.2.1,ke j.2.2.2.2.2.1,j.2.2.2.2.2.2))) i).bind λi=>F (λj=>f (Step.done (y j))) (λj=>(zo 32 j.2.2.2.2.2.2.2.2.2 [j.2.2.2.2.2.2.2.2.1]).bind λl=>f (Step.next (j.1,j.2.1,j.2.2.1,j.2.2.2.1,U4 (j.2.2.2.2.1+1),ke j.2.2.2.2.2.1,j.2.2.2.2.2.2.1,j.2.2.2.2.2.2.2.1,l))) i else f (Step.done (M (a.1,a.2.1,ke a.2.2.2.2.2.1,a.2.2.2.2.2.2)))
def qg5(A:zwB)(B:zjD)(C:zeJ->Uf)(D:zjD)(x:v7):U3 zkg:=if q (8 < U4 (x.1.K_.len - 2))=g then f (qf.mk (lit []) (O [] N) (qj.mk (lit []) 0 0),x.1.a_,22) else(z8 x.1.K_ 0 (U4 (x.1.K_.len - 2))).bind λa=>(lpO (qda A B C D) (x.2,U4 (x.1.K_.len - 2),a,a.len,0,ke x.1,(lit [],lit [],0,0),(x.1.T_,lit [],0,0),O [] N)).bind λb=>F (λc=>f (qf.mk c.2.2.1 (O [] N) (qj.mk c.2.2.2.1 c.2.2.2.2.1 c.2.2.2.2.2),c.1,c.2.1)) (λc=>(za c.2.2.1.K_ c.2.1).bind λd=>(A (ke d,c.1)).bind λe=>if q (e.2≠0)=g then(za c.2.2.1.K_ c.2.1).bind λi=>f (qf.mk (lit []) (O [] N) (qj.mk (lit []) 0 0),i.a_,e.2) else f (qf.mk c.2.2.2.2.1.1 c.2.2.2.2.2 e.1,0,0)) b
def qbf:v7->U3 zkg:=qg5 qak q5h q7m q5i
theorem ql3:qbf=P79.F:=by delta qbf;rw[qkx,qj3,qkm,qj4];kernel_rfl
def qcg(A:zwy):zjJ->U3 (Step zjJ (z6⊕Sl qf)):=λa=>if q (a.2.2.2.1 < a.2.2.1)=g then((za a.2.1 a.2.2.2.1).bind λb=>if q (b.k_≠6)=g then f (y a) else(A (ke b,a.1)).bind λc=>if q (c.2.2≠0)=g then f (M c.2) else(zo 72 a.2.2.2.2 [c.1]).bind λd=>f (y (a.1,a.2.1,a.2.2.1,a.2.2.2.1,d))).bind λb=>F (λc=>f (Step.next (c.1,c.2.1,c.2.2.1,U4 (c.2.2.2.1+1),c.2.2.2.2))) (λc=>f (Step.done (y c))) b else f (Step.done (M a.2.2.2.2))
def qfi(A:zwy)(x:v7):U3 zj7:=(lpO (qcg A) (x.2,x.1.K_,x.1.K_.len,0,O [] N)).bind λa=>F (λb=>f (b.1,b.2,O [] N)) (λb=>f (0,0,b)) a
def q7a:v7->U3 zj7:=qfi qbf
theorem qky:q7a=P80.F:=by delta q7a;rw[ql3];kernel_rfl
def qe2(x:Int):Uf:=(if q (97<=x)=g then if q (x<=122)=g then f g else f (q (x=95)) else f (q (x=95))).bind λa=>f a
def q2r:Zk:=qe2
theorem qh6:q2r=P81.F:=by kernel_rfl
def qec(x:Int):Uf:=(if q (48<=x)=g then f (q (x<=57)) else f N).bind λa=>f a
def q4e:Zk:=qec
theorem qht:q4e=P82.F:=by kernel_rfl
def qed(x:Zr):Uf:=(if q (x=lit [116,121,112,101])=g then f (q (x=lit [116,121,112,101])) else(if q (x=lit [102,110])=g then f (q (x=lit [102,110])) else(if q (x=lit [111,119,110])=g then f (q (x=lit [111,119,110])) else(if q (x=lit [99,101,108,108])=g then f (q (x=lit [99,101,108,108])) else(if q (x=lit [99,111,117,110,116,101,100])=g then f (q (x=lit [99,111,117,110,116,101,100])) else(if q (x=lit [108,111,99,107])=g then f (q (x=lit [108,111,99,107])) else(if q (x=lit [103,117,97,114,100])=g then f (q (x=lit [103,117,97,114,100])) else(if q (x=lit [119,104,101,114,101])=g then f (q (x=lit [119,104,101,114,101])) else(if q (x=lit [105,110,116])=g then f (q (x=lit [105,110,116])) else(if q (x=lit [109,117,116])=g then f (q (x=lit [109,117,116])) else(if q (x=lit [102,114,101,101])=g then f (q (x=lit [102,114,101,101])) else(if q (x=lit [117,110,108,111,99,107])=g then f (q (x=lit [117,110,108,111,99,107])) else(if q (x=lit [105,102])=g then f (q (x=lit [105,102])) else(if q (x=lit [101,108,115,101])=g then f (q (x=lit [101,108,115,101])) else(if q (x=lit [119,104,105,108,101])=g then f (q (x=lit [119,104,105,108,101])) else(if q (x=lit [114,101,116,117,114,110])=g then f (q (x=lit [114,101,116,117,114,110])) else(if q (x=lit [97,98,111,114,116])=g then f (q (x=lit [97,98,111,114,116])) else(if q (x=lit [102,111,114,107])=g then f (q (x=lit [102,111,114,107])) else(if q (x=lit [110,101,119])=g then f (q (x=lit [110,101,119])) else f (q (x=lit [97,114,114,97,121]))).bind λa=>f a).bind λa=>f a).bind λa=>f a).bind λa=>f a).bind λa=>f a).bind λa=>f a).bind λa=>f a).bind λa=>f a).bind λa=>f a).bind λa=>f a).bind λa=>f a).bind λa=>f a).bind λa=>f a).bind λa=>f a).bind λa=>f a).bind λa=>f a).bind λa=>f a).bind λa=>f a).bind λa=>if a=g then f g else f N
def q3s:vh:=qed
theorem qhu:q3s=P83.F:=by kernel_rfl
def qcc(x:zV):GX:=(if q (U4 (x.2+1) < (↑(V x.1):Int))=g then(ZI x.1 x.2 (U4 (x.2+2))).bind λa=>f (x.1,x.2,a) else f (x.1,x.2,lit [])).bind λa=>(if q (a.2.2=lit [45,62])=g then f (a.1,a.2.1,g) else if q (a.2.2=lit [60,61])=g then f (a.1,a.2.1,g) else f (a.1,a.2.1,q (a.2.2=lit [61,61]))).bind λb=>if b.2.2=g then f 2 else(Zg b.1 b.2.1).bind λc=>(if q (c=123)=g then f (q (c=123)) else(if q (c=125)=g then f (q (c=125)) else(if q (c=40)=g then f (q (c=40)) else(if q (c=41)=g then f (q (c=41)) else(if q (c=91)=g then f (q (c=91)) else(if q (c=93)=g then f (q (c=93)) else(if q (c=44)=g then f (q (c=44)) else(if q (c=58)=g then f (q (c=58)) else(if q (c=59)=g then f (q (c=59)) else(if q (c=61)=g then f (q (c=61)) else(if q (c=43)=g then f (q (c=43)) else(if q (c=45)=g then f (q (c=45)) else(if q (c=38)=g then f (q (c=38)) else f (q (c=60))).bind λd=>f d).bind λd=>f d).bind λd=>f d).bind λd=>f d).bind λd=>f d).bind λd=>f d).bind λd=>f d).bind λd=>f d).bind λd=>f d).bind λd=>f d).bind λd=>f d).bind λd=>f d).bind λd=>if d=g then f 1 else f 0
def q43:zV->GX:=qcc
theorem qig:q43=P84.F:=by kernel_rfl
def q7b(A:Zk)(B:Zk)(C:vh)(D:Ww):zg1->U3 (Step zg1 zg1):=λa=>if q (a.2.2.1 < (↑(V a.1):Int))=g then(Zg a.1 a.2.2.1).bind λb=>(A b).bind λc=>(Zg a.1 a.2.2.1).bind λd=>(B d).bind λe=>(if(!c)=g then f (a.1,a.2.1,a.2.2.1, !e,a.2.2.2) else f (a.1,a.2.1,a.2.2.1,N,a.2.2.2)).bind λi=>if i.2.2.2.1=g then f (Step.done (i.1,i.2.1,i.2.2.1,i.2.2.2.2)) else f (Step.next (i.1,i.2.1,U4 (i.2.2.1+1),i.2.2.2.2)) else f (Step.done a)
def q7c(A:Zk)(B:Zk)(C:vh)(D:Ww):zat->U3 (Step zat zat):=λa=>if q (a.2.2.1 < (↑(V a.1):Int))=g then(Zg a.1 a.2.2.1).bind λb=>(B b).bind λc=>if(!c)=g then f (Step.done a) else(if q (a.2.2.2.1<=1099511627776)=g then(Zg a.1 a.2.2.1).bind λd=>f (a.1,a.2.1,a.2.2.1,U4 (U4 (a.2.2.2.1 * 10)+U4 (IntKind.u8.wrap (d - 48))),a.2.2.2.2) else f a).bind λd=>(if q (1099511627776 < d.2.2.2.1)=g then f (d.1,d.2.1,d.2.2.1,d.2.2.2.1,g,d.2.2.2.2.2) else f d).bind λe=>f (Step.next (e.1,e.2.1,U4 (e.2.2.1+1),e.2.2.2)) else f (Step.done a)
def qcp(A:Zk)(B:Zk)(C:vh)(D:Ww)(x:zV):U3 (q9×Int):=(Zg x.1 x.2).bind λa=>(A a).bind λb=>(Zg x.1 x.2).bind λc=>(B c).bind λd=>(if b=g then(lpO (q7b A B C D) (x.1,x.2,x.2,q9.mk 0 (lit []) 0 0,q9.mk 0 (lit []) 0 x.2)).bind λe=>(ZI e.1 e.2.1 e.2.2.1).bind λi=>if q (16 < (↑i.size:Int))=g then f (y (13,q9.mk 0 (lit []) 0 0)) else(C i).bind λj=>(if j=g then f (e.2.2.2.1,q9.mk 2 i e.2.2.2.2.N_ e.2.2.2.2.a_) else f (e.2.2.2.1,q9.mk 1 i e.2.2.2.2.N_ e.2.2.2.2.a_)).bind λl=>f (y (0,l.2)) else f (M (x.1,x.2,x.2,d,q9.mk 0 (lit []) 0 0,q9.mk 0 (lit []) 0 x.2))).bind λe=>F (λi=>f (i.2,i.1)) (λi=>(if i.2.2.2.1=g then(lpO (q7c A B C D) (i.1,i.2.1,i.2.2.1,0,N,i.2.2.2.2)).bind λj=>(if q (j.2.2.1 < (↑(V j.1):Int))=g then(Zg j.1 j.2.2.1).bind λl=>(A l).bind λm=>f (j.1,j.2.1,j.2.2.1,j.2.2.2.1,j.2.2.2.2.1,m,j.2.2.2.2.2) else f (j.1,j.2.1,j.2.2.1,j.2.2.2.1,j.2.2.2.2.1,N,j.2.2.2.2.2)).bind λl=>(if l.2.2.2.2.1=g then f (l.1,l.2.1,l.2.2.1,l.2.2.2.1,g,l.2.2.2.2.2.2) else if l.2.2.2.2.2.1=g then f (l.1,l.2.1,l.2.2.1,l.2.2.2.1,g,l.2.2.2.2.2.2) else(Zg l.1 l.2.1).bind λm=>if q (m=48)=g then f (l.1,l.2.1,l.2.2.1,l.2.2.2.1,q (U4 (l.2.1+1) < l.2.2.1),l.2.2.2.2.2.2) else f (l.1,l.2.1,l.2.2.1,l.2.2.2.1,N,l.2.2.2.2.2.2)).bind λm=>if m.2.2.2.2.1=g then f (y (12,q9.mk 0 (lit []) 0 0)) else(ZI m.1 m.2.1 m.2.2.1).bind λn=>f (y (0,q9.mk 3 n m.2.2.2.1 m.2.2.2.2.2.2.a_)) else f (M (i.1,i.2.1,i.2.2.2.2))).bind λj=>F (λl=>f (l.2,l.1)) (λl=>(D (l.1,l.2.1)).bind λm=>if q (m=0)=g then f (q9.mk 0 (lit []) 0 0,11) else(ZI l.1 l.2.1 (U4 (l.2.1+m))).bind λn=>f (q9.mk 4 n l.2.2.2.N_ l.2.2.2.a_,0)) j) e
def q6b:zV->U3 (q9×Int):=qcp q2r q4e q3s q43
theorem qj5:q6b=P85.F:=by delta q6b;rw[qh6,qht,qhu,qig];kernel_rfl
def q7p(A:zqw):vZ->U3 (Step vZ vZ):=λa=>(if q (a.2.1 < (↑(V a.1):Int))=g then(Zg a.1 a.2.1).bind λb=>f (a.1,a.2.1,q (b≠10),a.2.2) else f (a.1,a.2.1,N,a.2.2)).bind λb=>if b.2.2.1=g then f (Step.next (b.1,U4 (b.2.1+1),b.2.2.2)) else f (Step.done (b.1,b.2.1,b.2.2.2))
def q7q(A:zqw):vZ->U3 (Step vZ zwE):=λa=>if q (a.2.1 < (↑(V a.1):Int))=g then(((Zg a.1 a.2.1).bind λb=>if q (b=32)=g then f (a.1,a.2.1,g,a.2.2) else(Zg a.1 a.2.1).bind λc=>f (a.1,a.2.1,q (c=10),a.2.2)).bind λb=>if b.2.2.1=g then f (y (b.1,U4 (b.2.1+1),b.2.2.2)) else(Zg b.1 b.2.1).bind λc=>if q (c=35)=g then(lpO (q7p A) (b.1,b.2.1,b.2.2.2)).bind λd=>f (y d) else(A (b.1,b.2.1)).bind λe=>if q (e.2≠0)=g then f (M (b.2.1,e.2)) else(zo 40 b.2.2.2 [e.1]).bind λi=>f (y (b.1,U4 (b.2.1+(↑e.1.T_.size:Int)),i))).bind λb=>F (λc=>f (Step.next c)) (λc=>f (Step.done (y c))) b else f (Step.done (M (a.1,a.2.2)))
def qb0(A:zqw)(x:Zr):U3 (Int×Int×Up):=if q (16384 < (↑x.size:Int))=g then f (0,10,O [] N) else(lpO (q7q A) (x,0,O [] N)).bind λa=>F (λb=>f (b.1,b.2,O [] N)) (λb=>(zo 40 b.2 [q9.mk 0 (lit []) 0 (↑(V b.1):Int)]).bind λc=>f (0,0,c)) a
def q6j:zjF:=qb0 q6b
theorem qh7:q6j=P86.F:=by delta q6j;rw[qj5];kernel_rfl
def qas(x:xh):U3 zT:=(za x.2.2 x.2.1.1).bind λa=>(za x.2.2 x.2.1.1).bind λb=>(if q (x.2.1.2.2.1=0)=g then if q (b.k_=2)=g then(za x.2.2 x.2.1.1).bind λc=>(za x.2.2 x.2.1.1).bind λd=>f (q (d.T_=x.1),x.2) else if q (b.k_=4)=g then(za x.2.2 x.2.1.1).bind λe=>(za x.2.2 x.2.1.1).bind λi=>f (q (i.T_=x.1),x.2) else f (N,x.2) else f (N,x.2)).bind λc=>f c
def q1n:xh->U3 zT:=qas
theorem q79:q1n=P87.F:=by kernel_rfl
def qa7(A:ZD)(x:xh):U3 zT:=(A x).bind λa=>(if a.1=g then f (a.1,(U4 (a.2.1.1+1),a.2.1.2),a.2.2) else f a).bind λb=>f b
def q10:xh->U3 zT:=qa7 q1n
theorem q1p:q10=P88.F:=by delta q10;rw[q79];kernel_rfl
def q93(x:Yh):U3 zF:=(if q (x.2.1.2.2.1=0)=g then(za x.2.2 x.2.1.1).bind λa=>(za x.2.2 x.2.1.1).bind λb=>f ((x.2.1.1,x.2.1.2.1,x.1,b.a_),x.2.2) else f x.2).bind λa=>f a
def q19:Yh->U3 zF:=q93
theorem q51:q19=P89.F:=by kernel_rfl
def q95(A:Wt)(x:zF):U3 Yg:=(za x.2 x.1.1).bind λa=>(za x.2 x.1.1).bind λb=>(if q (x.1.2.2.1≠0)=g then f (g,x.1,x.2,(0,lit [],0,0),b) else f (q (b.k_≠1),x.1,x.2,(0,lit [],0,0),b)).bind λ(c:Bool×(Int×Int×Int×Int)×Sl q9×(Int×U0×Int×Int)×q9)=>if c.1=g then(A (20,c.2.1,c.2.2.1)).bind λd=>f ((0,lit [],0,0),d) else f ((5,c.2.2.2.2.T_,0,c.2.2.2.2.a_),(U4 (c.2.1.1+1),c.2.1.2),c.2.2.1)
def q15:zF->U3 Yg:=q95 q19
theorem q3h:q15=P90.F:=by delta q15;rw[q51];kernel_rfl
def q94(A:ZD)(B:Wt)(x:xh):U3 zF:=(A x).bind λa=>(if(!a.1)=g then(B (20,a.2)).bind λb=>f b else f a.2).bind λb=>f b
def q12:xh->U3 zF:=q94 q10 q19
theorem q2z:q12=P91.F:=by delta q12;rw[q1p,q51];kernel_rfl
def q99(A:ZD)(B:xc)(C:W6)(x:zF):U3 Zx:=(za x.2 x.1.1).bind λa=>(za x.2 x.1.1).bind λb=>(za x.2 x.1.1).bind λc=>(za x.2 x.1.1).bind λd=>(A (lit [105,110,116],x)).bind λe=>if e.1=g then f (q6.mk 8 b.T_ 0 d.a_ (O [] N),e.2) else(A (lit [111,119,110],e.2)).bind λi=>(if(!i.1)=g then(B (lit [38],i.2)).bind λj=>(A (lit [109,117,116],j)).bind λl=>(if l.1=g then f (l.2.1,l.2.2,(0,lit [],0,0),8,lit [38,109,117,116],0,d.a_) else f (l.2.1,l.2.2,(0,lit [],0,0),8,b.T_,0,d.a_)).bind λ(m:zgP)=>f m else f (i.2.1,i.2.2,(0,lit [],0,0),8,b.T_,0,d.a_)).bind λ(j:zgP)=>(C (j.1,j.2.1)).bind λl=>f (q6.mk j.2.2.2.1 j.2.2.2.2.1 j.2.2.2.2.2.1 j.2.2.2.2.2.2 (O [q6.mk l.1.1 l.1.2.1 l.1.2.2.1 l.1.2.2.2 (O [] N)] g),l.2)
def q3c:zF->U3 Zx:=q99 q10 q12 q15
theorem qih:q3c=P92.F:=by delta q3c;rw[q1p,q2z,q3h];kernel_rfl
def q7r(A:Wt)(x:zF):U3 Yh:=(za x.2 x.1.1).bind λa=>(za x.2 x.1.1).bind λb=>(if q (x.1.2.2.1≠0)=g then f (g,x.1,x.2,b) else f (q (b.k_≠3),x.1,x.2,b)).bind λc=>if c.1=g then(A (20,c.2.1,c.2.2.1)).bind λd=>f (0,d) else f (c.2.2.2.N_,(U4 (c.2.1.1+1),c.2.1.2),c.2.2.1)
def q2d:zF->U3 Yh:=q7r q19
theorem q8m:q2d=P93.F:=by delta q2d;rw[q51];kernel_rfl
def q96(A:ZD)(B:zjm)(x:Zx):U3 Zx:=(A (lit [43],x.2)).bind λa=>if a.1=g then(B a.2).bind λb=>f (q6.mk x.1.k_ x.1.T_ b.1 x.1.a_ x.1.K_,b.2) else(A (lit [45],a.2)).bind λc=>(if c.1=g then(B c.2).bind λd=>f (d.2.1,d.2.2,q6.mk x.1.k_ x.1.T_ (U4 (0 - d.1)) x.1.a_ x.1.K_,0,lit [],0,0) else f (c.2.1,c.2.2,kr x.1,0,lit [],0,0)).bind λ(d:(Int×Int×Int×Int)×Sl q9×q6×Int×U0×Int×Int)=>f (kr d.2.2.1,d.1,d.2.1)
def q23:Zx->U3 Zx:=q96 q10 q2d
theorem qfs:q23=P94.F:=by delta q23;rw[q1p,q8m];kernel_rfl
def q97(A:zjm)(B:ZD)(C:W6)(D:zvK)(x:zF):U3 Zx:=(za x.2 x.1.1).bind λa=>(za x.2 x.1.1).bind λb=>(za x.2 x.1.1).bind λc=>(za x.2 x.1.1).bind λd=>if q (d.k_=3)=g then(A x).bind λe=>f (q6.mk 5 (lit []) e.1 b.a_ (O [] N),e.2) else(B (lit [45],x)).bind λi=>if i.1=g then(A i.2).bind λj=>f (q6.mk 5 (lit []) (U4 (0 - j.1)) b.a_ (O [] N),j.2) else(C i.2).bind λl=>(D (q6.mk l.1.1 l.1.2.1 l.1.2.2.1 l.1.2.2.2 (O [] N),l.2)).bind λm=>f (kr m.1,m.2)
def q1r:zF->U3 Zx:=q97 q2d q10 q15 q23
theorem q7j:q1r=P95.F:=by delta q1r;rw[q8m,q1p,q3h,qfs];kernel_rfl
def q7e(A:ZD)(B:Wt):zqa->U3 (Step zqa zvP):=λa=>if q (a.1 < Sl.len a.2.2.2)=g then(za a.2.2.2 a.1).bind λb=>(za a.2.2.2 a.1).bind λc=>(A (c,a.2.1,a.2.2.1)).bind λd=>if d.1=g then(za a.2.2.2 a.1).bind λe=>(za a.2.2.2 a.1).bind λi=>f (Step.done (y (i,d.2))) else f (Step.next (U4 (a.1+1),d.2.1,d.2.2,a.2.2.2)) else f (Step.done (M (a.2.1,a.2.2.1)))
def qa8(A:ZD)(B:Wt)(x:zF):U3 xh:=(lpO (q7e A B) (0,x.1,x.2,O [lit [60],lit [60,61],lit [61,61]] g)).bind λa=>F (λb=>f b) (λb=>(B (20,b)).bind λc=>f (lit [],c)) a
def q6c:zF->U3 xh:=qa8 q10 q19
theorem qj6:q6c=P96.F:=by delta q6c;rw[q1p,q51];kernel_rfl
def q6u(A:wz)(B:zF->U3 xh)(x:zF):U3 ZH:=(A x).bind λa=>(B a.2).bind λb=>(A b.2).bind λc=>f ((4,b.1,0,a.1.a_),c.2.1,c.2.2,O [kr a.1,kr c.1] g)
def q1s:Yy:=q6u q1r q6c
theorem qft:q1s=P97.F:=by delta q1s;rw[q7j,qj6];kernel_rfl
def q5j(A:xc)(B:ZD)(C:wz):zqm->U3 (Step zqm zaw):=λa=>(B (lit [44],a.1,a.2.1)).bind λb=>if(!b.1)=g then f (Step.done (b.2.1,b.2.2,a.2.2.2)) else(C b.2).bind λc=>(zo 64 a.2.2.2 [kr c.1]).bind λd=>f (Step.next (c.2.1,c.2.2,kr c.1,d))
def q98(A:xc)(B:ZD)(C:wz)(x:zF):U3 zaw:=(A (lit [40],x)).bind λa=>(B (lit [41],a)).bind λb=>(if b.1=g then f (g,b.2) else f (q (b.2.1.2.2.1≠0),b.2)).bind λc=>if c.1=g then f (c.2.1,c.2.2,O [] N) else(C c.2).bind λd=>(lpO (q5j A B C) (d.2.1,d.2.2,kr d.1,O [kr d.1] g)).bind λe=>(A (lit [41],e.1,e.2.1)).bind λi=>f (i.1,i.2,e.2.2)
def q3b:zF->U3 zaw:=q98 q12 q10 q1r
theorem qd2:q3b=P98.F:=by delta q3b;rw[q2z,q1p,q7j];kernel_rfl
def q9a(A:ZD)(B:zjm)(C:W6)(D:wz)(E:ZD)(G:zpS)(H:xc)(I:zvK)(x:zF):U3 Zx:=(za x.2 x.1.1).bind λa=>(za x.2 x.1.1).bind λb=>(A (lit [110,101,119],x)).bind λc=>if c.1=g then(B c.2).bind λd=>f (q6.mk 23 (lit []) d.1 b.a_ (O [] N),d.2) else(A (lit [97,114,114,97,121],c.2)).bind λe=>if e.1=g then(C e.2).bind λi=>f (q6.mk 24 i.1.2.1 0 b.a_ (O [] N),i.2) else(A (lit [38],e.2)).bind λj=>if j.1=g then(A (lit [109,117,116],j.2)).bind λl=>(if l.1=g then f (l.2.1,l.2.2,(0,lit [],0,0),27,lit [],0,b.a_) else f (l.2.1,l.2.2,(0,lit [],0,0),26,lit [],0,b.a_)).bind λ(m:zgP)=>(C (m.1,m.2.1)).bind λn=>f (q6.mk m.2.2.2.1 n.1.2.1 m.2.2.2.2.2.1 m.2.2.2.2.2.2 (O [] N),n.2) else(za j.2.2 j.2.1.1).bind λo=>(za j.2.2 j.2.1.1).bind λp=>if q (p.k_≠1)=g then(D j.2).bind λr=>f (kr r.1,r.2) else(C j.2).bind λs=>(E (lit [40],s.2)).bind λt=>if t.1=g then(G t.2).bind λu=>f (q6.mk 28 s.1.2.1 s.1.2.2.1 s.1.2.2.2 u.2.2,u.1,u.2.1) else(A (lit [91],t.2)).bind λv=>if v.1=g then(D v.2).bind λw=>(H (lit [93],w.2)).bind λz=>f (q6.mk 25 s.1.2.1 s.1.2.2.1 s.1.2.2.2 (O [kr w.1] g),z) else(E (lit [43],v.2)).bind λJ=>(E (lit [45],J.2)).bind λK=>(if J.1=g then(za K.2.2 (U4 (K.2.1.1+1))).bind λL=>(za K.2.2 (U4 (K.2.1.1+1))).bind λP=>f (K.1,q (P.k_=1),K.2.1,K.2.2,(0,lit [],0,0),s.1) else if K.1=g then(za K.2.2 (U4 (K.2.1.1+1))).bind λQ=>(za K.2.2 (U4 (K.2.1.1+1))).bind λR=>f (K.1,q (R.k_=1),K.2.1,K.2.2,(0,lit [],0,0),s.1) else f (K.1,N,K.2.1,K.2.2,(0,lit [],0,0),s.1)).bind λ(L:Bool×Bool×(Int×Int×Int×Int)×Sl q9×(Int×U0×Int×Int)×Int×U0×Int×Int)=>if L.2.1=g then(C ((U4 (L.2.2.1.1+1),L.2.2.1.2),L.2.2.2.1)).bind λP=>(if L.1=g then f (P.2.1,P.2.2,L.2.2.2.2.1,(22,lit [],0,L.2.2.2.2.2.2.2.2),O [q6.mk L.2.2.2.2.2.1 L.2.2.2.2.2.2.1 L.2.2.2.2.2.2.2.1 L.2.2.2.2.2.2.2.2 (O [] N),q6.mk P.1.1 P.1.2.1 P.1.2.2.1 P.1.2.2.2 (O [] N)] g) else f (P.2.1,P.2.2,L.2.2.2.2.1,(21,lit [],0,L.2.2.2.2.2.2.2.2),O [q6.mk L.2.2.2.2.2.1 L.2.2.2.2.2.2.1 L.2.2.2.2.2.2.2.1 L.2.2.2.2.2.2.2.2 (O [] N),q6.mk P.1.1 P.1.2.1 P.1.2.2.1 P.1.2.2.2 (O [] N)] g)).bind λ(Q:xG)=>f (q6.mk Q.2.2.2.1.1 Q.2.2.2.1.2.1 Q.2.2.2.1.2.2.1 Q.2.2.2.1.2.2.2 Q.2.2.2.2,Q.1,Q.2.1) else(I (q6.mk L.2.2.2.2.2.1 L.2.2.2.2.2.2.1 L.2.2.2.2.2.2.2.1 L.2.2.2.2.2.2.2.2 (O [] N),L.2.2.1,L.2.2.2.1)).bind λR=>f (kr R.1,R.2)
def q5z:zF->U3 Zx:=q9a q10 q2d q15 q1r q1n q3b q12 q23
theorem qii:q5z=P99.F:=by delta q5z;rw[q1p,q8m,q3h,q7j,q79,qd2,q2z,qfs];kernel_rfl
def qbt(A:W6)(B:ZD)(C:zpS)(D:ZD)(E:wz)(G:xc)(H:wz)(x:zF):U3 ZH:=(A x).bind λa=>(B (lit [40],a.2)).bind λb=>if b.1=g then(C b.2).bind λc=>f ((20,lit [],0,a.1.2.2.2),c.1,c.2.1,O [q6.mk 28 a.1.2.1 a.1.2.2.1 a.1.2.2.2 c.2.2] g) else(D (lit [91],b.2)).bind λd=>if d.1=g then(E d.2).bind λe=>(G (lit [93],e.2)).bind λi=>(G (lit [61],i)).bind λj=>(E j).bind λl=>f ((11,a.1.2),l.2.1,l.2.2,O [kr e.1,kr l.1] g) else(G (lit [61],d.2)).bind λm=>(H m).bind λn=>f ((10,a.1.2),n.2.1,n.2.2,O [kr n.1] g)
def q6v:Yy:=qbt q15 q1n q3b q10 q1r q12 q5z
theorem qhv:q6v=zlo.F:=by delta q6v;rw[q3h,q79,qd2,q1p,q7j,q2z,qii];kernel_rfl
def q4r(A:Ws)(B:Ws)(x:zep):U3 ZH:=(A x.2.2).bind λa=>(B (a.2.1,a.2.2.1)).bind λb=>(zo 64 a.2.2.2 [q6.mk b.1.1 b.1.2.1 b.1.2.2.1 b.1.2.2.2 b.2.2.2]).bind λc=>f ((x.1,a.1.2.1,a.1.2.2.1,x.2.1),b.2.1,b.2.2.1,c)
def q1t(h:Yy):zep->U3 ZH:=q4r q1s h
theorem qe3(h:Yy):@Eq ((zep)->U3 ZH) (zgk h) (q1t h):=by delta q1t;rw[qft];kernel_rfl
def q6w(A:zep->U3 ZH)(B:ZD)(C:Ws)(D:W6)(E:xc)(G:zjm)(H:ZD)(I:wz)(J:zpS)(K:Ws)(x:zF):U3 ZH:=(za x.2 x.1.1).bind λa=>(za x.2 x.1.1).bind λb=>(za x.2 x.1.1).bind λc=>(za x.2 x.1.1).bind λd=>(if q (d.k_=2)=g then(za x.2 x.1.1).bind λe=>(za x.2 x.1.1).bind λi=>f (b.a_,i.T_,x.1,x.2,0,lit [],0,0) else f (b.a_,lit [],x.1,x.2,0,lit [],0,0)).bind λ(e:Int×U0×(Int×Int×Int×Int)×Sl q9×Int×U0×Int×Int)=>(if q (e.2.1=lit [105,102])=g then(A (15,e.1,(U4 (e.2.2.1.1+1),e.2.2.1.2),e.2.2.2.1)).bind λi=>(B (lit [101,108,115,101],i.2.1,i.2.2.1)).bind λj=>(if j.1=g then(C j.2).bind λl=>f (l.2.1,l.2.2.1,e.2.2.2.2,i.1,l.1,i.2.2.2,l.2.2.2) else f (j.2.1,j.2.2,e.2.2.2.2,i.1,(9,lit [],0,e.1),i.2.2.2,O [] N)).bind λ(l:(Int×Int×Int×Int)×Sl q9×(Int×U0×Int×Int)×(Int×U0×Int×Int)×(Int×U0×Int×Int)×Sl q6×Sl q6)=>(zo 64 l.2.2.2.2.2.1 [q6.mk l.2.2.2.2.1.1 l.2.2.2.2.1.2.1 l.2.2.2.2.1.2.2.1 l.2.2.2.2.1.2.2.2 l.2.2.2.2.2.2]).bind λm=>f (y (l.1,l.2.1,l.2.2.2.1,m)) else if q (e.2.1=lit [119,104,105,108,101])=g then(A (16,e.1,(U4 (e.2.2.1.1+1),e.2.2.1.2),e.2.2.2.1)).bind λn=>f (y (n.2.1,n.2.2.1,n.1,n.2.2.2)) else(if q (e.2.1=lit [102,114,101,101])=g then(D ((U4 (e.2.2.1.1+1),e.2.2.1.2),e.2.2.2.1)).bind λo=>f (o.2.1,o.2.2,e.2.2.2.2,(12,o.1.2.1,0,e.1),O [] N) else(if q (e.2.1=lit [108,111,99,107])=g then f (e.2.1,e.2.1,q (e.2.1=lit [108,111,99,107]),e.2.2.1,e.2.2.2.1,e.2.2.2.2,0,lit [],0,e.1) else f (e.2.1,e.2.1,q (e.2.1=lit [117,110,108,111,99,107]),e.2.2.1,e.2.2.2.1,e.2.2.2.2,0,lit [],0,e.1)).bind λ(p:U0×U0×Bool×(Int×Int×Int×Int)×Sl q9×(Int×U0×Int×Int)×Int×U0×Int×Int)=>(if p.2.2.1=g then(D ((U4 (p.2.2.2.1.1+1),p.2.2.2.1.2),p.2.2.2.2.1)).bind λr=>(if q (p.1=lit [117,110,108,111,99,107])=g then f (r.2.1,r.2.2,p.2.2.2.2.2.1,(14,p.2.2.2.2.2.2.2),r.1) else f (r.2.1,r.2.2,p.2.2.2.2.2.1,(13,p.2.2.2.2.2.2.2),r.1)).bind λ(s:(Int×Int×Int×Int)×Sl q9×(Int×U0×Int×Int)×(Int×U0×Int×Int)×Int×U0×Int×Int)=>(E (lit [91],s.1,s.2.1)).bind λt=>(G t).bind λu=>(E (lit [93],u.2)).bind λv=>f (v.1,v.2,s.2.2.1,(s.2.2.2.1.1,s.2.2.2.2.2.1,u.1,s.2.2.2.1.2.2.2),O [] N) else(if q (p.2.1=lit [114,101,116,117,114,110])=g then(H (lit [59],(U4 (p.2.2.2.1.1+1),p.2.2.2.1.2),p.2.2.2.2.1)).bind λw=>(if(!w.1)=g then(I w.2).bind λz=>f (z.2.1,z.2.2,p.2.2.2.2.2.1,(17,p.2.2.2.2.2.2.2),O [kr z.1] g) else f (w.2.1,w.2.2,p.2.2.2.2.2.1,(17,p.2.2.2.2.2.2.2),O [] N)).bind λ(z:xG)=>f z else(if q (p.2.1=lit [97,98,111,114,116])=g then f ((U4 (p.2.2.2.1.1+1),p.2.2.2.1.2),p.2.2.2.2.1,p.2.2.2.2.2.1,(18,p.2.2.2.2.2.2.2),O [] N) else(if q (p.2.1=lit [102,111,114,107])=g then(D ((U4 (p.2.2.2.1.1+1),p.2.2.2.1.2),p.2.2.2.2.1)).bind λL=>(J L.2).bind λP=>f (P.1,P.2.1,p.2.2.2.2.2.1,(19,L.1.2.1,p.2.2.2.2.2.2.2.2),P.2.2) else(K (p.2.2.2.1,p.2.2.2.2.1)).bind λQ=>f (Q.2.1,Q.2.2.1,p.2.2.2.2.2.1,Q.1,Q.2.2.2)).bind λ(L:xG)=>f L).bind λ(L:xG)=>f L).bind λ(w:xG)=>f w).bind λ(r:xG)=>f r).bind λ(o:xG)=>f (M o)).bind λ(i:(Int×Int×Int×Int)×Sl q9×(Int×U0×Int×Int)×Sl q6⊕(Int×Int×Int×Int)×Sl q9×(Int×U0×Int×Int)×(Int×U0×Int×Int)×Sl q6)=>F (λj=>f (j.2.2.1,j.1,j.2.1,j.2.2.2)) (λj=>(E (lit [59],j.1,j.2.1)).bind λl=>f (j.2.2.2.1,l.1,l.2,j.2.2.2.2)) i
def q33(h:Yy):Yy:=q6w (q1t h) q10 h q15 q12 q2d q1n q1r q3b q6v
theorem qf8(h:Yy):@Eq Yy (zgl h) (q33 h):=by delta q33;rw[<-qe3 h,q1p,q3h,q2z,q8m,q79,q7j,qd2,qhv];kernel_rfl
def q49(A:ZD)(B:Wt)(C:xc)(D:ZD)(E:Ws):xG->U3 (Step xG xG):=λa=>if q (a.1.2.2.1=0)=g then(D (lit [125],a.1,a.2.1)).bind λb=>if b.1=g then f (Step.done (b.2.1,b.2.2,a.2.2)) else(E b.2).bind λc=>(zo 64 a.2.2.2.2 [q6.mk c.1.1 c.1.2.1 c.1.2.2.1 c.1.2.2.2 c.2.2.2]).bind λd=>f (Step.next (c.2.1,c.2.2.1,a.2.2.1,a.2.2.2.1,d)) else f (Step.done a)
def q2e(A:ZD)(B:Wt)(C:xc)(D:ZD)(E:Ws)(x:zF):U3 ZH:=(za x.2 x.1.1).bind λa=>(za x.2 x.1.1).bind λb=>(A (lit [123],x)).bind λc=>(if c.1=g then f (q (8<=c.2.1.2.1),c.2.1,c.2.2,(0,lit [],0,0),9,lit [],0,b.a_) else f (N,c.2.1,c.2.2,(0,lit [],0,0),9,lit [],0,b.a_)).bind λd=>(if d.1=g then(B (21,d.2.1,d.2.2.1)).bind λe=>f (e.1,e.2,d.2.2.2) else f d.2).bind λe=>(C (lit [123],e.1,e.2.1)).bind λi=>(lpO (q49 A B C D E) ((i.1.1,U4 (i.1.2.1+1),i.1.2.2),i.2,e.2.2.1,e.2.2.2,O [] N)).bind λj=>f (j.2.2.2.1,(j.1.1,U4 (j.1.2.1 - 1),j.1.2.2),j.2.1,j.2.2.2.2)
def q8n(h:Yy):Yy:=q2e q1n q19 q12 q10 (q33 h)
theorem qh8(h:Yy):@Eq Yy (zi1 h) (q8n h):=by delta q8n;rw[q79,q51,q2z,q1p,<-qf8 h];kernel_rfl
def q48:Nat->zF->U3 ZH
 |0=>λ_=>X
 |k+1=>q8n (q48 k)
theorem q8o:∀k,@Eq Yy (zb3 k) (q48 k)
 |0=>rfl
 |k+1=>(qh8 (zb3 k)).trans (congrArg q8n (q8o k))
def q5k:Yy:=q48 100000
theorem qhw:@Eq Yy zyO q5k:=q8o 100000
def qat(A:W6)(B:xc)(C:ZD)(D:wz)(E:ZD)(G:Wt)(H:Ws):VY->U3 (Step VY xG):=λa=>(if(!a.1)=g then f (a.1,q (a.2.1.2.2.1=0),a.2) else f (a.1,N,a.2)).bind λ(b:Bool×Bool×(Int×Int×Int×Int)×Sl q9×(Int×U0×Int×Int)×(Int×U0×Int×Int)×Sl q6)=>if b.2.1=g then(A (b.2.2.1,b.2.2.2.1)).bind λc=>(B (lit [58],c.2)).bind λd=>(D d).bind λe=>(zo 64 b.2.2.2.2.2.2 [q6.mk 7 c.1.2.1 c.1.2.2.1 c.1.2.2.2 (O [kr e.1] g)]).bind λi=>(C (lit [44],e.2)).bind λj=>(if(!j.1)=g then(B (lit [41],j.2)).bind λl=>f (g,l.1,l.2,b.2.2.2.2.1,b.2.2.2.2.2.1,i) else f (b.1,j.2.1,j.2.2,b.2.2.2.2.1,b.2.2.2.2.2.1,i)).bind λ(l:VY)=>f (Step.next l) else f (Step.done b.2.2)
def qdc(A:W6)(B:xc)(C:ZD)(D:wz)(E:ZD)(G:Wt)(H:Ws)(x:Yh):U3 ZH:=(A x.2).bind λa=>(B (lit [40],a.2)).bind λb=>(C (lit [41],b)).bind λc=>(lpO (qat A B C D E G H) (c.1,c.2.1,c.2.2,(0,lit [],0,0),(6,a.1.2.1,a.1.2.2.1,x.1),O [] N)).bind λd=>(za d.2.1 d.1.1).bind λe=>(za d.2.1 d.1.1).bind λi=>(C (lit [45,62],d.1,d.2.1)).bind λj=>(if j.1=g then(E (lit [38],j.2)).bind λl=>(if l.1=g then(G (20,l.2)).bind λm=>f (m.1,m.2,d.2.2.1,d.2.2.2.1,(8,lit [],0,i.a_),d.2.2.2.2) else f (l.2.1,l.2.2,d.2.2.1,d.2.2.2.1,(8,lit [],0,i.a_),d.2.2.2.2)).bind λ(m:(Int×Int×Int×Int)×Sl q9×(Int×U0×Int×Int)×(Int×U0×Int×Int)×(Int×U0×Int×Int)×Sl q6)=>(D (m.1,m.2.1)).bind λn=>f (n.2.1,n.2.2,m.2.2.1,m.2.2.2.1,kr n.1,m.2.2.2.2.2) else f (j.2.1,j.2.2,d.2.2.1,d.2.2.2.1,q6.mk 8 (lit []) 0 i.a_ (O [] N),d.2.2.2.2)).bind λ(l:(Int×Int×Int×Int)×Sl q9×(Int×U0×Int×Int)×(Int×U0×Int×Int)×q6×Sl q6)=>(H (l.1,l.2.1)).bind λm=>(zo 64 l.2.2.2.2.2 [kr l.2.2.2.2.1]).bind λn=>(zo 64 n [q6.mk m.1.1 m.1.2.1 m.1.2.2.1 m.1.2.2.2 m.2.2.2]).bind λo=>f (l.2.2.2.1,m.2.1,m.2.2.1,o)
def q6x:Yh->U3 ZH:=qdc q15 q12 q10 q3c q1n q19 q5k
theorem qjn:q6x=ztv.F:=by delta q6x;rw[q3h,q2z,q1p,qih,q79,q51,<-qhw];kernel_rfl
def q3u(A:ZD)(B:W6)(C:Wt):zu3->U3 (Step zu3 tA7):=λa=>if q (a.1 < Sl.len a.2.2.2.2.2)=g then(za a.2.2.2.2.2 a.1).bind λb=>(za a.2.2.2.2.2 a.1).bind λc=>(A (c,a.2.1,a.2.2.1)).bind λd=>if d.1=g then(B d.2).bind λe=>f (Step.done (y (e.2.1,e.2.2,a.2.2.2.2.1,O [q6.mk e.1.1 e.1.2.1 e.1.2.2.1 e.1.2.2.2 (O [] N)] g))) else f (Step.next (U4 (a.1+1),d.2.1,d.2.2,a.2.2.2)) else f (Step.done (M (a.2.1,a.2.2.1,a.2.2.2.1,a.2.2.2.2.1)))
def q9b(A:ZD)(B:W6)(C:Wt)(x:zF):U3 Zx:=(za x.2 x.1.1).bind λa=>(za x.2 x.1.1).bind λb=>(za x.2 x.1.1).bind λc=>(za x.2 x.1.1).bind λd=>(A (lit [111,119,110],x)).bind λe=>if e.1=g then f (q6.mk 2 b.T_ 0 d.a_ (O [] N),e.2) else(A (lit [99,101,108,108],e.2)).bind λi=>if i.1=g then f (q6.mk 2 b.T_ 0 d.a_ (O [] N),i.2) else(lpO (q3u A B C) (0,i.2.1,i.2.2,(0,lit [],0,0),(2,b.T_,0,d.a_),O [lit [99,111,117,110,116,101,100],lit [108,111,99,107],lit [103,117,97,114,100]] g)).bind λj=>F (λl=>f (q6.mk l.2.2.1.1 l.2.2.1.2.1 l.2.2.1.2.2.1 l.2.2.1.2.2.2 l.2.2.2,l.1,l.2.1)) (λl=>(C (20,l.1,l.2.1)).bind λm=>f (q6.mk l.2.2.2.1 l.2.2.2.2.1 l.2.2.2.2.2.1 l.2.2.2.2.2.2 (O [] N),m)) j
def q44:zF->U3 Zx:=q9b q10 q15 q19
theorem qik:q44=ztw.F:=by delta q44;rw[q1p,q3h,q51];kernel_rfl
def qbu(A:W6)(B:ZD)(C:xc)(x:zF):U3 ZH:=(A x).bind λa=>(B (lit [91],a.2)).bind λb=>(if b.1=g then(A b.2).bind λc=>(C (lit [93],c.2)).bind λd=>f (d.1,d.2,(0,lit [],0,0),(3,a.1.2),O [q6.mk c.1.1 c.1.2.1 c.1.2.2.1 c.1.2.2.2 (O [] N)] g) else f (b.2.1,b.2.2,(0,lit [],0,0),(3,a.1.2),O [] N)).bind λ(c:xG)=>f (c.2.2.2.1,c.1,c.2.1,c.2.2.2.2)
def q3v:Yy:=qbu q15 q10 q12
theorem qhx:q3v=ztx.F:=by delta q3v;rw[q3h,q1p,q2z];kernel_rfl
def qct(A:W6)(B:wz)(C:ZD)(D:Ws)(E:xc)(G:Ws):VY->U3 (Step VY xG):=λa=>if a.1=g then(D (a.2.1,a.2.2.1)).bind λb=>(zo 64 a.2.2.2.2.2 [q6.mk b.1.1 b.1.2.1 b.1.2.2.1 b.1.2.2.2 b.2.2.2]).bind λc=>(C (lit [44],b.2.1,b.2.2.1)).bind λd=>(if(!d.1)=g then(E (lit [125],d.2)).bind λe=>f (d.1,e.1,e.2,a.2.2.2.1,a.2.2.2.2.1,c) else f (d.1,d.2.1,d.2.2,a.2.2.2.1,a.2.2.2.2.1,c)).bind λe=>f (Step.next e) else f (Step.done a.2)
def qcu(A:W6)(B:wz)(C:ZD)(D:Ws)(E:xc)(G:Ws):VY->U3 (Step VY xG):=λa=>if a.1=g then(G (a.2.1,a.2.2.1)).bind λb=>(zo 64 a.2.2.2.2.2 [q6.mk b.1.1 b.1.2.1 b.1.2.2.1 b.1.2.2.2 b.2.2.2]).bind λc=>(C (lit [44],b.2.1,b.2.2.1)).bind λd=>f (Step.next (d.1,d.2.1,d.2.2,a.2.2.2.1,a.2.2.2.2.1,c)) else f (Step.done a.2)
def qcv(A:W6)(B:wz)(C:ZD)(D:Ws)(E:xc)(G:Ws)(x:Yh):U3 ZH:=(A x.2).bind λa=>(B a.2).bind λb=>(C (lit [123],b.2)).bind λc=>(lpO (qct A B C D E G) (c.1,c.2.1,c.2.2,(0,lit [],0,0),(1,a.1.2.1,a.1.2.2.1,x.1),O [kr b.1] g)).bind λd=>(C (lit [119,104,101,114,101],d.1,d.2.1)).bind λe=>(lpO (qcu A B C D E G) (e.1,e.2.1,e.2.2,d.2.2)).bind λi=>(E (lit [59],i.1,i.2.1)).bind λj=>f (i.2.2.2.1,j.1,j.2,i.2.2.2.2)
def q6d:Yh->U3 ZH:=qcv q15 q44 q10 q3v q12 q1s
theorem qj7:q6d=zty.F:=by delta q6d;rw[q3h,qik,q1p,qhx,q2z,qft];kernel_rfl
def q6y(A:X7):Int×Int×q6->U3 (Step (Int×Int×q6) Int):=λa=>if q (a.2.1 < a.2.2.K_.len)=g then(za a.2.2.K_ a.2.1).bind λb=>(A (kr b)).bind λc=>f (Step.next (U4 (a.1+c),U4 (a.2.1+1),kr a.2.2)) else f (Step.done a.1)
def q9u(A:X7)(x:q6):GX:=(lpO (q6y A) (1,0,kr x)).bind λa=>f a
def q9v(h:X7):X7:=q9u h
theorem qhy(h:X7):@Eq X7 (zi3 h) (q9v h):=by kernel_rfl
def q34:Nat->q6->U3 Int
 |0=>λ_=>X
 |k+1=>q9v (q34 k)
theorem qf9:∀k,@Eq X7 (zgm k) (q34 k)
 |0=>rfl
 |k+1=>(qhy (zgm k)).trans (congrArg q9v (qf9 k))
def qa9:X7:=q34 100000
theorem qil:@Eq X7 zyQ qa9:=qf9 100000
def q86(A:zjF)(B:ZD)(C:zpI)(D:xc)(E:zpI)(G:X7):zfH->U3 (Step zfH zfH):=λa=>(if q (a.2.1.2.2.1=0)=g then(za a.2.2.2.1 a.2.1.1).bind λb=>(za a.2.2.2.1 a.2.1.1).bind λc=>f (q (c.k_≠0),a) else f (N,a)).bind λb=>if b.1=g then((za b.2.2.2.2.1 b.2.2.1.1).bind λc=>(za b.2.2.2.2.1 b.2.2.1.1).bind λd=>(B (lit [102,110],b.2.2.1,b.2.2.2.2.1)).bind λe=>if e.1=g then(C (d.a_,e.2)).bind λi=>(zo 64 b.2.2.2.2.2 [q6.mk i.1.1 i.1.2.1 i.1.2.2.1 i.1.2.2.2 i.2.2.2]).bind λj=>f (b.2.1,i.2.1,b.2.2.2.1,i.2.2.1,j) else(D (lit [116,121,112,101],e.2)).bind λl=>(if q (l.1.2.2.1=0)=g then(E (d.a_,l)).bind λm=>(zo 64 b.2.2.2.2.2 [q6.mk m.1.1 m.1.2.1 m.1.2.2.1 m.1.2.2.2 m.2.2.2]).bind λn=>f (b.2.1,m.2.1,b.2.2.2.1,m.2.2.1,n) else f (b.2.1,l.1,b.2.2.2.1,l.2,b.2.2.2.2.2)).bind λm=>f m).bind λc=>f (Step.next c) else f (Step.done b.2)
def qbv(A:zjF)(B:ZD)(C:zpI)(D:xc)(E:zpI)(G:X7)(x:Zr):U3 (q6×z6):=(A x).bind λa=>if q (a.2.1≠0)=g then f (q6.mk 0 (lit []) 0 0 (O [] N),a.1,a.2.1) else(lpO (q86 A B C D E G) ((0,lit [],0,0),(0,0,0,0),(0,lit [],0,0),a.2.2,O [] N)).bind λb=>if q (b.2.1.2.2.1≠0)=g then f (q6.mk 0 (lit []) 0 0 (O [] N),b.2.1.2.2.2,b.2.1.2.2.1) else(G (q6.mk b.2.2.1.1 b.2.2.1.2.1 b.2.2.1.2.2.1 b.2.2.1.2.2.2 b.2.2.2.2)).bind λc=>if q (4096 < c)=g then f (q6.mk 0 (lit []) 0 0 (O [] N),0,22) else f (q6.mk b.2.2.1.1 b.2.2.1.2.1 b.2.2.1.2.2.1 b.2.2.1.2.2.2 b.2.2.2.2,0,0)
def q2m:zeu:=qbv q6j q10 q6x q12 q6d qa9
theorem qfa:q2m=zoV.F:=by delta q2m;rw[qh7,q1p,qjn,q2z,qj7,<-qil];kernel_rfl
def q70:zj0->U3 (Step zj0 GV):=λa=>if q (a.2.1 < a.2.2.1.K_.len)=g then(za a.2.2.1.K_ a.2.1).bind λb=>(if q (b.k_=a.1)=g then(za a.2.2.1.K_ a.2.1).bind λc=>(zo 64 a.2.2.2 [kr c]).bind λd=>f (a.1,a.2.1,kr a.2.2.1,d) else f (a.1,a.2.1,kr a.2.2.1,a.2.2.2)).bind λc=>f (Step.next (c.1,U4 (c.2.1+1),kr c.2.2.1,c.2.2.2)) else f (Step.done a.2.2.2)
def q9c(x:q6×Int):U3 GV:=(lpO q70 (x.2,0,kr x.1,O [] N)).bind λa=>f a
def q1f:zeB:=q9c
theorem qim:q1f=zoW.F:=by kernel_rfl
def q5m:zqJ->U3 (Step zqJ zeI):=λa=>if q (a.2.2 < Sl.len a.1)=g then(za a.1 a.2.2).bind λb=>if q (b.n_=a.2.1)=g then f (Step.done (y a.2.2)) else f (Step.next (a.1,a.2.1,U4 (a.2.2+1))) else f (Step.done (M ()))
def qcj(x:zj5):GX:=(lpO q5m (x.1,x.2,0)).bind λa=>F (λb=>f b) (λb=>f (-1)) a
def q1a:zj5->GX:=qcj
theorem qd3:q1a=zhG.F:=by kernel_rfl
def q4s:zqK->U3 (Step zqK zeI):=λa=>if q (a.2.2 < Sl.len a.1)=g then((za a.1 a.2.2).bind λb=>if q (b.T_=a.2.1)=g then(za a.1 a.2.2).bind λc=>f (a.1,a.2.1,a.2.2,q (c.K_.len=0)) else f (a.1,a.2.1,a.2.2,N)).bind λb=>if b.2.2.2=g then f (Step.done (y b.2.2.1)) else f (Step.next (b.1,b.2.1,U4 (b.2.2.1+1))) else f (Step.done (M ()))
def qb3(x:zj6):GX:=(lpO q4s (x.1,x.2,0)).bind λa=>F (λb=>f b) (λb=>f (-1)) a
def q1e:zj6->GX:=qb3
theorem qha:q1e=zoX.F:=by kernel_rfl
def q88(x:zay):U3 (Sl qu):=(if q (x.1=lit [60])=g then f (x.1,x.2.1,x.2.2.1,x.2.2.2.1,x.2.2.2.2,O ([]++[qu.mk x.2.1 x.2.2.1 (U4 (U4 (x.2.2.2.2 - x.2.2.2.1) - 1))]) (N || ![qu.mk x.2.1 x.2.2.1 (U4 (U4 (x.2.2.2.2 - x.2.2.2.1) - 1))].isEmpty)) else f (x.1,x.2.1,x.2.2.1,x.2.2.2.1,x.2.2.2.2,O [] N)).bind λa=>(if q (a.1=lit [60,61])=g then f (a.1,a.2.1,a.2.2.1,a.2.2.2.1,a.2.2.2.2.1,g,a.2.2.2.2.2) else f (a.1,a.2.1,a.2.2.1,a.2.2.2.1,a.2.2.2.2.1,q (a.1=lit [61,61]),a.2.2.2.2.2)).bind λb=>(if b.2.2.2.2.2.1=g then(zo 24 b.2.2.2.2.2.2 [qu.mk b.2.1 b.2.2.1 (U4 (b.2.2.2.2.1 - b.2.2.2.1))]).bind λc=>f (b.1,b.2.1,b.2.2.1,b.2.2.2.1,b.2.2.2.2.1,c) else f (b.1,b.2.1,b.2.2.1,b.2.2.2.1,b.2.2.2.2.1,b.2.2.2.2.2.2)).bind λc=>(if q (c.1=lit [61,61])=g then(zo 24 c.2.2.2.2.2 [qu.mk c.2.2.1 c.2.1 (U4 (c.2.2.2.1 - c.2.2.2.2.1))]).bind λd=>f d else f c.2.2.2.2.2).bind λd=>f d
def q1d:zay->U3 (Sl qu):=q88
theorem qhz:q1d=zoY.F:=by kernel_rfl
def q60(A:zeB)(B:vW)(C:zew)(D:zel):zpO->U3 (Step zpO zzT):=λa=>if q (a.2.1 < a.1)=g then(za a.2.2.2.2.1 a.2.1).bind λb=>(za a.2.2.2.2.1 a.2.1).bind λc=>if q (c.T_=a.2.2.2.2.2.2.2.2.1.T_)=g then f (Step.done (y (a.2.2.2.2.2.2.2.2.1.a_,30,a.2.2.1,a.2.2.2.2.2.2.2.1,a.2.2.2.2.2.2.2.2.2))) else f (Step.next (a.1,U4 (a.2.1+1),a.2.2.1,a.2.2.2.1,a.2.2.2.2.1,a.2.2.2.2.2.1,kr a.2.2.2.2.2.2.1,a.2.2.2.2.2.2.2.1,kr a.2.2.2.2.2.2.2.2.1,a.2.2.2.2.2.2.2.2.2)) else f (Step.done (M (a.1,a.2.2.1,a.2.2.2.1,a.2.2.2.2.1,a.2.2.2.2.2.1,kr a.2.2.2.2.2.2.1,a.2.2.2.2.2.2.2.1,kr a.2.2.2.2.2.2.2.2.1,a.2.2.2.2.2.2.2.2.2)))
def q4x(A:zeB)(B:vW)(C:zew)(D:zel):zjf->U3 (Step zjf zzY):=λa=>if q (a.1 < Sl.len a.2.2.2.1)=g then((za a.2.2.2.1 a.1).bind λb=>(za a.2.2.2.1 a.1).bind λc=>(lpO (q60 A B C D) (a.1,0,a.2.1,a.2.2.1,a.2.2.2.1,a.2.2.2.2.1,kr a.2.2.2.2.2.1,a.2.2.2.2.2.2.1,kr c,a.2.2.2.2.2.2.2)).bind λd=>F (λe=>f (y e)) (λe=>(if q (0 < e.2.2.2.2.2.2.2.1.K_.len)=g then(za e.2.2.2.2.2.2.2.1.K_ 0).bind λi=>(C (e.2.2.2.1,i.T_)).bind λj=>(if q (e.2.2.2.2.2.1.T_≠lit [111,119,110])=g then f (e.1,j,g,e.2.1,e.2.2.1,e.2.2.2.1,e.2.2.2.2.1,kr e.2.2.2.2.2.1,e.2.2.2.2.2.2.1,kr e.2.2.2.2.2.2.2.1,e.2.2.2.2.2.2.2.2) else f (e.1,j,q (j < 0),e.2.1,e.2.2.1,e.2.2.2.1,e.2.2.2.2.1,kr e.2.2.2.2.2.1,e.2.2.2.2.2.2.1,kr e.2.2.2.2.2.2.2.1,e.2.2.2.2.2.2.2.2)).bind λl=>if l.2.2.1=g then f (y (l.2.2.2.2.2.2.2.2.2.1.a_,32,l.2.2.2.1,l.2.2.2.2.2.2.2.2.1,l.2.2.2.2.2.2.2.2.2.2)) else f (M (l.1,l.2.1,l.2.2.2.1,l.2.2.2.2.1,l.2.2.2.2.2.1,l.2.2.2.2.2.2.1,kr l.2.2.2.2.2.2.2.1,l.2.2.2.2.2.2.2.2.1,kr l.2.2.2.2.2.2.2.2.2.1,l.2.2.2.2.2.2.2.2.2.2)) else f (M (e.1, -1,e.2.1,e.2.2.1,e.2.2.2.1,e.2.2.2.2.1,kr e.2.2.2.2.2.1,e.2.2.2.2.2.2.1,kr e.2.2.2.2.2.2.2.1,e.2.2.2.2.2.2.2.2))).bind λi=>F (λj=>f (y j)) (λj=>(zo 24 j.2.2.2.2.2.2.2.2.2 [qn.mk j.2.2.2.2.2.2.2.2.1.T_ j.2.1]).bind λl=>f (M (j.1,j.2.2.1,j.2.2.2.1,j.2.2.2.2.1,j.2.2.2.2.2.1,kr j.2.2.2.2.2.2.1,j.2.2.2.2.2.2.2.1,l))) i) d).bind λb=>F (λc=>f (Step.done (y c))) (λc=>f (Step.next (U4 (c.1+1),c.2.1,c.2.2.1,c.2.2.2.1,c.2.2.2.2.1,kr c.2.2.2.2.2.1,c.2.2.2.2.2.2))) b else f (Step.done (M (a.2.1,a.2.2.1,a.2.2.2.1,a.2.2.2.2.1,kr a.2.2.2.2.2.1,a.2.2.2.2.2.2)))
def qaa(A:zeB)(B:vW)(C:zew)(D:zel):zpJ->U3 (Step zpJ tA5):=λa=>if q (a.2.2.1 < 2)=g then((za a.2.2.2.2.2.2.1 a.2.1).bind λb=>(za a.2.2.2.2.2.2.1 a.2.1).bind λc=>(za c.K_ a.2.2.1).bind λd=>if q (d.T_=lit [])=g then f (y a) else(C (a.2.2.2.2.2.1,d.T_)).bind λe=>(if q (e < 0)=g then f (a.1,a.2.1,a.2.2.1,e,g,a.2.2.2) else f (a.1,a.2.1,a.2.2.1,e,q (e=a.1),a.2.2.2)).bind λi=>if i.2.2.2.2.1=g then(za i.2.2.2.2.2.2.2.2.1 i.2.1).bind λj=>(za i.2.2.2.2.2.2.2.2.1 i.2.1).bind λl=>f (M (l.a_,33,i.2.2.2.2.2.1,i.2.2.2.2.2.2.2.2.2.1,i.2.2.2.2.2.2.2.2.2.2.2)) else(za i.2.2.2.2.2.2.2.2.2.2.1 i.2.2.1).bind λm=>(za i.2.2.2.2.2.2.2.2.2.2.1 i.2.2.1).bind λn=>f (y (i.1,i.2.1,i.2.2.1,i.2.2.2.2.2.1,i.2.2.2.2.2.2.1,i.2.2.2.2.2.2.2.1,i.2.2.2.2.2.2.2.2.1,i.2.2.2.2.2.2.2.2.2.1,Sl.set i.2.2.2.2.2.2.2.2.2.2.1 i.2.2.1 (U4 (i.2.2.2.1+1)),i.2.2.2.2.2.2.2.2.2.2.2))).bind λb=>F (λc=>f (Step.next (c.1,c.2.1,U4 (c.2.2.1+1),c.2.2.2))) (λc=>f (Step.done (y c))) b else f (Step.done (M (a.1,a.2.1,a.2.2.2)))
def q61(A:zeB)(B:vW)(C:zew)(D:zel):zu4->U3 (Step zu4 zmB):=λa=>if q (a.2.2.1 < Sl.len a.2.2.2.2.2.2.2.2.1)=g then(za a.2.2.2.2.2.2.2.2.1 a.2.2.1).bind λb=>(za a.2.2.2.2.2.2.2.2.1 a.2.2.1).bind λc=>(zo 24 a.2.2.2.2.2.2.2.2.2.2 [c]).bind λd=>f (Step.next (a.1,a.2.1,U4 (a.2.2.1+1),a.2.2.2.1,a.2.2.2.2.1,a.2.2.2.2.2.1,a.2.2.2.2.2.2.1,a.2.2.2.2.2.2.2.1,a.2.2.2.2.2.2.2.2.1,a.2.2.2.2.2.2.2.2.2.1,d)) else f (Step.done (a.1,a.2.1,a.2.2.2.1,a.2.2.2.2.1,a.2.2.2.2.2.1,a.2.2.2.2.2.2.1,a.2.2.2.2.2.2.2.1,a.2.2.2.2.2.2.2.2.2))
def q45(A:zeB)(B:vW)(C:zew)(D:zel):zmB->U3 (Step zmB zzZ):=λa=>if q (a.2.1 < Sl.len a.2.2.2.2.2.1)=g then(lpO (qaa A B C D) (a.1,a.2.1,0,a.2.2.1,a.2.2.2.1,a.2.2.2.2.1,a.2.2.2.2.2.1,a.2.2.2.2.2.2.1,O [0,0] g,a.2.2.2.2.2.2.2)).bind λb=>F (λc=>f (Step.done (y c))) (λc=>(za c.2.2.2.2.2.1 c.2.1).bind λd=>(za c.2.2.2.2.2.1 c.2.1).bind λe=>(za c.2.2.2.2.2.2.2.1 0).bind λi=>(za c.2.2.2.2.2.2.2.1 0).bind λj=>(za c.2.2.2.2.2.2.2.1 1).bind λl=>(za c.2.2.2.2.2.2.2.1 1).bind λm=>(za c.2.2.2.2.2.1 c.2.1).bind λn=>(za c.2.2.2.2.2.1 c.2.1).bind λo=>(za o.K_ 0).bind λp=>(za c.2.2.2.2.2.1 c.2.1).bind λr=>(za c.2.2.2.2.2.1 c.2.1).bind λs=>(za s.K_ 1).bind λt=>(D (e.T_,j,m,p.N_,t.N_)).bind λu=>(lpO (q61 A B C D) (c.1,c.2.1,0,c.2.2.1,c.2.2.2.1,c.2.2.2.2.1,c.2.2.2.2.2.1,c.2.2.2.2.2.2.1,u,c.2.2.2.2.2.2.2.2)).bind λv=>f (Step.next (v.1,U4 (v.2.1+1),v.2.2))) b else f (Step.done (M (a.2.2.1,a.2.2.2.1,a.2.2.2.2.2.2)))
def qab(A:zeB)(B:vW)(C:zew)(D:zel)(x:wB):U3 zj1:=(A (kr x.1,3)).bind λa=>(A (kr x.1,4)).bind λb=>(za x.1.K_ 0).bind λc=>(B (x.2,x.1.T_)).bind λd=>if q (0<=d)=g then f (qd.mk x.1.T_ 0 0 (O [] N) (O [] N),x.1.a_,30,x.2) else if q (8 < a.len)=g then f (qd.mk x.1.T_ 0 0 (O [] N) (O [] N),x.1.a_,22,x.2) else(lpO (q4x A B C D) (0,x.2,(lit [],0,0),a,b,kr c,(x.1.T_,0,0),O [] N)).bind λe=>F (λi=>f (qd.mk i.2.2.2.1.1 i.2.2.2.1.2.1 i.2.2.2.1.2.2 i.2.2.2.2 (O [] N),i.1,i.2.1,i.2.2.1)) (λi=>(if q (i.2.2.2.2.1.T_=lit [99,101,108,108])=g then f (y (-1,i.1,i.2.1,i.2.2.1,i.2.2.2.1,(i.2.2.2.2.2.1.1,1,i.2.2.2.2.2.1.2.2),i.2.2.2.2.2.2)) else(if q (i.2.2.2.2.1.T_=lit [99,111,117,110,116,101,100])=g then f (-1,i.2.2.2.2.1.T_,q (i.2.2.2.2.1.T_=lit [99,111,117,110,116,101,100]),i.1,i.2.1,i.2.2.1,i.2.2.2.1,kr i.2.2.2.2.1,i.2.2.2.2.2) else f (-1,i.2.2.2.2.1.T_,q (i.2.2.2.2.1.T_=lit [108,111,99,107]),i.1,i.2.1,i.2.2.1,i.2.2.2.1,kr i.2.2.2.2.1,i.2.2.2.2.2)).bind λj=>(if j.2.2.1=g then(if q (j.2.2.2.2.2.2.2.1.T_=lit [108,111,99,107])=g then f (j.2.2.2.1,j.2.2.2.2.1,j.2.2.2.2.2.1,j.2.2.2.2.2.2.1,kr j.2.2.2.2.2.2.2.1,(j.2.2.2.2.2.2.2.2.1.1,3,j.2.2.2.2.2.2.2.2.1.2.2),j.2.2.2.2.2.2.2.2.2) else f (j.2.2.2.1,j.2.2.2.2.1,j.2.2.2.2.2.1,j.2.2.2.2.2.2.1,kr j.2.2.2.2.2.2.2.1,(j.2.2.2.2.2.2.2.2.1.1,2,j.2.2.2.2.2.2.2.2.1.2.2),j.2.2.2.2.2.2.2.2.2)).bind λl=>(za l.2.2.2.2.1.K_ 0).bind λm=>(C (l.2.2.1,m.T_)).bind λn=>if q (n < 0)=g then f (y (l.2.2.2.2.1.a_,32,l.1,l.2.2.2.2.2)) else f (M (n,l.1,l.2.1,l.2.2.1,l.2.2.2.1,(l.2.2.2.2.2.1.1,l.2.2.2.2.2.1.2.1,n),l.2.2.2.2.2.2)) else(if q (j.2.1=lit [103,117,97,114,100])=g then(za j.2.2.2.2.2.2.2.1.K_ 0).bind λo=>(B (j.2.2.2.1,o.T_)).bind λp=>if q (p < 0)=g then f (y (j.2.2.2.2.2.2.2.1.a_,31,j.2.2.2.1,(j.2.2.2.2.2.2.2.2.1.1,4,p),j.2.2.2.2.2.2.2.2.2)) else(za j.2.2.2.1 p).bind λr=>(za j.2.2.2.1 p).bind λs=>if q (s.S_≠3)=g then f (y (j.2.2.2.2.2.2.2.1.a_,31,j.2.2.2.1,(j.2.2.2.2.2.2.2.2.1.1,4,p),j.2.2.2.2.2.2.2.2.2)) else(if q (0 < Sl.len j.2.2.2.2.2.1)=g then f (j.1,g,j.2.2.2.1,j.2.2.2.2.1,j.2.2.2.2.2.1,j.2.2.2.2.2.2.1,kr j.2.2.2.2.2.2.2.1,(j.2.2.2.2.2.2.2.2.1.1,4,p),j.2.2.2.2.2.2.2.2.2) else f (j.1,q (0 < Sl.len j.2.2.2.2.2.2.1),j.2.2.2.1,j.2.2.2.2.1,j.2.2.2.2.2.1,j.2.2.2.2.2.2.1,kr j.2.2.2.2.2.2.2.1,(j.2.2.2.2.2.2.2.2.1.1,4,p),j.2.2.2.2.2.2.2.2.2)).bind λt=>if t.2.1=g then f (y (t.2.2.2.2.2.2.1.a_,32,t.2.2.1,t.2.2.2.2.2.2.2)) else f (M (t.1,t.2.2.1,t.2.2.2.1,t.2.2.2.2.1,t.2.2.2.2.2.1,t.2.2.2.2.2.2.2)) else f (M (j.1,j.2.2.2.1,j.2.2.2.2.1,j.2.2.2.2.2.1,j.2.2.2.2.2.2.1,j.2.2.2.2.2.2.2.2))).bind λo=>F (λp=>f (y p)) (λp=>f (M p)) o).bind λl=>F (λm=>f (M m)) (λm=>f (y m)) l).bind λj=>F (λl=>(lpO (q45 A B C D) (l.1,0,l.2.1,l.2.2.1,l.2.2.2.1,l.2.2.2.2.1,l.2.2.2.2.2.1,l.2.2.2.2.2.2,O [] N)).bind λm=>F (λn=>f (qd.mk n.2.2.2.1.1 n.2.2.2.1.2.1 n.2.2.2.1.2.2 n.2.2.2.2.1 n.2.2.2.2.2,n.1,n.2.1,n.2.2.1)) (λn=>f (qd.mk n.2.2.1.1 n.2.2.1.2.1 n.2.2.1.2.2 n.2.2.2.1 n.2.2.2.2,0,0,n.1)) m) (λl=>f (qd.mk l.2.2.2.1.1 l.2.2.2.1.2.1 l.2.2.2.1.2.2 l.2.2.2.2 (O [] N),l.1,l.2.1,l.2.2.1)) j) e
def q4b:wB->U3 zj1:=qab q1f q1a q1e q1d
theorem qj8:q4b=ztA.F:=by delta q4b;rw[qim,qd3,qha,qhz];kernel_rfl
def q54(A:zwm):zkb->U3 (Step zkb (z6⊕GY)):=λa=>if q (a.1 < a.2.1.K_.len)=g then((za a.2.1.K_ a.1).bind λb=>if q (b.k_≠1)=g then f (y (a.1,kr a.2.1,a.2.2)) else(za a.2.1.K_ a.1).bind λc=>(A (kr c,a.2.2)).bind λd=>if q (d.2.2.1≠0)=g then f (M (d.2.1,d.2.2.1)) else(zo 80 d.2.2.2 [d.1]).bind λe=>f (y (a.1,kr a.2.1,e))).bind λb=>F (λc=>f (Step.next (U4 (c.1+1),kr c.2.1,c.2.2))) (λc=>f (Step.done (y c))) b else f (Step.done (M a.2.2))
def q89(A:zwm)(x:q6):U3 (Int×Int×GY):=(lpO (q54 A) (0,kr x,O [] N)).bind λa=>F (λb=>f (b.1,b.2,O [] N)) (λb=>f (0,0,b)) a
def q35:zjO:=q89 q4b
theorem qi0:q35=ztB.F:=by delta q35;rw[qj8];kernel_rfl
def q9d(A:vW)(x:wB):U3 zg8:=(if q (x.1.T_=lit [105,110,116])=g then f (x.2,kr x.1,qh.mk (lit []) 0 0,qh.mk (lit []) 1 0) else(if q (x.1.T_=lit [111,119,110])=g then f (x.2,kr x.1,qh.mk (lit []) 0 0,qh.mk (lit []) 2 0) else(if q (x.1.T_=lit [38])=g then f (x.2,kr x.1,qh.mk (lit []) 0 0,qh.mk (lit []) 3 0) else(if q (x.1.T_=lit [38,109,117,116])=g then f (x.2,kr x.1,qh.mk (lit []) 0 0,qh.mk (lit []) 4 0) else f (x.2,kr x.1,qh.mk (lit []) 0 0,qh.mk (lit []) 0 0)).bind λa=>f (a.1,kr a.2.1,a.2.2)).bind λa=>f (a.1,kr a.2.1,a.2.2)).bind λa=>f (a.1,kr a.2.1,a.2.2)).bind λa=>(if q (1 < a.2.2.2.M_)=g then(za a.2.1.K_ 0).bind λb=>(A (a.1,b.T_)).bind λc=>if q (c < 0)=g then f (y (N,qh.mk (lit []) 0 0)) else f (M (a.2.2.1,qh.mk a.2.2.2.n_ a.2.2.2.M_ c)) else f (M a.2.2)).bind λb=>F (λc=>f (c.2,c.1)) (λc=>f (c.2,g)) b
def q24:wB->U3 zg8:=q9d q1a
theorem qin:q24=ztC.F:=by delta q24;rw[qd3];kernel_rfl
def q62(A:zjM):zu2->U3 (Step zu2 zzS):=λa=>if q (a.2.2.2.1 < a.2.2.1)=g then(za a.2.2.2.2.1.K_ a.2.2.2.1).bind λb=>if q (b.T_=a.2.2.2.2.2.2.2.1.T_)=g then f (Step.done (y (a.2.2.2.2.2.2.2.1.a_,30,lit [],lit [],0,0))) else f (Step.next (a.1,a.2.1,a.2.2.1,U4 (a.2.2.2.1+1),kr a.2.2.2.2.1,a.2.2.2.2.2.1,a.2.2.2.2.2.2.1,kr a.2.2.2.2.2.2.2.1,a.2.2.2.2.2.2.2.2)) else f (Step.done (M (a.1,a.2.1,a.2.2.1,kr a.2.2.2.2.1,a.2.2.2.2.2.1,a.2.2.2.2.2.2.1,kr a.2.2.2.2.2.2.2.1,a.2.2.2.2.2.2.2.2)))
def q63(A:zjM):zuX->U3 (Step zuX tA8):=λa=>if q (a.2.2.2.1 < a.2.2.1)=g then(za a.2.2.2.2.2.2.2.2.2 a.2.2.2.1).bind λb=>(za a.2.2.2.2.2.2.2.2.2 a.2.2.2.1).bind λc=>(if q (1 < a.2.2.2.2.2.2.2.2.1.M_)=g then if q (1 < c.M_)=g then if q (a.2.2.2.2.2.2.2.2.1.t_=c.t_)=g then(za a.1 a.2.2.2.2.2.2.2.2.1.t_).bind λd=>f (a.1,a.2.1,a.2.2.1,a.2.2.2.1,q (d.S_≠0),kr a.2.2.2.2.1,a.2.2.2.2.2.1,a.2.2.2.2.2.2.1,kr a.2.2.2.2.2.2.2.1,a.2.2.2.2.2.2.2.2) else f (a.1,a.2.1,a.2.2.1,a.2.2.2.1,N,kr a.2.2.2.2.1,a.2.2.2.2.2.1,a.2.2.2.2.2.2.1,kr a.2.2.2.2.2.2.2.1,a.2.2.2.2.2.2.2.2) else f (a.1,a.2.1,a.2.2.1,a.2.2.2.1,N,kr a.2.2.2.2.1,a.2.2.2.2.2.1,a.2.2.2.2.2.2.1,kr a.2.2.2.2.2.2.2.1,a.2.2.2.2.2.2.2.2) else f (a.1,a.2.1,a.2.2.1,a.2.2.2.1,N,kr a.2.2.2.2.1,a.2.2.2.2.2.1,a.2.2.2.2.2.2.1,kr a.2.2.2.2.2.2.2.1,a.2.2.2.2.2.2.2.2)).bind λd=>if d.2.2.2.2.1=g then(za d.2.2.2.2.2.2.2.2.1.K_ 0).bind λe=>f (Step.done (y (e.a_,34,lit [],lit [],0,0))) else f (Step.next (d.1,d.2.1,d.2.2.1,U4 (d.2.2.2.1+1),kr d.2.2.2.2.2.1,d.2.2.2.2.2.2.1,d.2.2.2.2.2.2.2.1,kr d.2.2.2.2.2.2.2.2.1,d.2.2.2.2.2.2.2.2.2)) else f (Step.done (M (a.1,a.2.1,a.2.2.1,kr a.2.2.2.2.1,a.2.2.2.2.2.1,a.2.2.2.2.2.2.1,kr a.2.2.2.2.2.2.2.1,a.2.2.2.2.2.2.2.2)))
def q64(A:zjM):zpM->U3 (Step zpM zzW):=λa=>if q (a.2.2.1 < a.2.1)=g then((za a.2.2.2.1.K_ a.2.2.1).bind λb=>(lpO (q62 A) (a.1,a.2.1,a.2.2.1,0,kr a.2.2.2.1,a.2.2.2.2.1,a.2.2.2.2.2.1,kr b,a.2.2.2.2.2.2)).bind λc=>F (λd=>f (y d)) (λd=>(za d.2.2.2.2.2.2.1.K_ 0).bind λe=>(A (kr e,d.1)).bind λi=>if(!i.2)=g then(za d.2.2.2.2.2.2.1.K_ 0).bind λj=>f (y (j.a_,31,lit [],lit [],0,0)) else(lpO (q63 A) (d.1,d.2.1,d.2.2.1,0,kr d.2.2.2.1,d.2.2.2.2.1,d.2.2.2.2.2.1,kr d.2.2.2.2.2.2.1,i.1,d.2.2.2.2.2.2.2)).bind λl=>F (λm=>f (y m)) (λm=>(zo 32 m.2.2.2.2.2.2.2.2 [qh.mk m.2.2.2.2.2.2.1.T_ m.2.2.2.2.2.2.2.1.M_ m.2.2.2.2.2.2.2.1.t_]).bind λn=>f (M (m.1,m.2.1,m.2.2.1,kr m.2.2.2.1,m.2.2.2.2.1,m.2.2.2.2.2.1,n))) l) c).bind λb=>F (λc=>f (Step.done (y c))) (λc=>f (Step.next (c.1,c.2.1,U4 (c.2.2.1+1),kr c.2.2.2.1,c.2.2.2.2))) b else f (Step.done (M (a.1,a.2.1,kr a.2.2.2.1,a.2.2.2.2)))
def qac(A:zjM)(x:wB):U3 zkh:=if q (8 < U4 (x.1.K_.len - 2))=g then f (qi.mk (lit []) (O [] N) (qh.mk (lit []) 0 0),x.1.a_,22) else(lpO (q64 A) (x.2,U4 (x.1.K_.len - 2),0,kr x.1,(lit [],lit [],0,0),(x.1.T_,lit [],0,0),O [] N)).bind λa=>F (λb=>f (qi.mk b.2.2.1 (O [] N) (qh.mk b.2.2.2.1 b.2.2.2.2.1 b.2.2.2.2.2),b.1,b.2.1)) (λb=>(za b.2.2.1.K_ b.2.1).bind λc=>(A (kr c,b.1)).bind λd=>if(!d.2)=g then(za b.2.2.1.K_ b.2.1).bind λe=>f (qi.mk (lit []) (O [] N) (qh.mk (lit []) 0 0),e.a_,31) else f (qi.mk b.2.2.2.2.1.1 b.2.2.2.2.2 d.1,0,0)) a
def q4c:wB->U3 zkh:=qac q24
theorem qj9:q4c=ztD.F:=by delta q4c;rw[qin];kernel_rfl
def q5n(A:zwz):zjY->U3 (Step zjY (z6⊕Sl qi)):=λa=>if q (a.2.1 < a.2.2.1.K_.len)=g then((za a.2.2.1.K_ a.2.1).bind λb=>if q (b.k_≠6)=g then f (y (a.1,a.2.1,kr a.2.2.1,a.2.2.2)) else(za a.2.2.1.K_ a.2.1).bind λc=>(A (kr c,a.1)).bind λd=>if q (d.2.2≠0)=g then f (M d.2) else(zo 72 a.2.2.2 [d.1]).bind λe=>f (y (a.1,a.2.1,kr a.2.2.1,e))).bind λb=>F (λc=>f (Step.next (c.1,U4 (c.2.1+1),kr c.2.2.1,c.2.2.2))) (λc=>f (Step.done (y c))) b else f (Step.done (M a.2.2.2))
def q9e(A:zwz)(x:wB):U3 zj8:=(lpO (q5n A) (x.2,0,kr x.1,O [] N)).bind λa=>F (λb=>f (b.1,b.2,O [] N)) (λb=>f (0,0,b)) a
def q2s:wB->U3 zj8:=q9e q4c
theorem qio:q2s=ztE.F:=by delta q2s;rw[qj9];kernel_rfl
def q4k(A:zet)(B:zjN)(C:zws)(D:zeu)(E:zjO)(G:zwt):zjk->U3 (Step zjk zv2):=λa=>if q (a.2.2.2.2.1 < a.2.2.2.1)=g then(za a.2.2.1 a.2.2.2.2.1).bind λb=>(if q (b.k_=6)=g then(zo 64 a.2.2.2.2.2.2.2.2.2.1 [ke b]).bind λc=>(za a.2.2.2.2.2.2.1.K_ a.2.2.2.2.1).bind λd=>(zo 64 a.2.2.2.2.2.2.2.2.2.2 [kr d]).bind λe=>f (a.1,a.2.1,a.2.2.1,a.2.2.2.1,a.2.2.2.2.1,a.2.2.2.2.2.1,kr a.2.2.2.2.2.2.1,a.2.2.2.2.2.2.2.1,a.2.2.2.2.2.2.2.2.1,c,e) else f (a.1,a.2.1,a.2.2.1,a.2.2.2.1,a.2.2.2.2.1,a.2.2.2.2.2.1,kr a.2.2.2.2.2.2.1,a.2.2.2.2.2.2.2)).bind λc=>f (Step.next (c.1,c.2.1,c.2.2.1,c.2.2.2.1,U4 (c.2.2.2.2.1+1),c.2.2.2.2.2.1,kr c.2.2.2.2.2.2.1,c.2.2.2.2.2.2.2)) else f (Step.done (a.1,a.2.1,a.2.2.2.2.2.1,a.2.2.2.2.2.2.2))
def q7h(A:zet)(B:zjN)(C:zws)(D:zeu)(E:zjO)(G:zwt)(x:Zr):U3 (q13×Bool):=(A x).bind λa=>if q (a.2.2≠0)=g then f (q13.mk (O [] N) (O [] N) (O [] N) (O [] N) (O [] N) (O [] N),N) else(B (ke a.1)).bind λb=>(C (ke a.1,b.2.2)).bind λc=>(D x).bind λd=>(E (kr d.1)).bind λe=>(G (kr d.1,e.2.2)).bind λi=>(lpO (q4k A B C D E G) (b.2.1,c.2.1,a.1.K_,a.1.K_.len,0,c.2.2,kr d.1,i.2.2,(b.2.2,e.2.2),O [] N,O [] N)).bind λj=>(if q (j.1=0)=g then if q (j.2.1=0)=g then if q (Sl.len j.2.2.1=Sl.len j.2.2.2.2.2.1)=g then f (q (Sl.len j.2.2.2.1=Sl.len j.2.2.2.2.2.1),j.2.2.2.2.1,j.2.2.2.2.2.1,j.2.2.1,j.2.2.2.2.2.2,j.2.2.2.1) else f (N,j.2.2.2.2.1,j.2.2.2.2.2.1,j.2.2.1,j.2.2.2.2.2.2,j.2.2.2.1) else f (N,j.2.2.2.2.1,j.2.2.2.2.2.1,j.2.2.1,j.2.2.2.2.2.2,j.2.2.2.1) else f (N,j.2.2.2.2.1,j.2.2.2.2.2.1,j.2.2.1,j.2.2.2.2.2.2,j.2.2.2.1)).bind λl=>f (q13.mk l.2.2.1 l.2.1.1 l.2.2.2.1 l.2.2.2.2.1 l.2.1.2 l.2.2.2.2.2,l.1)
def q3a:zjQ:=q7h q5y q6q q7a q2m q35 q2s
theorem qgw:q3a=ztF.F:=by delta q3a;rw[<-qhp,<-qkl,qky,qfa,qi0,qio];kernel_rfl
def qck(x:zjz):U3 xY:=if(!x.1)=g then f (y ((x.2.2.1.2.2,x.2.1),x.2.2)) else f (M x.2.2)
def q3d:zjz->U3 xY:=qck
theorem qfu:q3d=zlt.F:=by kernel_rfl
def qb4(A:zuV)(x:zqe):U3 xY:=(A (x.2.1,x.2.2.1,(x.2.2.2.1.1,x.2.2.2.1.2.1,x.1.a_),x.2.2.2.2)).bind λa=>F (λb=>f (y b)) (λb=>f (M b)) a
def q21:zqe->U3 xY:=qb4 q3d
theorem qee:q21=zoZ.F:=by delta q21;rw[qfu];kernel_rfl
def qdq(x:zki):U3 Z5:=f (q (x.1.n_=x.2),x.2)
def q7k:zki->U3 Z5:=qdq
theorem qk0:q7k=zo0.F:=by kernel_rfl
def q6f(A:zwq):zqC->U3 (Step zqC zaA):=λa=>if q (a.2.2.1 < a.2.1)=g then(za a.1 a.2.2.1).bind λb=>(A (b,a.2.2.2)).bind λc=>if c.1=g then f (Step.done (y (a.2.2.1,c.2))) else f (Step.next (a.1,a.2.1,U4 (a.2.2.1+1),c.2)) else f (Step.done (M a.2.2.2))
def qdf(A:zwq)(x:zj9):U3 yy:=(lpO (q6f A) (x.1,Sl.len x.1,0,x.2)).bind λa=>F (λb=>f b) (λb=>f (-1,b)) a
def qbn:zj9->U3 yy:=qdf q7k
theorem qjo:qbn=ztG.F:=by delta qbn;rw[qk0];kernel_rfl
def qeq(A:zj9->U3 yy)(x:qe×U0):GX:=(A (x.1.V_,x.2)).bind λa=>f a.1
def q2k:zcC:=qeq qbn
theorem qbp:q2k=zfs.F:=by delta q2k;rw[qjo];kernel_rfl
def q4g(A:zmu)(B:zcC)(C:zcB)(D:zuV):zpK->U3 (Step zpK zz0):=λa=>if q (a.2.2.2.1 < a.2.2.1)=g then((za a.2.1 a.2.2.2.1).bind λb=>(za b.K_ 0).bind λc=>(B (qe.mk a.2.2.2.2.2.2.2.2.1.1 a.2.2.2.2.2.2.2.2.1.2 a.2.2.2.2.2.2.2.2.2,b.T_)).bind λd=>(A (ke b,q (d < 0),30,a.2.2.2.2.1,a.2.2.2.2.2.1)).bind λe=>F (λi=>f (y i)) (λi=>(if q (c.T_=lit [105,110,116])=g then(A (ke c,g,34,i)).bind λj=>F (λl=>f (y l)) (λl=>f (M (a.1,a.2.1,a.2.2.1,a.2.2.2.1,l.1,l.2,ke a.2.2.2.2.2.2.1,a.2.2.2.2.2.2.2.1,a.2.2.2.2.2.2.2.2.1,ke b,ke c,a.2.2.2.2.2.2.2.2.2))) j else(A (ke c,q (c.T_=lit [111,119,110]),34,i)).bind λl=>F (λm=>f (y m)) (λm=>f (M (a.1,a.2.1,a.2.2.1,a.2.2.2.1,m.1,m.2,ke a.2.2.2.2.2.2.1,a.2.2.2.2.2.2.2.1,a.2.2.2.2.2.2.2.2.1,ke b,ke c,a.2.2.2.2.2.2.2.2.2))) l).bind λj=>F (λl=>f (y l)) (λl=>(if q (l.2.2.2.2.2.2.2.2.2.2.1.T_=lit [111,119,110])=g then(za l.2.2.2.2.2.2.2.2.2.2.1.K_ 0).bind λm=>(C (l.2.2.2.2.1.2.1,m.T_)).bind λn=>(D (q (0<=n),31,l.2.2.2.2.1,l.2.2.2.2.2.1)).bind λo=>F (λp=>f (y p)) (λp=>f (M (l.1,l.2.1,l.2.2.1,l.2.2.2.1,p.1,p.2,ke l.2.2.2.2.2.2.1,l.2.2.2.2.2.2.2.1,l.2.2.2.2.2.2.2.2.1,qj.mk l.2.2.2.2.2.2.2.2.2.1.T_ 2 n,l.2.2.2.2.2.2.2.2.2.2.2))) o else f (M (l.1,l.2.1,l.2.2.1,l.2.2.2.1,l.2.2.2.2.1,l.2.2.2.2.2.1,ke l.2.2.2.2.2.2.1,l.2.2.2.2.2.2.2.1,l.2.2.2.2.2.2.2.2.1,qj.mk l.2.2.2.2.2.2.2.2.2.1.T_ 1 0,l.2.2.2.2.2.2.2.2.2.2.2))).bind λm=>F (λn=>f (y n)) (λn=>(zo 32 n.2.2.2.2.2.2.2.2.2.2 [n.2.2.2.2.2.2.2.2.2.1]).bind λo=>f (M (n.1,n.2.1,n.2.2.1,n.2.2.2.1,n.2.2.2.2.1,n.2.2.2.2.2.1,ke n.2.2.2.2.2.2.1,n.2.2.2.2.2.2.2.1,n.2.2.2.2.2.2.2.2.1,o))) m) j) e).bind λb=>F (λc=>f (Step.done (y c))) (λc=>f (Step.next (c.1,c.2.1,c.2.2.1,U4 (c.2.2.2.1+1),c.2.2.2.2.1,c.2.2.2.2.2.1,ke c.2.2.2.2.2.2.1,c.2.2.2.2.2.2.2))) b else f (Step.done (M (a.1,a.2.2.2.2.1,a.2.2.2.2.2.1,ke a.2.2.2.2.2.2.1,a.2.2.2.2.2.2.2)))
def q9f(A:zmu)(B:zcC)(C:zcB)(D:zuV)(x:zqx):U3 zmz:=(A (ke x.1,q (U4 (x.1.K_.len - 2)<=8),22,x.2)).bind λa=>F (λb=>f (y b)) (λb=>(z8 x.1.K_ 0 (U4 (x.1.K_.len - 2))).bind λc=>(lpO (q4g A B C D) (U4 (x.1.K_.len - 2),c,c.len,0,b.1,b.2,ke x.1,(lit [],0),(x.1.T_,U4 (x.1.K_.len - 2)),O [] N)).bind λd=>F (λe=>f (y e)) (λe=>(za e.2.2.2.1.K_ e.1).bind λi=>(za e.2.2.2.1.K_ e.1).bind λj=>(A (ke i,q (j.T_=lit []),35,e.2.1,e.2.2.1)).bind λl=>F (λm=>f (y m)) (λm=>f (M (e.2.2.2.2.2.1,m.1,m.2,e.2.2.2.2.2.2))) l) d) a
def q3e:zqx->U3 zmz:=q9f q21 q2k q2a q3d
theorem qip:q3e=ztH.F:=by delta q3e;rw[qee,qbp,qbo,qfu];kernel_rfl
def qb5(x:zjt):U3 zE:=if(!x.1)=g then f (y ((x.2.2.1.2.2.1,x.2.1),x.2.2)) else f (M x.2.2)
def q16:zjt->U3 zE:=qb5
theorem q30:q16=Wh.F:=by kernel_rfl
def q8c(A:zcC)(B:W5)(x:zqf):U3 X3:=(za x.2.2 x.2.1.2.2.2).bind λa=>(za x.2.2 x.2.1.2.2.2).bind λb=>(A (qe.mk a.n_ a.P_ b.V_,x.1)).bind λc=>(B (q (0<=c),31,x.2)).bind λd=>F (λe=>f (y e)) (λe=>(za e.2 e.1.2.2.2).bind λi=>(za e.2 e.1.2.2.2).bind λj=>(za j.V_ c).bind λl=>(za e.2 e.1.2.2.2).bind λm=>(za m.V_ c).bind λn=>f (M (qj.mk (lit []) n.M_ n.t_,e))) d
def q4h:zqf->U3 X3:=q8c q2k q16
theorem qfb:q4h=zo1.F:=by delta q4h;rw[qbp,q30];kernel_rfl
def qb6(x:qf×q8):U3 zg9:=f (q (x.1.n_=x.2.T_),ke x.2)
def q58:qf×q8->U3 zg9:=qb6
theorem qhb:q58=zo2.F:=by kernel_rfl
def q7l(A:zwG):zqM->U3 (Step zqM (Int×q8⊕q8)):=λa=>if q (a.2.2.1 < a.2.1)=g then(za a.1 a.2.2.1).bind λb=>(A (b,ke a.2.2.2)).bind λc=>if c.1=g then f (Step.done (y (a.2.2.1,ke c.2))) else f (Step.next (a.1,a.2.1,U4 (a.2.2.1+1),ke c.2)) else f (Step.done (M (ke a.2.2.2)))
def qc5(A:zwG)(x:Sl qf×q8):U3 (Int×q8):=(lpO (q7l A) (x.1,Sl.len x.1,0,ke x.2)).bind λa=>F (λb=>f (b.1,ke b.2)) (λb=>f (-1,ke b)) a
def q84:Sl qf×q8->U3 (Int×q8):=qc5 q58
theorem qka:q84=ztI.F:=by delta q84;rw[qhb];kernel_rfl
def qae(A:W5)(B:zzU)(x:zqk):U3 zE:=if q (x.1.T_=lit [])=g then(A (q (x.2.1.M_=1),40,x.2.2)).bind λa=>F (λb=>f (y b)) (λb=>f (M b)) a else(B (x.1.T_,x.2.2)).bind λb=>F (λc=>f (y c)) (λc=>(if q (x.2.1.M_=1)=g then(A (q (c.1.M_=1),40,c.2)).bind λd=>F (λe=>f (y e)) (λe=>f (M e)) d else(if q (x.2.1.M_=3)=g then f (q (c.1.M_=4),c.2.1,c.2.2,ke x.1,x.2.1,c.1) else f (N,c.2.1,c.2.2,ke x.1,x.2.1,c.1)).bind λe=>(if e.1=g then(if q (e.2.2.2.1.N_=0)=g then(A (q (e.2.2.2.2.2.t_=e.2.2.2.2.1.t_),40,e.2.1,e.2.2.1)).bind λi=>F (λj=>f (y j)) (λj=>f (M j)) i else(A (N,40,e.2.1,e.2.2.1)).bind λj=>F (λl=>f (y l)) (λl=>f (M l)) j).bind λi=>F (λj=>f (y j)) (λj=>f (M j)) i else(if q (e.2.2.2.1.N_=0)=g then if q (e.2.2.2.2.2.M_=e.2.2.2.2.1.M_)=g then(A (q (e.2.2.2.2.2.t_=e.2.2.2.2.1.t_),40,e.2.1,e.2.2.1)).bind λj=>F (λl=>f (y l)) (λl=>f (M l)) j else(A (N,40,e.2.1,e.2.2.1)).bind λl=>F (λm=>f (y m)) (λm=>f (M m)) l else(A (N,40,e.2.1,e.2.2.1)).bind λm=>F (λn=>f (y n)) (λn=>f (M n)) m).bind λj=>F (λl=>f (y l)) (λl=>f (M l)) j).bind λi=>F (λj=>f (y j)) (λj=>f (M j)) i).bind λd=>F (λe=>f (y e)) (λe=>f (M e)) d) b
def q1h:zqk->U3 zE:=qae q16 q4h
theorem qdi:q1h=zft.F:=by delta q1h;rw[q30,qfb];kernel_rfl
def q71(A:W5)(B:zfG):zpZ->U3 (Step zpZ zE):=λa=>if q (a.2.2.2.1 < a.2.2.1)=g then(za a.2.1 a.2.2.2.1).bind λb=>(za a.1 a.2.2.2.1).bind λc=>(B (ke b,c,a.2.2.2.2)).bind λd=>F (λe=>f (Step.done (y e))) (λe=>f (Step.next (a.1,a.2.1,a.2.2.1,U4 (a.2.2.2.1+1),e))) d else f (Step.done (M a.2.2.2.2))
def q9g(A:W5)(B:zfG)(x:zjs):U3 zE:=(A (q (Sl.len x.1=Sl.len x.2.1),51,x.2.2)).bind λa=>F (λb=>f (y b)) (λb=>(lpO (q71 A B) (x.2.1,x.1,Sl.len x.1,0,b)).bind λc=>F (λd=>f (y d)) (λd=>f (M d)) c) a
def q65:zjs->U3 zE:=q9g q16 q1h
theorem qiq:q65=ztJ.F:=by delta q65;rw[q30,qdi];kernel_rfl
def q9h(A:Sl qf×q8->U3 (Int×q8))(B:W5)(C:zjs->U3 zE)(x:zeq):U3 X3:=(A (x.2.1.1,ke x.1)).bind λa=>(B (q (0<=a.1),31,x.2)).bind λb=>F (λc=>f (y c)) (λc=>(za c.1.1 a.1).bind λd=>(C (a.2.K_,d.P_,c)).bind λe=>F (λi=>f (y i)) (λi=>(za i.1.1 a.1).bind λj=>f (M (j.R_,i))) e) b
def q1x:zeq->U3 X3:=q9h q84 q16 q65
theorem qfv:q1x=zhH.F:=by delta q1x;rw[qka,q30,qiq];kernel_rfl
def q9i(A:zzU)(B:W5)(C:zpF)(x:zeq):U3 zjg:=(if q (x.1.k_=5)=g then if q (x.1.T_=lit [])=g then f (y (x.2.1,x.2.2,qj.mk (lit []) 1 0)) else(A (x.1.T_,x.2)).bind λa=>F (λb=>f (M (y b))) (λb=>(if q (x.1.N_=0)=g then(B (g,40,b.2)).bind λc=>F (λd=>f (y d)) (λd=>f (M (d.1,d.2,qj.mk (lit []) 0 0,b.1))) c else(B (q (b.1.M_=1),40,b.2)).bind λd=>F (λe=>f (y e)) (λe=>f (M (e.1,e.2,qj.mk (lit []) 0 0,b.1))) d).bind λc=>F (λd=>f (M (y d))) (λd=>f (y (d.1,d.2.1,d.2.2.2))) c) a else(if q (x.1.k_=21)=g then f (x.1.k_,q (x.1.k_=21),x.2.1,x.2.2,ke x.1,qj.mk (lit []) 0 0,qj.mk (lit []) 1 0) else f (x.1.k_,q (x.1.k_=22),x.2.1,x.2.2,ke x.1,qj.mk (lit []) 0 0,qj.mk (lit []) 1 0)).bind λb=>(if b.2.1=g then((za b.2.2.2.2.1.K_ 0).bind λc=>(za b.2.2.2.2.1.K_ 1).bind λd=>(A (c.T_,b.2.2.1,b.2.2.2.1)).bind λe=>F (λi=>f (y i)) (λi=>(A (d.T_,i.2)).bind λj=>F (λl=>f (y l)) (λl=>f (M (l.2.1,l.2.2,b.2.2.2.2.2.1,b.2.2.2.2.2.2,i.1,l.1))) j) e).bind λc=>F (λd=>f (y d)) (λd=>(if q (d.2.2.2.2.1.M_=1)=g then(B (q (d.2.2.2.2.2.M_=1),40,d.1,d.2.1)).bind λe=>F (λi=>f (y i)) (λi=>f (M (i.1,i.2,d.2.2.1,d.2.2.2.1))) e else(B (N,40,d.1,d.2.1)).bind λi=>F (λj=>f (y j)) (λj=>f (M (j.1,j.2,d.2.2.1,d.2.2.2.1))) i).bind λe=>F (λi=>f (y i)) (λi=>f (M (y (i.1,i.2.1,i.2.2.2)))) e) c else(if q (b.1=26)=g then f (b.1,q (b.1=26),b.2.2.1,b.2.2.2.1,ke b.2.2.2.2.1,b.2.2.2.2.2) else f (b.1,q (b.1=27),b.2.2.1,b.2.2.2.1,ke b.2.2.2.2.1,b.2.2.2.2.2)).bind λd=>(if d.2.1=g then(A (d.2.2.2.2.1.T_,d.2.2.1,d.2.2.2.1)).bind λe=>F (λi=>f (y i)) (λi=>(B (q (i.1.M_=2),40,i.2)).bind λj=>F (λl=>f (y l)) (λl=>(if q (d.2.2.2.2.1.k_=27)=g then f (l.1,l.2,d.2.2.2.2.2.1,qj.mk i.1.n_ 4 i.1.t_) else f (l.1,l.2,d.2.2.2.2.2.1,qj.mk i.1.n_ 3 i.1.t_)).bind λm=>f (M (y (m.1,m.2.1,m.2.2.2)))) j) e else(if q (d.1=28)=g then(C (ke d.2.2.2.2.1,d.2.2.1,d.2.2.2.1)).bind λi=>F (λj=>f (y j)) (λj=>(B (q (j.1.M_≠0),35,j.2)).bind λl=>F (λm=>f (y m)) (λm=>f (M (y (m.1,m.2,j.1)))) l) i else f (M (M (d.2.2.1,d.2.2.2.1,d.2.2.2.2.2)))).bind λi=>F (λj=>f (y j)) (λj=>F (λl=>f (M (y l))) (λl=>f (M (M l))) j) i).bind λe=>F (λi=>f (y i)) (λi=>F (λj=>f (M (y j))) (λj=>f (M (M j))) i) e).bind λc=>F (λd=>f (M (y d))) (λd=>F (λe=>f (y e)) (λe=>f (M (M e))) d) c).bind λa=>F (λb=>f (y (b.2.2,b.1,b.2.1))) (λb=>F (λc=>f (M c)) (λc=>(B (N,50,c.1,c.2.1)).bind λd=>F (λe=>f (M e)) (λe=>f (y (c.2.2.2,e))) d) b) a
def q25:zeq->U3 zjg:=q9i q4h q16 q1x
theorem qir:q25=zlu.F:=by delta q25;rw[qfb,q30,qfv];kernel_rfl
def qaf(A:zcC)(B:W5)(x:zqb):U3 zE:=(za x.2.2.2 x.2.2.1.2.2.2).bind λa=>(za x.2.2.2 x.2.2.1.2.2.2).bind λb=>(A (qe.mk a.n_ a.P_ b.V_,x.1)).bind λc=>if q (0<=c)=g then(za x.2.2.2 x.2.2.1.2.2.2).bind λd=>(za x.2.2.2 x.2.2.1.2.2.2).bind λe=>(za e.V_ c).bind λi=>(za x.2.2.2 x.2.2.1.2.2.2).bind λj=>(za j.V_ c).bind λl=>(B (q (l.n_=x.1) && (q (l.M_=x.2.1.M_) && (q (l.t_=x.2.1.t_) && g)),40,x.2.2)).bind λm=>F (λn=>f (y n)) (λn=>f (M n)) m else(za x.2.2.2 x.2.2.1.2.2.2).bind λn=>(za x.2.2.2 x.2.2.1.2.2.2).bind λo=>(zo 32 o.V_ [qj.mk x.1 x.2.1.M_ x.2.1.t_]).bind λp=>(za x.2.2.2 x.2.2.1.2.2.2).bind λr=>bif q (x.2.2.1.2.2.2=x.2.2.1.2.2.2) then f (M (x.2.2.1,Sl.set x.2.2.2 x.2.2.1.2.2.2 (qe.mk r.n_ r.P_ p))) else X
def q38:zqb->U3 zE:=qaf q2k q16
theorem qja:q38=zlv.F:=by delta q38;rw[qbp,q30];kernel_rfl
def qap(x:qe×q8):Uf:=f (q (x.1.n_=x.2.T_))
def q4t:qe×q8->Uf:=qap
theorem qgx:q4t=zo3.F:=by kernel_rfl
def q72(A:qe×q8->Uf):zqN->U3 (Step zqN zwF):=λa=>if q (a.2.1 < a.1)=g then(za a.2.2.1 a.2.1).bind λb=>(za a.2.2.1 a.2.1).bind λc=>(za a.2.2.1 a.2.1).bind λd=>(A (qe.mk c.n_ c.P_ d.V_,ke a.2.2.2)).bind λe=>if e=g then f (Step.done (y (a.2.1,a.2.2.1,ke a.2.2.2))) else f (Step.next (a.1,U4 (a.2.1+1),a.2.2.1,ke a.2.2.2)) else f (Step.done (M (a.2.2.1,ke a.2.2.2)))
def qbg(A:qe×q8->Uf)(x:Uy×q8):U3 zg6:=(lpO (q72 A) (Sl.len x.1,0,x.1,ke x.2)).bind λa=>F (λb=>f (b.1,b.2.1,ke b.2.2)) (λb=>f (-1,b.1,ke b.2)) a
def q3y:Uy×q8->U3 zg6:=qbg q4t
theorem qk1:q3y=zlw.F:=by delta q3y;rw[qgx];kernel_rfl
def q68(A:W5)(B:zfG):zpV->U3 (Step zpV zE):=λa=>if q (a.2.2.2.1 < a.2.2.1)=g then(za a.2.1 a.2.2.2.1).bind λb=>(za a.2.2.2.2.2 a.1.1).bind λc=>(z8 c.V_ a.1.2.1 a.1.2.2).bind λd=>(za d a.2.2.2.1).bind λe=>(za a.2.2.2.2.2 a.1.1).bind λi=>(za i.V_ (a.1.2.1+a.2.2.2.1)).bind λj=>(B (ke b,j,a.2.2.2.2)).bind λl=>F (λm=>f (Step.done (y m))) (λm=>f (Step.next (a.1,a.2.1,a.2.2.1,U4 (a.2.2.2.1+1),m))) l else f (Step.done (M a.2.2.2.2))
def q7s(A:W5)(B:zfG)(x:zp0):U3 zE:=(za x.2.2.2 x.2.1.1).bind λa=>(z8 a.V_ x.2.1.2.1 x.2.1.2.2).bind λb=>(A (q (Sl.len x.1=x.2.1.2.2 - x.2.1.2.1),51,x.2.2)).bind λc=>F (λd=>f (y d)) (λd=>(lpO (q68 A B) (x.2.1,x.1,Sl.len x.1,0,d)).bind λe=>F (λi=>f (y i)) (λi=>f (M i)) e) c
def q1w:zp0->U3 zE:=q7s q16 q1h
theorem qhc:q1w=zlx.F:=by delta q1w;rw[q30,qdi];kernel_rfl
def q59(A:zuT)(B:zuR)(C:zpF)(D:zqp)(E:W5)(G:tA9)(H:zfG)(I:zh6):zpT->U3 (Step zpT zdP):=λa=>if q (a.2.2.2.2.2.1 < a.2.2.2.2.1)=g then(za a.2.2.2.1 a.2.2.2.2.2.1).bind λb=>(I (b.K_,a.2.2.2.2.2.2.1,a.2.2.2.2.2.2.2.1)).bind λc=>F (λd=>f (Step.done (y d))) (λd=>f (Step.next (a.1,a.2.1,a.2.2.1,a.2.2.2.1,a.2.2.2.2.1,U4 (a.2.2.2.2.2.1+1),d.1,d.2,a.2.2.2.2.2.2.2.2))) c else f (Step.done (M (a.1,a.2.1,a.2.2.1,a.2.2.2.2.2.2)))
def q22(A:zuT)(B:zuR)(C:zpF)(D:zqp)(E:W5)(G:tA9)(H:zfG)(I:zh6):Wu->U3 (Step Wu zE):=λa=>if q (a.2.2.1 < a.2.1)=g then(za a.1 a.2.2.1).bind λb=>(if q (b.k_=10)=g then((za b.K_ 0).bind λc=>(A (ke c,(a.2.2.2.1.1,a.2.2.2.1.2.1,b.a_,a.2.2.2.1.2.2.2),a.2.2.2.2.1)).bind λd=>F (λe=>(B (b.T_,e)).bind λi=>F (λj=>f (y j)) (λj=>f (M (a.1,a.2.1,a.2.2.1,j.1,j.2,a.2.2.2.2.2))) i) (λe=>f (y e)) d).bind λc=>F (λd=>f (y d)) (λd=>f (M d)) c else(if q (b.k_=20)=g then(za b.K_ 0).bind λd=>(C (ke d,(a.2.2.2.1.1,a.2.2.2.1.2.1,b.a_,a.2.2.2.1.2.2.2),a.2.2.2.2.1)).bind λe=>F (λi=>f (y i)) (λi=>f (M (a.1,a.2.1,a.2.2.1,i.2.1,i.2.2,a.2.2.2.2.2))) e else(if q (b.k_=19)=g then(D (a.2.2.2.2.1,ke b)).bind λi=>(E (q (0<=i.1),31,(a.2.2.2.1.1,a.2.2.2.1.2.1,b.a_,a.2.2.2.1.2.2.2),i.2.1)).bind λj=>F (λl=>f (y l)) (λl=>(za l.2 i.1).bind λm=>(za l.2 i.1).bind λn=>(za l.2 i.1).bind λo=>(za l.2 i.1).bind λp=>(za l.2 i.1).bind λr=>(z8 r.V_ 0 p.P_).bind λs=>(G (i.2.2.K_,(i.1,0,p.P_),l)).bind λt=>F (λu=>f (y u)) (λu=>f (M (a.1,a.2.1,a.2.2.1,u.1,u.2,a.2.2.2.2.2))) t) j else(if q (b.k_=15)=g then f (a.1,a.2.1,a.2.2.1,b.k_,q (b.k_=15),(a.2.2.2.1.1,a.2.2.2.1.2.1,b.a_,a.2.2.2.1.2.2.2),a.2.2.2.2.1,a.2.2.2.2.2,ke b) else f (a.1,a.2.1,a.2.2.1,b.k_,q (b.k_=16),(a.2.2.2.1.1,a.2.2.2.1.2.1,b.a_,a.2.2.2.1.2.2.2),a.2.2.2.2.1,a.2.2.2.2.2,ke b)).bind λl=>(if l.2.2.2.2.1=g then(za l.2.2.2.2.2.2.2.2.K_ 0).bind λm=>(H (ke m,l.2.2.2.2.2.2.2.1,l.2.2.2.2.2.1,l.2.2.2.2.2.2.1)).bind λn=>F (λo=>f (y o)) (λo=>(za l.2.2.2.2.2.2.2.2.K_ 1).bind λp=>(H (ke p,l.2.2.2.2.2.2.2.1,o)).bind λr=>F (λs=>f (y s)) (λs=>(z8 l.2.2.2.2.2.2.2.2.K_ 2 l.2.2.2.2.2.2.2.2.K_.len).bind λt=>(lpO (q59 A B C D E G H I) (l.1,l.2.1,l.2.2.1,t,t.len,0,s.1,s.2,l.2.2.2.2.2.2.2.1)).bind λu=>F (λv=>f (y v)) (λv=>f (M v)) u) r) n else(if q (l.2.2.2.1=17)=g then(E (q (l.2.2.2.2.2.2.2.2.K_.len=0),35,l.2.2.2.2.2.1,l.2.2.2.2.2.2.1)).bind λo=>F (λp=>f (y p)) (λp=>f (M (l.1,l.2.1,l.2.2.1,p.1,p.2,l.2.2.2.2.2.2.2.1))) o else(if q (l.2.2.2.1=18)=g then f (y (l.1,l.2.1,l.2.2.1,l.2.2.2.2.2.1,l.2.2.2.2.2.2.1,l.2.2.2.2.2.2.2.1)) else(E (N,50,l.2.2.2.2.2.1,l.2.2.2.2.2.2.1)).bind λp=>F (λr=>f (M r)) (λr=>f (y (l.1,l.2.1,l.2.2.1,r.1,r.2,l.2.2.2.2.2.2.2.1))) p).bind λp=>F (λr=>f (M r)) (λr=>f (y r)) p).bind λo=>F (λp=>f (y p)) (λp=>f (M p)) o).bind λm=>F (λn=>f (y n)) (λn=>f (M n)) m).bind λi=>F (λj=>f (y j)) (λj=>f (M j)) i).bind λd=>F (λe=>f (y e)) (λe=>f (M e)) d).bind λc=>F (λd=>f (Step.done (y d))) (λd=>f (Step.next (d.1,d.2.1,U4 (d.2.2.1+1),d.2.2.2))) c else f (Step.done (M (a.2.2.2.1,a.2.2.2.2.1)))
def q6n(A:zuT)(B:zuR)(C:zpF)(D:zqp)(E:W5)(G:tA9)(H:zfG)(I:zh6)(x:zwo):U3 zE:=(lpO (q22 A B C D E G H I) (x.1,Sl.len x.1,0,x.2.1,x.2.2,qj.mk (lit []) 1 0)).bind λa=>F (λb=>f (y b)) (λb=>f (M b)) a
def q5c(h:zcq):zcq:=q6n q25 q38 q1x q3y q16 q1w q1h h
theorem qhd(h:zcq):@Eq zcq (zi4 h) (q5c h):=by delta q5c;rw[qir,qja,qfv,qk1,q30,qhc,qdi];kernel_rfl
def q2g:Nat->zwo->U3 zE
 |0=>λ_=>X
 |k+1=>q5c (q2g k)
theorem qef:∀k,@Eq zcq (zgn k) (q2g k)
 |0=>rfl
 |k+1=>(qhd (zgn k)).trans (congrArg q5c (qef k))
def q3w:zcq:=q2g 100000
theorem qi1:@Eq zcq zyS q3w:=qef 100000
def qem(x:q8):U3 q8:=if q (x.K_.len=0)=g then f (q8.mk 0 (lit []) 0 0 (O [] N)) else(za x.K_ 0).bind λa=>f (ke a)
def q7g:zkj:=qem
theorem qkt:q7g=zhI.F:=by kernel_rfl
def qgo(x:q8):U3 qz:=f (qz.mk x.T_ x.N_)
def qal:zcH:=qgo
theorem qhe:qal=zhJ.F:=by kernel_rfl
def qg6(A:zcH)(x:q8×Int):U3 qz:=if q (x.1.K_.len<=x.2)=g then f (qz.mk (lit []) 0) else(za x.1.K_ x.2).bind λa=>(A (ke a)).bind λb=>f b
def q36:zqP:=qg6 qal
theorem qis:q36=zb4.F:=by delta q36;rw[qhe];kernel_rfl
def qdn(A:zcH):zqG->U3 (Step zqG (Sl qz)):=λa=>if q (a.2.2.1 < a.2.1)=g then(za a.1 a.2.2.1).bind λb=>(A (ke b)).bind λc=>(zo 24 a.2.2.2 [c]).bind λd=>f (Step.next (a.1,a.2.1,U4 (a.2.2.1+1),d)) else f (Step.done a.2.2.2)
def qgp(A:zcH)(x:q8):U3 (Sl qz):=(lpO (qdn A) (x.K_,x.K_.len,0,O [] N)).bind λa=>f a
def qbw:zj4:=qgp qal
theorem qk7:qbw=zhK.F:=by delta qbw;rw[qhe];kernel_rfl
def qc3(x:ql×Sl ql):U3 v6:=(zo 136 x.2 [x.1]).bind λa=>f (U4 (a.len - 1),a)
def q2q:ql×Sl ql->U3 v6:=qc3
theorem qd4:q2q=VH.F:=by kernel_rfl
def qc4(A:zqP)(B:zj4)(C:zcH)(D:zg0)(x:zke):U3 (Sl ql):=(if q (x.2.1.k_=21)=g then f (x.2.1.k_,q (x.2.1.k_=21),x.2.2,ke x.2.1,0,x.1.a_,x.1.T_,lit [],lit [],0,lit [],0,0,N) else f (x.2.1.k_,q (x.2.1.k_=22),x.2.2,ke x.2.1,0,x.1.a_,x.1.T_,lit [],lit [],0,lit [],0,0,N)).bind λa=>(if a.2.1=g then(A (ke a.2.2.2.1,0)).bind λb=>(A (ke a.2.2.2.1,1)).bind λc=>f (a.2.2.1,(U4 (1+U4 (a.2.2.2.1.k_ - 21)),a.2.2.2.2.2.1,a.2.2.2.2.2.2.1,a.2.2.2.2.2.2.2.1,b.n_,b.N_,c.n_,c.N_,a.2.2.2.2.2.2.2.2.2.2.2.2),O [] N) else(if q (a.1=23)=g then f (a.2.2.1,(3,a.2.2.2.2.2.1,a.2.2.2.2.2.2.1,a.2.2.2.2.2.2.2.1,lit [],a.2.2.2.1.N_,a.2.2.2.2.2.2.2.2.2.2),O [] N) else(if q (a.1=24)=g then f (a.2.2.1,(4,a.2.2.2.2.2.1,a.2.2.2.2.2.2.1,a.2.2.2.2.2.2.2.1,a.2.2.2.1.T_,0,a.2.2.2.2.2.2.2.2.2.2),O [] N) else(if q (a.1=25)=g then(A (ke a.2.2.2.1,0)).bind λd=>f (a.2.2.1,(5,a.2.2.2.2.2.1,a.2.2.2.2.2.2.1,a.2.2.2.1.T_,d.n_,d.N_,a.2.2.2.2.2.2.2.2.2.2),O [] N) else(if q (a.1=28)=g then(B (ke a.2.2.2.1)).bind λe=>f (a.2.2.1,(12,a.2.2.2.2.2.1,a.2.2.2.2.2.2.1,a.2.2.2.1.T_,a.2.2.2.2.2.2.2.2),e) else(if q (a.1=26)=g then f (q (a.1=26),a.2.2.1,ke a.2.2.2.1,a.2.2.2.2) else f (q (a.1=27),a.2.2.1,ke a.2.2.2.1,a.2.2.2.2)).bind λi=>(if i.1=g then f (i.2.1,i.2.2.2.1,i.2.2.2.2.1,i.2.2.2.2.2.1,i.2.2.2.2.2.2.1,i.2.2.1.T_,0,i.2.2.2.2.2.2.2.2.2) else(C (ke i.2.2.1)).bind λj=>f (i.2.1,i.2.2.2.1,i.2.2.2.2.1,i.2.2.2.2.2.1,i.2.2.2.2.2.2.1,j.n_,j.N_,i.2.2.2.2.2.2.2.2.2)).bind λj=>f (j.1,j.2,O [] N)).bind λe=>f e).bind λd=>f d).bind λd=>f d).bind λd=>f d).bind λb=>(D (ql.mk b.2.1.1 b.2.1.2.1 b.2.1.2.2.1 b.2.1.2.2.2.1 (qz.mk b.2.1.2.2.2.2.1 b.2.1.2.2.2.2.2.1) (qz.mk b.2.1.2.2.2.2.2.2.1 b.2.1.2.2.2.2.2.2.2.1) b.2.2 b.2.1.2.2.2.2.2.2.2.2.1 b.2.1.2.2.2.2.2.2.2.2.2,b.1)).bind λc=>f c.2
def q6s:zke->U3 (Sl ql):=qc4 q36 qbw qal q2q
theorem qkb:q6s=zly.F:=by delta q6s;rw[qis,qk7,qhe,qd4];kernel_rfl
def q4y(A:zqP)(B:zg0)(C:zeA)(x:q8×Sl ql):U3 (Sl ql):=if q (x.1.K_.len < 3)=g then f x.2 else(A (ke x.1,0)).bind λa=>(A (ke x.1,1)).bind λb=>(B (ql.mk 10 x.1.a_ x.1.T_ (lit []) a b (O [] N) 0 N,x.2)).bind λc=>(za x.1.K_ 2).bind λd=>(C (ke d,c.2)).bind λe=>(B (ql.mk 11 x.1.a_ (lit []) (lit []) (qz.mk (lit []) 0) (qz.mk (lit []) 0) (O [] N) c.1 N,e)).bind λi=>(za i.2 c.1).bind λj=>(za i.2 c.1).bind λl=>(if q (x.1.k_=15)=g then f (i.1,q (3 < x.1.K_.len),ke x.1,Sl.set i.2 c.1 (ql.mk l.O_ l.a_ l.X_ l.Y_ l.A_ l.B_ l.Q_ (Sl.len i.2) l.H_)) else f (i.1,N,ke x.1,Sl.set i.2 c.1 (ql.mk l.O_ l.a_ l.X_ l.Y_ l.A_ l.B_ l.Q_ (Sl.len i.2) l.H_))).bind λm=>(if m.2.1=g then(za m.2.2.1.K_ 3).bind λn=>(C (ke n,m.2.2.2)).bind λo=>(za o m.1).bind λp=>(za o m.1).bind λr=>f (o.set m.1 (ql.mk r.O_ r.a_ r.X_ r.Y_ r.A_ r.B_ r.Q_ o.len r.H_)) else f m.2.2.2).bind λn=>f n
def q2j(h:yJ):yJ:=q4y q36 q2q h
theorem qfw(h:yJ):@Eq yJ (zgp h) (q2j h):=by delta q2j;rw[qis,qd4];kernel_rfl
def q5s(A:zkj)(B:zke->U3 (Sl ql))(C:zeA)(D:zqP)(E:zj4)(G:zg0)(x:q8×Sl ql):U3 (Sl ql):=(if q (x.1.k_=10)=g then(A (ke x.1)).bind λa=>(B (ke x.1,ke a,x.2)).bind λb=>f (y b) else(if q (x.1.k_=15)=g then f (x.1.k_,q (x.1.k_=15),x.2,ke x.1,0,x.1.a_,lit [],x.1.T_,lit [],0,lit [],0,0,N) else f (x.1.k_,q (x.1.k_=16),x.2,ke x.1,0,x.1.a_,lit [],x.1.T_,lit [],0,lit [],0,0,N)).bind λ(c:zz8)=>if c.2.1=g then(C (ke c.2.2.2.1,c.2.2.1)).bind λd=>f (y d) else(if q (c.1=11)=g then(D (ke c.2.2.2.1,0)).bind λe=>(D (ke c.2.2.2.1,1)).bind λi=>f (c.2.2.1,(6,c.2.2.2.2.2.1,c.2.2.2.2.2.2.1,c.2.2.2.2.2.2.2.1,e.n_,e.N_,i.n_,i.N_,c.2.2.2.2.2.2.2.2.2.2.2.2),O [] N) else(if q (c.1=12)=g then f (c.2.2.1,(7,c.2.2.2.2.2),O [] N) else(if q (c.1=13)=g then f (c.2.2.1,(8,c.2.2.2.2.2.1,c.2.2.2.2.2.2.1,c.2.2.2.2.2.2.2.1,lit [],c.2.2.2.1.N_,c.2.2.2.2.2.2.2.2.2.2),O [] N) else(if q (c.1=14)=g then f (c.2.2.1,(9,c.2.2.2.2.2.1,c.2.2.2.2.2.2.1,c.2.2.2.2.2.2.2.1,lit [],c.2.2.2.1.N_,c.2.2.2.2.2.2.2.2.2.2),O [] N) else(if q (c.1=20)=g then(A (ke c.2.2.2.1)).bind λj=>(A (ke c.2.2.2.1)).bind λl=>(E (ke l)).bind λm=>f (c.2.2.1,(12,c.2.2.2.2.2.1,c.2.2.2.2.2.2.1,j.T_,c.2.2.2.2.2.2.2.2),m) else(if q (c.1=19)=g then(E (ke c.2.2.2.1)).bind λn=>f (c.2.2.1,(13,c.2.2.2.2.2),n) else(if q (c.1=17)=g then(D (ke c.2.2.2.1,0)).bind λo=>f (c.2.2.1,14,c.2.2.2.2.2.1,c.2.2.2.2.2.2.1,lit [],o.n_,o.N_,c.2.2.2.2.2.2.2.2.2.2.1,c.2.2.2.2.2.2.2.2.2.2.2.1,c.2.2.2.2.2.2.2.2.2.2.2.2.1,q (0 < c.2.2.2.1.K_.len)) else f (c.2.2.1,15,c.2.2.2.2.2.1,c.2.2.2.2.2.2.1,lit [],c.2.2.2.2.2.2.2.2)).bind λ(o:zvH)=>f (o.1,o.2,O [] N)).bind λ(n:vF)=>f n).bind λ(j:vF)=>f j).bind λ(j:vF)=>f j).bind λ(j:vF)=>f j).bind λ(j:vF)=>f j).bind λ(e:vF)=>f (M e)).bind λ(a:Sl ql⊕Sl ql×(Int×Int×U0×U0×U0×Int×U0×Int×Int×Bool)×Sl qz)=>F (λb=>f b) (λb=>(G (ql.mk b.2.1.1 b.2.1.2.1 b.2.1.2.2.1 b.2.1.2.2.2.1 (qz.mk b.2.1.2.2.2.2.1 b.2.1.2.2.2.2.2.1) (qz.mk b.2.1.2.2.2.2.2.2.1 b.2.1.2.2.2.2.2.2.2.1) b.2.2 b.2.1.2.2.2.2.2.2.2.2.1 b.2.1.2.2.2.2.2.2.2.2.2,b.1)).bind λc=>f c.2) a
def q20(h:yJ):yJ:=q5s q7g q6s (q2j h) q36 qbw q2q
theorem qg8(h:yJ):@Eq yJ (zgq h) (q20 h):=by delta q20;rw[qkt,qkb,<-qfw h,qis,qk7,qd4];kernel_rfl
def q80(A:zeA):zqH->U3 (Step zqH (Sl ql)):=λa=>if q (a.2.2.1 < a.2.1)=g then(za a.1 a.2.2.1).bind λb=>(A (ke b,a.2.2.2)).bind λc=>f (Step.next (a.1,a.2.1,U4 (a.2.2.1+1),c)) else f (Step.done a.2.2.2)
def q82(A:zeA)(x:q8×Sl ql):U3 (Sl ql):=(lpO (q80 A) (x.1.K_,x.1.K_.len,0,x.2)).bind λa=>f a
def q6i(h:yJ):yJ:=q82 (q20 h)
theorem qjb(h:yJ):@Eq yJ (zi5 h) (q6i h):=by delta q6i;rw[<-qg8 h];kernel_rfl
def q2o:Nat->(q8×Sl ql)->U3 (Sl ql)
 |0=>λ_=>X
 |k+1=>q6i (q2o k)
theorem qaz:∀k,@Eq yJ (zb5 k) (q2o k)
 |0=>rfl
 |k+1=>(qjb (zb5 k)).trans (congrArg q6i (qaz k))
def q8w:yJ:=q2o 100000
theorem qjp:@Eq yJ zyY q8w:=qaz 100000
def qd7(A:zeA)(B:zg0):zgT->U3 (Step zgT zwn):=λa=>if q (a.2.2.1 < a.2.1)=g then(za a.1 a.2.2.1).bind λb=>(if q (b.k_=7)=g then(zo 16 a.2.2.2.2.2.1 [b.T_]).bind λc=>f (a.1,a.2.1,a.2.2.1,a.2.2.2.1,a.2.2.2.2.1,c,a.2.2.2.2.2.2) else(if q (b.k_=9)=g then(A (ke b,a.2.2.2.2.2.2)).bind λd=>(B (ql.mk 14 b.a_ (lit []) (lit []) (qz.mk (lit []) 0) (qz.mk (lit []) 0) (O [] N) 0 N,d)).bind λe=>f (a.1,a.2.1,a.2.2.1,a.2.2.2.1,a.2.2.2.2.1,a.2.2.2.2.2.1,e.2) else f a).bind λd=>f d).bind λc=>f (Step.next (c.1,c.2.1,U4 (c.2.2.1+1),c.2.2.2)) else f (Step.done a.2.2.2)
def qen(A:zeA)(B:zg0)(x:q8):U3 q1j:=if q (x.k_≠6)=g then f (q1j.mk (lit []) (O [] N) (O [] N)) else(lpO (qd7 A B) (x.K_,x.K_.len,0,lit [],x.T_,O [] N,O [] N)).bind λa=>f (q1j.mk a.2.1 a.2.2.1 a.2.2.2)
def q52:zcG:=qen q8w q2q
theorem qjq:q52=zo5.F:=by delta q52;rw[<-qjp,qd4];kernel_rfl
def qai(A:W5)(x:zp6):U3 zE:=(A (x.2.1,x.2.2.1,(x.2.2.2.1.1,x.2.2.2.1.2.1,x.1.a_,x.2.2.2.1.2.2.2),x.2.2.2.2)).bind λa=>F (λb=>f (y b)) (λb=>f (M b)) a
def q3q:zp6->U3 zE:=qai q16
theorem qgt:q3q=ztM.F:=by delta q3q;rw[q30];kernel_rfl
def qd0(x:zjP):U3 Yi:=f (x.1.1,x.1.2,x.2.2.2)
def q6g:zjP->U3 Yi:=qd0
theorem qjd:@Eq ((zjP)->U3 Yi) ztP q6g:=by kernel_rfl
def qbz(x:Yi):U3 Yi:=f x
def q5p:Yi->U3 Yi:=qbz
theorem qi2:@Eq ((Yi)->U3 Yi) ztS q5p:=by kernel_rfl
def q73(A:zmu)(B:zuS)(C:zp2)(D:zh6)(E:zcG)(G:zuQ)(H:zqh):zap->U3 (Step zap zjo):=λa=>if q (a.2.2.1 < a.2.1)=g then((za a.1 a.2.2.1).bind λb=>(A (ke b,q (b.k_=6),50,a.2.2.2.2.2.2)).bind λc=>F (λd=>f (y (d.1,ke a.2.2.2.1,a.2.2.2.2.1,a.2.2.2.2.2.1))) (λd=>(yd ((B (ke b,d)).bind λe=>F (λi=>f (y (i.1,ke a.2.2.2.1,a.2.2.2.2.1,a.2.2.2.2.2.1))) (λi=>(zo 48 i.2.2.1 [qe.mk i.1.1 i.1.2 i.2.2.2]).bind λj=>f (M (a.1,a.2.1,a.2.2.1,ke a.2.2.2.1,a.2.2.2.2.1,a.2.2.2.2.2.1,i.2.1,j))) e) ((B (ke b,d)).bind λe=>F (λi=>f (y (i.1,ke a.2.2.2.1,a.2.2.2.2.1,a.2.2.2.2.2.1))) (λi=>yd ((zo 48 i.2.2.1 [qe.mk i.1.1 i.1.2 i.2.2.2]).bind λj=>f (M (a.1,a.2.1,a.2.2.1,ke a.2.2.2.1,a.2.2.2.2.1,a.2.2.2.2.2.1,i.2.1,j))) ((zo 48 i.2.2.1 [qe.mk i.1.1 i.1.2 i.2.2.2]).bind λj=>f (M (a.1,a.2.1,a.2.2.1,ke a.2.2.2.1,a.2.2.2.2.1,a.2.2.2.2.2.1,i.2.1,j)))) e)).bind λe=>F (λi=>f (y (i.1,ke i.2.1,i.2.2))) (λi=>f (M (i.1,i.2.1,i.2.2.1,ke i.2.2.2.1,i.2.2.2.2))) e) c).bind λb=>F (λc=>f (Step.done (y (c.1,ke c.2.1,c.2.2)))) (λc=>f (Step.next (c.1,c.2.1,U4 (c.2.2.1+1),ke c.2.2.2.1,c.2.2.2.2))) b else f (Step.done (M (ke a.2.2.2.1,a.2.2.2.2)))
def q74(A:zmu)(B:zuS)(C:zp2)(D:zh6)(E:zcG)(G:zuQ)(H:zqh):zap->U3 (Step zap zjo):=λa=>if q (a.2.2.1 < a.2.1)=g then((za a.1 a.2.2.1).bind λb=>(za a.2.2.2.2.2.2.2 a.2.2.1).bind λc=>(za b.K_ (U4 (b.K_.len - 1))).bind λd=>(D (d.K_,(a.2.2.2.2.2.2.1.1,a.2.2.2.2.2.2.1.2.1,a.2.2.2.2.2.2.1.2.2,a.2.2.1),a.2.2.2.2.2.2.2)).bind λe=>F (λi=>f (y (i.1,ke a.2.2.2.1,a.2.2.2.2.1,a.2.2.2.2.2.1))) (λi=>((za i.2 i.1.2.2.2).bind λj=>(za i.2 i.1.2.2.2).bind λl=>if q (l.V_.len<=64)=g then(E (ke b)).bind λm=>(G (ke b,q (m.L_.len<=512),22,i)).bind λn=>F (λo=>f (y (o.1,ke a.2.2.2.1,a.2.2.2.2.1,a.2.2.2.2.2.1))) (λo=>f (M (a.1,a.2.1,a.2.2.1,ke a.2.2.2.1,a.2.2.2.2.1,a.2.2.2.2.2.1,o))) n else(G (ke b,N,22,i)).bind λo=>F (λp=>f (y (p.1,ke a.2.2.2.1,a.2.2.2.2.1,a.2.2.2.2.2.1))) (λp=>f (M (a.1,a.2.1,a.2.2.1,ke a.2.2.2.1,a.2.2.2.2.1,a.2.2.2.2.2.1,p))) o).bind λj=>F (λl=>f (y (l.1,ke l.2.1,l.2.2))) (λl=>f (M (l.1,l.2.1,l.2.2.1,ke l.2.2.2.1,l.2.2.2.2))) j) e).bind λb=>F (λc=>f (Step.done (y (c.1,ke c.2.1,c.2.2)))) (λc=>f (Step.next (c.1,c.2.1,U4 (c.2.2.1+1),ke c.2.2.2.1,c.2.2.2.2.1,c.2.2.2.2.2.1,(c.2.2.2.2.2.2.1.1,c.2.2.2.2.2.2.1.2.1,c.2.2.2.2.2.2.1.2.2.1),c.2.2.2.2.2.2.2))) b else f (Step.done (M (ke a.2.2.2.1,a.2.2.2.2)))
def qdv(A:zmu)(B:zuS)(C:zp2)(D:zh6)(E:zcG)(G:zuQ)(H:zqh)(x:zqR):U3 Yi:=(lpO (q73 A B C D E G H) (x.1.K_,x.1.K_.len,0,ke x.1,0,0,(x.2.1,x.2.2,0),O [] N)).bind λa=>F (λb=>(C (b.1,b.2.2.1,b.2.2.2,O [] N)).bind λc=>f (c.1,c.2.1,O [] N)) (λb=>(lpO (q74 A B C D E G H) (b.1.K_,b.1.K_.len,0,ke b.1,b.2)).bind λc=>F (λd=>(C (d.1,d.2.2.1,d.2.2.2,O [] N)).bind λe=>f (e.1,e.2.1,O [] N)) (λd=>(H (0,0,d.2.2.2.2)).bind λe=>f e) c) a
def q7n:zqR->U3 Yi:=qdv q21 q3e q6g q3w q52 q3q q5p
theorem qkn:@Eq ((zqR)->U3 Yi) zy4 q7n:=by delta q7n;rw[qee,qip,<-qjd,<-qi1,qjq,qgt,<-qi2];kernel_rfl
def q9o(x:zjv):U3 ZB:=(if q (x.2.2.1.2.2.2=0)=g then f ((x.2.2.1.1,x.2.2.1.2.1,x.1,x.2.1),x.2.2.2) else f x.2.2).bind λa=>f a
def q1b:zjv->U3 ZB:=q9o
theorem qd5:q1b=zdx.F:=by kernel_rfl
def q5q:zqn->U3 (Step zqn zv3):=λa=>if q (a.2.1 < Sl.len a.2.2.2)=g then(za a.2.2.2 a.2.1).bind λb=>(za a.2.2.2 a.2.1).bind λc=>if q (c.n_=a.1)=g then f (Step.done (y a.2)) else f (Step.next (a.1,U4 (a.2.1+1),a.2.2)) else f (Step.done (M a.2.2))
def q9p(x:zjH):U3 zev:=(lpO q5q (x.1,0,x.2)).bind λa=>F (λb=>f b) (λb=>f (-1,b)) a
def q46:zjH->U3 zev:=q9p
theorem qit:q46=zo6.F:=by kernel_rfl
def q5r(A:zdQ)(B:zvN)(C:vW):zu9->U3 (Step zu9 zAf):=λa=>if q (a.2.1 < a.1)=g then(za a.2.2.2.2.1.K_ a.2.1).bind λb=>(za b.K_ 0).bind λc=>(B (b.T_,a.2.2.2.2.2.2)).bind λd=>(if q (0<=d.1)=g then(A (b.a_,30,a.2.2.1,a.2.2.2.1)).bind λe=>f (a.1,a.2.1,e.1,e.2,kr a.2.2.2.2.1,a.2.2.2.2.2.1,d.2.1,kr b,kr c,d.2.2) else f (a.1,a.2.1,a.2.2.1,a.2.2.2.1,kr a.2.2.2.2.1,a.2.2.2.2.2.1,d.2.1,kr b,kr c,d.2.2)).bind λe=>(if q (e.2.2.2.2.2.2.2.2.1.T_=lit [38])=g then f (e.1,e.2.1,g,e.2.2.1,e.2.2.2.1,kr e.2.2.2.2.1,e.2.2.2.2.2.1,e.2.2.2.2.2.2.1,kr e.2.2.2.2.2.2.2.2.1,qh.mk e.2.2.2.2.2.2.2.1.T_ 1 0,e.2.2.2.2.2.2.2.2.2) else f (e.1,e.2.1,q (e.2.2.2.2.2.2.2.2.1.T_=lit [38,109,117,116]),e.2.2.1,e.2.2.2.1,kr e.2.2.2.2.1,e.2.2.2.2.2.1,e.2.2.2.2.2.2.1,kr e.2.2.2.2.2.2.2.2.1,qh.mk e.2.2.2.2.2.2.2.1.T_ 1 0,e.2.2.2.2.2.2.2.2.2)).bind λi=>(if i.2.2.1=g then(A (i.2.2.2.2.2.2.2.2.1.a_,34,i.2.2.2.1,i.2.2.2.2.1)).bind λj=>f (i.1,i.2.1,j.1,j.2,kr i.2.2.2.2.2.1,i.2.2.2.2.2.2.1,i.2.2.2.2.2.2.2.1,kr i.2.2.2.2.2.2.2.2.1,i.2.2.2.2.2.2.2.2.2) else f (i.1,i.2.1,i.2.2.2.1,i.2.2.2.2.1,kr i.2.2.2.2.2.1,i.2.2.2.2.2.2.1,i.2.2.2.2.2.2.2.1,kr i.2.2.2.2.2.2.2.2.1,i.2.2.2.2.2.2.2.2.2)).bind λj=>(if q (j.2.2.2.2.2.2.2.1.T_=lit [111,119,110])=g then(za j.2.2.2.2.2.2.2.1.K_ 0).bind λl=>(C (j.2.2.1.2.1,l.T_)).bind λm=>(if q (m < 0)=g then(A (j.2.2.2.2.2.2.2.1.a_,31,j.2.2.1,j.2.2.2.1)).bind λn=>f (j.1,j.2.1,n.1,n.2,kr j.2.2.2.2.1,j.2.2.2.2.2.1,j.2.2.2.2.2.2.1,qh.mk j.2.2.2.2.2.2.2.2.1.n_ 2 m,j.2.2.2.2.2.2.2.2.2) else f (j.1,j.2.1,j.2.2.1,j.2.2.2.1,kr j.2.2.2.2.1,j.2.2.2.2.2.1,j.2.2.2.2.2.2.1,qh.mk j.2.2.2.2.2.2.2.2.1.n_ 2 m,j.2.2.2.2.2.2.2.2.2)).bind λn=>f (n.1,n.2.1,n.2.2.1,n.2.2.2.1,kr n.2.2.2.2.1,n.2.2.2.2.2) else f (j.1,j.2.1,j.2.2.1,j.2.2.2.1,kr j.2.2.2.2.1,j.2.2.2.2.2.1,j.2.2.2.2.2.2.1,j.2.2.2.2.2.2.2.2)).bind λl=>(zo 32 l.2.2.2.2.2.2.2.2 [l.2.2.2.2.2.2.2.1]).bind λm=>f (Step.next (l.1,U4 (l.2.1+1),l.2.2.1,l.2.2.2.1,kr l.2.2.2.2.1,l.2.2.2.2.2.1,l.2.2.2.2.2.2.1,m)) else f (Step.done (a.1,a.2.2.1,a.2.2.2.1,kr a.2.2.2.2.1,a.2.2.2.2.2))
def q9q(A:zdQ)(B:zvN)(C:vW)(x:zgY):U3 zjq:=if q (8 < U4 (x.1.K_.len - 2))=g then(A (x.1.a_,22,x.2)).bind λa=>f ((x.1.T_,U4 (x.1.K_.len - 2)),a.1,a.2,O [] N) else(lpO (q5r A B C) (U4 (x.1.K_.len - 2),0,x.2.1,x.2.2,kr x.1,(lit [],0),(x.1.T_,U4 (x.1.K_.len - 2)),O [] N)).bind λb=>(za b.2.2.2.1.K_ b.1).bind λc=>(if q (c.T_≠lit [])=g then(za b.2.2.2.1.K_ b.1).bind λd=>(A (d.a_,35,b.2.1,b.2.2.1)).bind λe=>f (e.1,e.2,b.2.2.2.2) else f (b.2.1,b.2.2.1,b.2.2.2.2)).bind λd=>f (d.2.2.2.1,d.1,d.2.1,d.2.2.2.2)
def q47:zgY->U3 zjq:=q9q q1b q46 q1a
theorem qiu:q47=ztW.F:=by delta q47;rw[qd5,qit,qd3];kernel_rfl
def q4u:zqD->U3 (Step zqD zeF):=λa=>(za a.2.2.2 a.1).bind λb=>(za a.2.2.2 a.1).bind λc=>if q (a.2.2.1 < c.V_.len)=g then(za a.2.2.2 a.1).bind λd=>(za a.2.2.2 a.1).bind λe=>(za e.V_ a.2.2.1).bind λi=>(za a.2.2.2 a.1).bind λj=>(za j.V_ a.2.2.1).bind λl=>if q (l.n_=a.2.1)=g then f (Step.done (y a.2.2)) else f (Step.next (a.1,a.2.1,U4 (a.2.2.1+1),a.2.2.2)) else f (Step.done (M a.2.2.2))
def q7t(x:zcE):U3 Z6:=(lpO q4u (x.1,x.2.1,0,x.2.2)).bind λa=>F (λb=>f b) (λb=>f (-1,b)) a
def q2h:zcE->U3 Z6:=q7t
theorem qeg:q2h=zlD.F:=by kernel_rfl
def q9j(A:zqi)(x:zcE):U3 zaC:=(A x).bind λa=>if q (a.1 < 0)=g then f (qh.mk (lit []) 0 0,31,a.2) else(za a.2 x.1).bind λb=>(za a.2 x.1).bind λc=>(za c.V_ a.1).bind λd=>(za a.2 x.1).bind λe=>(za e.V_ a.1).bind λi=>(za a.2 x.1).bind λj=>(za a.2 x.1).bind λl=>(za l.V_ a.1).bind λm=>(za a.2 x.1).bind λn=>(za n.V_ a.1).bind λo=>f (qh.mk (lit []) i.M_ o.t_,0,a.2)
def q4z:zcE->U3 zaC:=q9j q2h
theorem qfx:q4z=zo7.F:=by delta q4z;rw[qeg];kernel_rfl
def q9k(A:zv9)(x:zqO):U3 Z6:=(if q (x.2.1.T_=lit [])=g then if q (x.2.2.1.M_=1)=g then f (y (0,x.2.2.2)) else f (y (40,x.2.2.2)) else f (M (x.1,x.2.2.2,kr x.2.1,x.2.2.1))).bind λa=>F (λb=>f b) (λb=>(A (b.1,b.2.2.1.T_,b.2.1)).bind λc=>if q (c.2.1≠0)=g then f c.2 else(if q (b.2.2.2.M_=1)=g then if q (c.1.M_=1)=g then f (y (0,c.2.2)) else f (y (40,c.2.2)) else f (M (c.2.2,kr b.2.2.1,b.2.2.2,c.1))).bind λd=>F (λe=>f e) (λe=>(if q (e.2.2.1.M_=3)=g then f (q (e.2.2.2.M_=4),e.1,kr e.2.1,e.2.2) else f (N,e.1,kr e.2.1,e.2.2)).bind λi=>(if q (i.2.2.1.N_≠0)=g then f (g,i.2.1) else if q (i.2.2.2.2.t_≠i.2.2.2.1.t_)=g then f (g,i.2.1) else if q (i.2.2.2.2.M_≠i.2.2.2.1.M_)=g then f (!i.1,i.2.1) else f (N,i.2.1)).bind λj=>if j.1=g then f (40,j.2) else f (0,j.2)) d) a
def q1l:zqO->U3 Z6:=q9k q4z
theorem qd6:q1l=zlE.F:=by delta q1l;rw[qfx];kernel_rfl
def q75(A:zen):zqy->U3 (Step zqy zeF):=λa=>if q (a.2.2.2.1 < Sl.len a.2.1)=g then(za a.2.1 a.2.2.2.1).bind λb=>(za a.2.2.1 a.2.2.2.1).bind λc=>(A (a.1,kr b,c,a.2.2.2.2)).bind λd=>if q (d.1≠0)=g then f (Step.done (y d)) else f (Step.next (a.1,a.2.1,a.2.2.1,U4 (a.2.2.2.1+1),d.2)) else f (Step.done (M a.2.2.2.2))
def q9l(A:zen)(x:zqE):U3 Z6:=if q (Sl.len x.2.1≠Sl.len x.2.2.1)=g then f (51,x.2.2.2) else(lpO (q75 A) (x.1,x.2.1,x.2.2.1,0,x.2.2.2)).bind λa=>F (λb=>f b) (λb=>f (0,b)) a
def q3f:zqE->U3 Z6:=q9l q1l
theorem qiv:q3f=ztX.F:=by delta q3f;rw[qd6];kernel_rfl
def q4i(A:zwc):zp4->U3 (Step zp4 zvI):=λa=>if q (a.2.1 < Sl.len a.2.2.1.1)=g then(za a.2.2.1.1 a.2.1).bind λb=>if q (b.n_=a.2.2.2.2.1.T_)=g then(za a.2.2.1.1 a.2.1).bind λc=>(A (a.1,a.2.2.2.2.1.K_,c.P_,a.2.2.2.1)).bind λd=>(za a.2.2.1.1 a.2.1).bind λe=>f (Step.done (y (d.1,a.2.2.1,d.2,e.R_))) else f (Step.next (a.1,U4 (a.2.1+1),a.2.2.1,a.2.2.2.1,kr a.2.2.2.2.1,a.2.2.2.2.2)) else f (Step.done (M (a.2.2.1,a.2.2.2.1,a.2.2.2.2.2)))
def q9m(A:zwc)(x:xg):U3 vV:=(lpO (q4i A) (x.1,0,x.2.2.1,x.2.2.2,kr x.2.1,qh.mk (lit []) 0 0)).bind λa=>F (λb=>f (b.2.2.2,b.1,b.2.1,b.2.2.1)) (λb=>f (qh.mk (lit []) 0 0,31,b.1,b.2.1)) a
def q2t:xg->U3 vV:=q9m q3f
theorem qfy:q2t=zo8.F:=by delta q2t;rw[qiv];kernel_rfl
def q9n(A:zv9)(B:zmy)(x:xg):U3 vV:=(if q (x.2.1.k_=5)=g then if q (x.2.1.T_=lit [])=g then f (y (0,x.2.2.1,x.2.2.2,qh.mk (lit []) 1 0)) else(A (x.1,x.2.1.T_,x.2.2.2)).bind λa=>(if q (a.2.1=0)=g then if q (x.2.1.N_≠0)=g then f (a.2.1,q (a.1.M_≠1),x.2.2.1,a.2.2,qh.mk (lit []) 0 0,a.1) else f (a.2.1,N,x.2.2.1,a.2.2,qh.mk (lit []) 0 0,a.1) else f (a.2.1,N,x.2.2.1,a.2.2,qh.mk (lit []) 0 0,a.1)).bind λb=>(if b.2.1=g then f (40,b.2.2) else f (b.1,b.2.2)).bind λc=>f (y (c.1,c.2.1,c.2.2.1,c.2.2.2.2)) else(if q (x.2.1.k_=21)=g then f (x.1,x.2.1.k_,q (x.2.1.k_=21),x.2.2.1,x.2.2.2,kr x.2.1,qh.mk (lit []) 0 0,qh.mk (lit []) 1 0) else f (x.1,x.2.1.k_,q (x.2.1.k_=22),x.2.2.1,x.2.2.2,kr x.2.1,qh.mk (lit []) 0 0,qh.mk (lit []) 1 0)).bind λd=>(if d.2.2.1=g then(za d.2.2.2.2.2.1.K_ 0).bind λe=>(A (d.1,e.T_,d.2.2.2.2.1)).bind λi=>if q (i.2.1≠0)=g then f (y (i.2.1,d.2.2.2.1,i.2.2,i.1)) else(za d.2.2.2.2.2.1.K_ 1).bind λj=>(A (d.1,j.T_,i.2.2)).bind λl=>if q (l.2.1≠0)=g then f (y (l.2.1,d.2.2.2.1,l.2.2,l.1)) else(if q (i.1.M_≠1)=g then f (g,d.2.2.2.1,l.2.2,d.2.2.2.2.2.2.1,d.2.2.2.2.2.2.2,i.1) else f (q (l.1.M_≠1),d.2.2.2.1,l.2.2,d.2.2.2.2.2.2.1,d.2.2.2.2.2.2.2,i.1)).bind λm=>if m.1=g then f (y (40,m.2.1,m.2.2.1,m.2.2.2.2.2)) else f (y (0,m.2.1,m.2.2.1,m.2.2.2.2.1)) else(if q (d.2.1=26)=g then f (d.1,d.2.1,q (d.2.1=26),d.2.2.2.1,d.2.2.2.2.1,kr d.2.2.2.2.2.1,d.2.2.2.2.2.2) else f (d.1,d.2.1,q (d.2.1=27),d.2.2.2.1,d.2.2.2.2.1,kr d.2.2.2.2.2.1,d.2.2.2.2.2.2)).bind λn=>(if n.2.2.1=g then(A (n.1,n.2.2.2.2.2.1.T_,n.2.2.2.2.1)).bind λo=>if q (o.2.1≠0)=g then f (y (o.2.1,n.2.2.2.1,o.2.2,o.1)) else if q (o.1.M_≠2)=g then f (y (40,n.2.2.2.1,o.2.2,o.1)) else(if q (n.2.2.2.2.2.1.k_=27)=g then f (n.2.2.2.1,o.2.2,n.2.2.2.2.2.2.1,qh.mk o.1.n_ 4 o.1.t_) else f (n.2.2.2.1,o.2.2,n.2.2.2.2.2.2.1,qh.mk o.1.n_ 3 o.1.t_)).bind λp=>f (y (0,p.1,p.2.1,p.2.2.2)) else if q (n.2.1=28)=g then(B (n.1,kr n.2.2.2.2.2.1,n.2.2.2.1,n.2.2.2.2.1)).bind λr=>(if q (r.2.1=0)=g then f (r.2.1,q (r.1.M_=0),r.2.2.1,r.2.2.2,n.2.2.2.2.2.2.1,r.1) else f (r.2.1,N,r.2.2.1,r.2.2.2,n.2.2.2.2.2.2.1,r.1)).bind λs=>(if s.2.1=g then f (35,s.2.2) else f (s.1,s.2.2)).bind λt=>f (y (t.1,t.2.1,t.2.2.1,t.2.2.2.2)) else f (M (n.2.2.2.1,n.2.2.2.2.1,n.2.2.2.2.2.2))).bind λo=>F (λp=>f (y p)) (λp=>f (M p)) o).bind λe=>F (λi=>f (y i)) (λi=>f (M i)) e).bind λa=>F (λb=>f (b.2.2.2,b.1,b.2.1,b.2.2.1)) (λb=>f (b.2.2.2,50,b.1,b.2.1)) a
def q3g:xg->U3 vV:=q9n q4z q2t
theorem qiw:q3g=ztY.F:=by delta q3g;rw[qfx,qfy];kernel_rfl
def q42(A:zen):zql->U3 (Step zql zeF):=λa=>if q (a.2.2.2.1 < Sl.len a.2.1)=g then(za a.2.1 a.2.2.2.1).bind λb=>(za a.2.2.2.2 a.2.2.1.1).bind λc=>(z8 c.V_ a.2.2.1.2.1 a.2.2.1.2.2).bind λd=>(za d a.2.2.2.1).bind λe=>(za a.2.2.2.2 a.2.2.1.1).bind λi=>(za i.V_ (a.2.2.1.2.1+a.2.2.2.1)).bind λj=>(A (a.1,kr b,j,a.2.2.2.2)).bind λl=>if q (l.1≠0)=g then f (Step.done (y l)) else f (Step.next (a.1,a.2.1,a.2.2.1,U4 (a.2.2.2.1+1),l.2)) else f (Step.done (M a.2.2.2.2))
def q7u(A:zen)(x:zqo):U3 Z6:=(za x.2.2.2 x.2.2.1.1).bind λa=>(z8 a.V_ x.2.2.1.2.1 x.2.2.1.2.2).bind λb=>if q (Sl.len x.2.1≠x.2.2.1.2.2 - x.2.2.1.2.1)=g then f (51,x.2.2.2) else(lpO (q42 A) (x.1,x.2.1,x.2.2.1,0,x.2.2.2)).bind λc=>F (λd=>f d) (λd=>f (0,d)) c
def q2u:zqo->U3 Z6:=q7u q1l
theorem qhf:q2u=ztZ.F:=by delta q2u;rw[qd6];kernel_rfl
def q50(A:zmy)(B:zqi)(C:zmy)(D:zvY)(E:zen):zqc->U3 (Step zqc zcv):=λa=>if q (a.2.1 < Sl.len a.2.2.2.1)=g then(za a.2.2.2.1 a.2.1).bind λb=>(za a.2.2.2.1 a.2.1).bind λc=>if q (c.n_=a.2.2.2.2.T_)=g then(za a.2.2.2.1 a.2.1).bind λd=>(za a.2.2.2.1 a.2.1).bind λe=>(za a.2.2.2.1 a.2.1).bind λi=>(za a.2.2.2.1 a.2.1).bind λj=>(za a.2.2.2.1 a.2.1).bind λl=>(z8 l.V_ 0 j.P_).bind λm=>(D (a.1,a.2.2.2.2.K_,(a.2.1,0,j.P_),a.2.2.2.1)).bind λn=>f (Step.done (y (n.1,a.2.2.1,n.2))) else f (Step.next (a.1,U4 (a.2.1+1),a.2.2.1,a.2.2.2.1,kr a.2.2.2.2)) else f (Step.done (M (a.2.2.1,a.2.2.2.1)))
def q2v(A:zmy)(B:zqi)(C:zmy)(D:zvY)(E:zen)(x:xg):U3 vf:=(if q (x.2.1.k_=10)=g then(za x.2.1.K_ 0).bind λa=>(A (x.1,kr a,x.2.2)).bind λb=>if q (b.2.1≠0)=g then f (y b.2) else(B (x.1,x.2.1.T_,b.2.2.2)).bind λc=>if q (c.1 < 0)=g then(za c.2 x.1).bind λd=>(za c.2 x.1).bind λe=>(zo 32 e.V_ [qh.mk x.2.1.T_ b.1.M_ b.1.t_]).bind λi=>(za c.2 x.1).bind λj=>bif q (x.1=x.1) then f (y (0,b.2.2.1,Sl.set c.2 x.1 (qg.mk j.n_ j.P_ i))) else X else(za c.2 x.1).bind λl=>(za c.2 x.1).bind λm=>(za m.V_ c.1).bind λn=>(za c.2 x.1).bind λo=>(za o.V_ c.1).bind λp=>if(!(q (p.n_=x.2.1.T_) && (q (p.M_=b.1.M_) && (q (p.t_=b.1.t_) && g))))=g then f (y (40,b.2.2.1,c.2)) else f (y (0,b.2.2.1,c.2)) else(if q (x.2.1.k_=20)=g then(za x.2.1.K_ 0).bind λr=>(C (x.1,kr r,x.2.2)).bind λs=>f (y s.2) else(if q (x.2.1.k_=19)=g then(lpO (q50 A B C D E) (x.1,0,x.2.2.1,x.2.2.2,kr x.2.1)).bind λt=>F (λu=>f (y u)) (λu=>f (y (31,u))) t else(if q (x.2.1.k_=15)=g then f (x.1,x.2.1.k_,q (x.2.1.k_=15),x.2.2.1,x.2.2.2,kr x.2.1,qh.mk (lit []) 1 0) else f (x.1,x.2.1.k_,q (x.2.1.k_=16),x.2.2.1,x.2.2.2,kr x.2.1,qh.mk (lit []) 1 0)).bind λu=>(if u.2.2.1=g then(za u.2.2.2.2.2.1.K_ 0).bind λv=>(E (u.1,kr v,u.2.2.2.2.2.2,u.2.2.2.2.1)).bind λw=>if q (w.1≠0)=g then f (y (w.1,u.2.2.2.1,w.2)) else(za u.2.2.2.2.2.1.K_ 1).bind λz=>(E (u.1,kr z,u.2.2.2.2.2.2,w.2)).bind λG=>f (y (G.1,u.2.2.2.1,G.2)) else(if q (u.2.1=17)=g then if q (0 < u.2.2.2.2.2.1.K_.len)=g then f (y (35,u.2.2.2.1,u.2.2.2.2.1)) else f (y (0,u.2.2.2.1,u.2.2.2.2.1)) else if q (u.2.1=18)=g then f (y (0,u.2.2.2.1,u.2.2.2.2.1)) else f (M (u.2.2.2.1,u.2.2.2.2.1))).bind λH=>F (λI=>f (y I)) (λI=>f (M I)) H).bind λv=>F (λw=>f (y w)) (λw=>f (M w)) v).bind λt=>F (λu=>f (y u)) (λu=>f (M u)) t).bind λr=>F (λs=>f (y s)) (λs=>f (M s)) r).bind λa=>F (λb=>f b) (λb=>f (50,b)) a
def q1i:xg->U3 vf:=q2v q3g q2h q2t q2u q1l
theorem qje:q1i=zlF.F:=by delta q1i;rw[qiw,qeg,qfy,qhf,qd6];kernel_rfl
def q5a(A:zva)(B:zdQ)(C:zh8):zpY->U3 (Step zpY zej):=λa=>if q (a.2.2.2.1 < a.2.2.2.2.2.2.K_.len)=g then(za a.2.2.2.2.2.2.K_ a.2.2.2.1).bind λb=>(C (a.1,b.K_,a.2.2.2.2.1,a.2.2.2.2.2.1)).bind λc=>f (Step.next (a.1,a.2.1,a.2.2.1,U4 (a.2.2.2.1+1),c.1,c.2,kr a.2.2.2.2.2.2)) else f (Step.done (a.1,a.2.1,a.2.2.1,a.2.2.2.2.1,a.2.2.2.2.2.1))
def q3k(A:zva)(B:zdQ)(C:zh8):zej->U3 (Step zej zvR):=λa=>(if q (a.2.2.1 < Sl.len a.2.1)=g then f (a.1,a.2.1,a.2.2.1,q (a.2.2.2.1.2.2.2=0),a.2.2.2) else f (a.1,a.2.1,a.2.2.1,N,a.2.2.2)).bind λb=>if b.2.2.2.1=g then(za b.2.1 b.2.2.1).bind λc=>(A (b.1,kr c,b.2.2.2.2)).bind λd=>if q (d.1≠0)=g then(B (c.a_,d)).bind λe=>f (Step.done (y e)) else(if q (c.k_=15)=g then f (b.1,b.2.1,b.2.2.1,g,d.2.1,d.2.2,kr c) else f (b.1,b.2.1,b.2.2.1,q (c.k_=16),d.2.1,d.2.2,kr c)).bind λi=>(if i.2.2.2.1=g then(lpO (q5a A B C) (i.1,i.2.1,i.2.2.1,2,i.2.2.2.2.1,i.2.2.2.2.2.1,kr i.2.2.2.2.2.2)).bind λj=>f j else f (i.1,i.2.1,i.2.2.1,i.2.2.2.2.1,i.2.2.2.2.2.1)).bind λj=>f (Step.next (j.1,j.2.1,U4 (j.2.2.1+1),j.2.2.2)) else f (Step.done (M b.2.2.2.2))
def q6o(A:zva)(B:zdQ)(C:zh8)(x:zwd):U3 ZB:=(lpO (q3k A B C) (x.1,x.2.1,0,x.2.2)).bind λa=>F (λb=>f b) (λb=>f b) a
def q5d(h:zct):zct:=q6o q1i q1b h
theorem qhg(h:zct):@Eq zct (zi7 h) (q5d h):=by delta q5d;rw[qje,qd5];kernel_rfl
def q2w:Nat->zwd->U3 ZB
 |0=>λ_=>X
 |k+1=>q5d (q2w k)
theorem qeh:∀k,@Eq zct (zgr k) (q2w k)
 |0=>rfl
 |k+1=>(qhg (zgr k)).trans (congrArg q5d (qeh k))
def q4j:zct:=q2w 100000
theorem qi3:@Eq zct zy6 q4j:=qeh 100000
def qdg(x:q6):U3 qp:=f (qp.mk x.T_ x.N_)
def q1v:Wy:=qdg
theorem qbq:q1v=zb6.F:=by kernel_rfl
def q6l(A:Wy):zqQ->U3 (Step zqQ (Sl qp)):=λa=>if q (a.2.1 < Sl.len a.1)=g then(za a.1 a.2.1).bind λb=>(A (kr b)).bind λc=>(zo 24 a.2.2 [c]).bind λd=>f (Step.next (a.1,U4 (a.2.1+1),d)) else f (Step.done a.2.2)
def qc0(A:Wy)(x:GV):U3 (Sl qp):=(lpO (q6l A) (x,0,O [] N)).bind λa=>f a
def q5o:GV->U3 (Sl qp):=qc0 q1v
theorem qfc:q5o=zpa.F:=by delta q5o;rw[qbq];kernel_rfl
def qad(A:Wy)(B:GV->U3 (Sl qp))(x:q6):U3 zjh:=(za x.K_ 0).bind λa=>(if q (a.k_=26)=g then f (a.k_,q (a.k_=26),(0,0,lit [],lit [],lit [],0,lit [],0,0,N),kr a,0,x.a_,x.T_,lit [],a.T_,a.N_,lit [],0,0,N) else f (a.k_,q (a.k_=27),(0,0,lit [],lit [],lit [],0,lit [],0,0,N),kr a,0,x.a_,x.T_,lit [],a.T_,a.N_,lit [],0,0,N)).bind λ(b:Int×Bool×(Int×Int×U0×U0×U0×Int×U0×Int×Int×Bool)×q6×Int×Int×U0×U0×U0×Int×U0×Int×Int×Bool)=>(if b.2.1=g then f (b.2.2.1,(b.2.2.2.2.1,b.2.2.2.2.2.1,b.2.2.2.2.2.2.1,b.2.2.2.2.2.2.2.1,b.2.2.2.1.T_,0,b.2.2.2.2.2.2.2.2.2.2),O [] N) else(if q (b.1=21)=g then(za b.2.2.2.1.K_ 0).bind λc=>(A (kr c)).bind λd=>(za b.2.2.2.1.K_ 1).bind λe=>(A (kr e)).bind λi=>f (b.2.2.1,(1,b.2.2.2.2.2.1,b.2.2.2.2.2.2.1,b.2.2.2.2.2.2.2.1,d.n_,d.N_,i.n_,i.N_,b.2.2.2.2.2.2.2.2.2.2.2.2),O [] N) else(if q (b.1=22)=g then(za b.2.2.2.1.K_ 0).bind λj=>(A (kr j)).bind λl=>(za b.2.2.2.1.K_ 1).bind λm=>(A (kr m)).bind λn=>f (b.2.2.1,(2,b.2.2.2.2.2.1,b.2.2.2.2.2.2.1,b.2.2.2.2.2.2.2.1,l.n_,l.N_,n.n_,n.N_,b.2.2.2.2.2.2.2.2.2.2.2.2),O [] N) else(if q (b.1=23)=g then f (b.2.2.1,(3,b.2.2.2.2.2.1,b.2.2.2.2.2.2.1,b.2.2.2.2.2.2.2.1,lit [],b.2.2.2.1.N_,b.2.2.2.2.2.2.2.2.2.2),O [] N) else(if q (b.1=24)=g then f (b.2.2.1,(4,b.2.2.2.2.2.1,b.2.2.2.2.2.2.1,b.2.2.2.2.2.2.2.1,b.2.2.2.1.T_,0,b.2.2.2.2.2.2.2.2.2.2),O [] N) else(if q (b.1=25)=g then(za b.2.2.2.1.K_ 0).bind λo=>(A (kr o)).bind λp=>f (b.2.2.1,(5,b.2.2.2.2.2.1,b.2.2.2.2.2.2.1,b.2.2.2.1.T_,p.n_,p.N_,b.2.2.2.2.2.2.2.2.2.2),O [] N) else(if q (b.1=28)=g then(B b.2.2.2.1.K_).bind λr=>f (b.2.2.1,(12,b.2.2.2.2.2.1,b.2.2.2.2.2.2.1,b.2.2.2.1.T_,lit [],0,b.2.2.2.2.2.2.2.2.2.2),r) else f (b.2.2.1,b.2.2.2.2,O [] N)).bind λ(r:tA2)=>f r).bind λ(o:tA2)=>f o).bind λ(o:tA2)=>f o).bind λ(o:tA2)=>f o).bind λ(j:tA2)=>f j).bind λ(c:tA2)=>f c).bind λ(c:tA2)=>f c.2
def q6e:zcr:=qad q1v q5o
theorem qjf:q6e=zt1.F:=by delta q6e;rw[qbq,qfc];kernel_rfl
def q8a(A:zcr)(B:Wy)(C:GV->U3 (Sl qp))(x:q6):U3 zjh:=if q (x.k_=10)=g then(A (kr x)).bind λa=>f a else(if q (x.k_=11)=g then(za x.K_ 0).bind λb=>(B (kr b)).bind λc=>(za x.K_ 1).bind λd=>(B (kr d)).bind λe=>f ((0,0,lit [],lit [],lit [],0,lit [],0,0,N),(6,x.a_,lit [],x.T_,c.n_,c.N_,e.n_,e.N_,0,N),O [] N) else(if q (x.k_=12)=g then f ((0,0,lit [],lit [],lit [],0,lit [],0,0,N),(7,x.a_,lit [],x.T_,lit [],0,lit [],0,0,N),O [] N) else(if q (x.k_=13)=g then f ((0,0,lit [],lit [],lit [],0,lit [],0,0,N),(8,x.a_,lit [],x.T_,lit [],x.N_,lit [],0,0,N),O [] N) else(if q (x.k_=14)=g then f ((0,0,lit [],lit [],lit [],0,lit [],0,0,N),(9,x.a_,lit [],x.T_,lit [],x.N_,lit [],0,0,N),O [] N) else(if q (x.k_=20)=g then(za x.K_ 0).bind λi=>(za x.K_ 0).bind λj=>(C j.K_).bind λl=>f ((0,0,lit [],lit [],lit [],0,lit [],0,0,N),(12,x.a_,lit [],i.T_,lit [],0,lit [],0,0,N),l) else(if q (x.k_=19)=g then(C x.K_).bind λm=>f ((0,0,lit [],lit [],lit [],0,lit [],0,0,N),(13,x.a_,lit [],x.T_,lit [],0,lit [],0,0,N),m) else(if q (x.k_=17)=g then(if q (0 < x.K_.len)=g then(za x.K_ 0).bind λn=>(B (kr n)).bind λo=>f ((0,0,lit [],lit [],lit [],0,lit [],0,0,N),14,x.a_,lit [],lit [],o.n_,o.N_,lit [],0,0,g) else f ((0,0,lit [],lit [],lit [],0,lit [],0,0,N),14,x.a_,lit [],lit [],lit [],0,lit [],0,0,N)).bind λ(n:tA6)=>f n else(if q (x.k_=18)=g then f ((0,0,lit [],lit [],lit [],0,lit [],0,0,N),15,x.a_,lit [],lit [],lit [],0,lit [],0,0,N) else f ((0,0,lit [],lit [],lit [],0,lit [],0,0,N),0,x.a_,lit [],x.T_,lit [],0,lit [],0,0,N)).bind λ(o:tA6)=>f o).bind λ(n:tA6)=>f (n.1,n.2,O [] N)).bind λ(m:tA2)=>f m).bind λ(i:tA2)=>f i).bind λ(i:tA2)=>f i).bind λ(i:tA2)=>f i).bind λ(i:tA2)=>f i).bind λ(b:tA2)=>f b.2
def q1y:zcr:=q8a q6e q1v q5o
theorem qi4:q1y=zlG.F:=by delta q1y;rw[qjf,qbq,qfc];kernel_rfl
def q55(A:zcr)(B:Wy)(C:zeC):zp7->U3 (Step zp7 zwu):=λa=>if q (a.2.2.2.2.1 < Sl.len a.2.2.2.2.2.2.2.2)=g then(za a.2.2.2.2.2.2.2.2 a.2.2.2.2.1).bind λb=>(za a.2.2.2.2.2.2.2.2 a.2.2.2.2.1).bind λc=>(zo 136 a.2.2.2.2.2.2.1 [c]).bind λd=>f (Step.next (a.1,a.2.1,a.2.2.1,a.2.2.2.1,U4 (a.2.2.2.2.1+1),kr a.2.2.2.2.2.1,d,kr a.2.2.2.2.2.2.2.1,a.2.2.2.2.2.2.2.2)) else f (Step.done (a.1,a.2.1,a.2.2.1,a.2.2.2.1,kr a.2.2.2.2.2.1,a.2.2.2.2.2.2.1,kr a.2.2.2.2.2.2.2.1))
def q56(A:zcr)(B:Wy)(C:zeC):zqu->U3 (Step zqu zeE):=λa=>if q (a.2.2.1 < Sl.len a.2.2.2.2.2)=g then(za a.2.2.2.2.2 a.2.2.1).bind λb=>(za a.2.2.2.2.2 a.2.2.1).bind λc=>(zo 136 a.2.2.2.2.1 [c]).bind λd=>f (Step.next (a.1,a.2.1,U4 (a.2.2.1+1),kr a.2.2.2.1,d,a.2.2.2.2.2)) else f (Step.done (a.1,a.2.1,kr a.2.2.2.1,a.2.2.2.2.1))
def q3j(A:zcr)(B:Wy)(C:zeC):zeE->U3 (Step zeE (Sl qq)):=λa=>if q (a.2.1 < a.2.2.1.K_.len)=g then((za a.2.2.1.K_ a.2.1).bind λb=>(if q (b.k_≠15)=g then f (a.1,a.2.1,U4 (a.1+Sl.len a.2.2.2),q (b.k_≠16),kr a.2.2.1,a.2.2.2,kr b) else f (a.1,a.2.1,U4 (a.1+Sl.len a.2.2.2),N,kr a.2.2.1,a.2.2.2,kr b)).bind λc=>if c.2.2.2.1=g then(A (kr c.2.2.2.2.2.2)).bind λd=>(zo 136 c.2.2.2.2.2.1 [qq.mk d.1.1 d.1.2.1 d.1.2.2.1 d.1.2.2.2.1 (qp.mk d.1.2.2.2.2.1 d.1.2.2.2.2.2.1) (qp.mk d.1.2.2.2.2.2.2.1 d.1.2.2.2.2.2.2.2.1) d.2 d.1.2.2.2.2.2.2.2.2.1 d.1.2.2.2.2.2.2.2.2.2]).bind λe=>f (c.1,c.2.1,kr c.2.2.2.2.1,e) else(za c.2.2.2.2.2.2.K_ 0).bind λi=>(B (kr i)).bind λj=>(za c.2.2.2.2.2.2.K_ 1).bind λl=>(B (kr l)).bind λm=>(za c.2.2.2.2.2.2.K_ 2).bind λn=>(C (kr n,U4 (c.2.2.1+1))).bind λo=>(zo 136 c.2.2.2.2.2.1 [qq.mk 10 c.2.2.2.2.2.2.a_ c.2.2.2.2.2.2.T_ (lit []) j m (O [] N) (U4 (U4 (U4 (c.2.2.1+1)+o.len)+1)) N]).bind λp=>(lpO (q55 A B C) (c.1,c.2.1,c.2.2.1,U4 (U4 (c.2.2.1+1)+o.len),0,kr c.2.2.2.2.1,p,kr c.2.2.2.2.2.2,o)).bind λr=>if q (r.2.2.2.2.2.2.k_=16)=g then(zo 136 r.2.2.2.2.2.1 [qq.mk 11 r.2.2.2.2.2.2.a_ (lit []) (lit []) (qp.mk (lit []) 0) (qp.mk (lit []) 0) (O [] N) r.2.2.1 N]).bind λs=>f (r.1,r.2.1,kr r.2.2.2.2.1,s) else(za r.2.2.2.2.2.2.K_ 3).bind λt=>(C (kr t,U4 (r.2.2.2.1+1))).bind λu=>(zo 136 r.2.2.2.2.2.1 [qq.mk 11 r.2.2.2.2.2.2.a_ (lit []) (lit []) (qp.mk (lit []) 0) (qp.mk (lit []) 0) (O [] N) (U4 (U4 (r.2.2.2.1+1)+u.len)) N]).bind λv=>(lpO (q56 A B C) (r.1,r.2.1,0,kr r.2.2.2.2.1,v,u)).bind λw=>f (w.1,w.2.1,kr w.2.2.1,w.2.2.2)).bind λb=>f (Step.next (b.1,U4 (b.2.1+1),kr b.2.2.1,b.2.2.2)) else f (Step.done a.2.2.2)
def q6p(A:zcr)(B:Wy)(C:zeC)(x:q6×Int):U3 (Sl qq):=(lpO (q3j A B C) (x.2,0,kr x.1,O [] N)).bind λa=>f a
def q5e(h:vY):vY:=q6p q1y q1v h
theorem qhh(h:vY):@Eq vY (zi8 h) (q5e h):=by delta q5e;rw[qi4,qbq];kernel_rfl
def q2f:Nat->(q6×Int)->U3 (Sl qq)
 |0=>λ_=>X
 |k+1=>q5e (q2f k)
theorem qei:∀k,@Eq vY (zgs k) (q2f k)
 |0=>rfl
 |k+1=>(qhh (zgs k)).trans (congrArg q5e (qei k))
def q4f:vY:=q2f 100000
theorem qi5:@Eq vY zy8 q4f:=qei 100000
def q57(A:zeC):zp8->U3 (Step zp8 zwf):=λa=>if q (a.2.1 < U4 (a.1 - 1))=g then(za a.2.2.1.K_ a.2.1).bind λb=>(zo 16 a.2.2.2.2.2 [b.T_]).bind λc=>f (Step.next (a.1,U4 (a.2.1+1),kr a.2.2.1,a.2.2.2.1,a.2.2.2.2.1,c)) else f (Step.done (a.1,kr a.2.2.1,a.2.2.2))
def q8b(A:zeC)(x:q6):U3 zqz:=(lpO (q57 A) (U4 (x.K_.len - 1),0,kr x,lit [],x.T_,O [] N)).bind λa=>(za a.2.1.K_ a.1).bind λb=>(A (kr b,0)).bind λc=>(za a.2.1.K_ a.1).bind λd=>(zo 136 c [qq.mk 14 d.a_ (lit []) (lit []) (qp.mk (lit []) 0) (qp.mk (lit []) 0) (O [] N) 0 N]).bind λe=>f (a.2.2.2.1,a.2.2.2.2,e)
def q2b:zcx:=q8b q4f
theorem qfd:q2b=zpc.F:=by delta q2b;rw[<-qi5];kernel_rfl
def q3l(A:zdQ)(B:zu5)(C:zh8)(D:zcx):xg->U3 (Step xg zgY):=λa=>(if q (a.1 < a.2.1.K_.len)=g then f (a.1,q (a.2.2.1.2.2.2=0),kr a.2.1,a.2.2) else f (a.1,N,kr a.2.1,a.2.2)).bind λb=>if b.2.1=g then(za b.2.2.1.K_ b.1).bind λc=>if q (c.k_≠6)=g then(za b.2.2.1.K_ b.1).bind λd=>(A (d.a_,50,b.2.2.2)).bind λe=>f (Step.done (kr b.2.2.1,e)) else(za b.2.2.1.K_ b.1).bind λi=>(B (kr i,b.2.2.2)).bind λj=>(zo 48 j.2.2.1 [qg.mk j.1.1 j.1.2 j.2.2.2]).bind λl=>f (Step.next (U4 (b.1+1),kr b.2.2.1,j.2.1,l)) else f (Step.done (kr b.2.2.1,b.2.2.2))
def q3m(A:zdQ)(B:zu5)(C:zh8)(D:zcx):xg->U3 (Step xg ZB):=λa=>(if q (a.1 < a.2.1.K_.len)=g then f (a.1,q (a.2.2.1.2.2.2=0),kr a.2.1,a.2.2) else f (a.1,N,kr a.2.1,a.2.2)).bind λb=>if b.2.1=g then(za b.2.2.1.K_ b.1).bind λc=>(za b.2.2.2.2 b.1).bind λd=>(za c.K_ (U4 (c.K_.len - 1))).bind λe=>(C (b.1,e.K_,b.2.2.2)).bind λi=>(D (kr c)).bind λj=>((za i.2 b.1).bind λl=>(za i.2 b.1).bind λm=>(za i.2 b.1).bind λn=>if q (64 < n.V_.len)=g then f (b.1,g,kr b.2.2.1,i.1,kr c,i.2) else f (b.1,q (512 < Sl.len j.2.2),kr b.2.2.1,i.1,kr c,i.2)).bind λl=>(if l.2.1=g then(A (l.2.2.2.2.1.a_,22,l.2.2.2.1,l.2.2.2.2.2)).bind λm=>f (l.1,kr l.2.2.1,m) else f (l.1,kr l.2.2.1,l.2.2.2.1,l.2.2.2.2.2)).bind λm=>f (Step.next (U4 (m.1+1),kr m.2.1,m.2.2)) else f (Step.done b.2.2.2)
def q8d(A:zdQ)(B:zu5)(C:zh8)(D:zcx)(x:zqS):U3 ZB:=(lpO (q3l A B C D) (0,kr x.1,(x.2.1,x.2.2,0,0),O [] N)).bind λa=>(lpO (q3m A B C D) (0,kr a.1,a.2)).bind λb=>(if q (b.1.2.2.2≠0)=g then f (b.1,O [] N) else f b).bind λc=>f c
def q3x:zqS->U3 ZB:=q8d q1b q47 q4j q2b
theorem qi6:q3x=zt3.F:=by delta q3x;rw[qd5,qiu,<-qi3,qfd];kernel_rfl
def q4v(A:zjQ)(B:zet)(C:zeu)(D:zwg)(E:zvW)(G:zcG)(H:zcx):zpP->U3 (Step zpP zvS):=λa=>if q (a.2.2.2.1 < a.2.2.1)=g then(za a.2.1 a.2.2.2.1).bind λb=>(if q (b.k_=6)=g then(G (ke b)).bind λc=>(zo 64 a.2.2.2.2.2.2.2.2.2.1 [c]).bind λd=>(za a.2.2.2.2.2.1.K_ a.2.2.2.1).bind λe=>(H (kr e)).bind λi=>(zo 64 a.2.2.2.2.2.2.2.2.2.2 [q1k.mk i.1 i.2.1 i.2.2]).bind λj=>f (a.1,a.2.1,a.2.2.1,a.2.2.2.1,a.2.2.2.2.1,kr a.2.2.2.2.2.1,a.2.2.2.2.2.2.1,a.2.2.2.2.2.2.2.1,a.2.2.2.2.2.2.2.2.1,d,j) else f (a.1,a.2.1,a.2.2.1,a.2.2.2.1,a.2.2.2.2.1,kr a.2.2.2.2.2.1,a.2.2.2.2.2.2)).bind λc=>f (Step.next (c.1,c.2.1,c.2.2.1,U4 (c.2.2.2.1+1),c.2.2.2.2.1,kr c.2.2.2.2.2.1,c.2.2.2.2.2.2)) else f (Step.done (a.1,a.2.2.2.2.1,a.2.2.2.2.2.2))
def q7v(A:zjQ)(B:zet)(C:zeu)(D:zwg)(E:zvW)(G:zcG)(H:zcx)(x:xj):U3 zkc:=(A x.1).bind λa=>(B x.2).bind λb=>(if(!a.2)=g then f (x.2,g,a.1,ke b.1) else f (x.2,q (b.2.2≠0),a.1,ke b.1)).bind λc=>if c.2.1=g then f (c.2.2.1,q1o.mk (O [] N) (O [] N) (O [] N) (O [] N),N) else(C c.1).bind λd=>(D (ke c.2.2.2,c.2.2.1.s_,c.2.2.1.z_)).bind λe=>(E (kr d.1,c.2.2.1.U_,c.2.2.1.q_)).bind λi=>(lpO (q4v A B C D E G H) (e.2.1,c.2.2.2.K_,c.2.2.2.K_.len,0,c.2.2.1,kr d.1,e.2.2,i.1,i.2,O [] N,O [] N)).bind λj=>(if q (j.1=0)=g then if q (j.2.2.2.1.2.2.2=0)=g then if q (Sl.len j.2.2.1=Sl.len j.2.2.2.2.2.1)=g then f (q (Sl.len j.2.2.2.2.1=Sl.len j.2.2.1),j.2.1,j.2.2.1,j.2.2.2.2.2.1,j.2.2.2.2.1,j.2.2.2.2.2.2) else f (N,j.2.1,j.2.2.1,j.2.2.2.2.2.1,j.2.2.2.2.1,j.2.2.2.2.2.2) else f (N,j.2.1,j.2.2.1,j.2.2.2.2.2.1,j.2.2.2.2.1,j.2.2.2.2.2.2) else f (N,j.2.1,j.2.2.1,j.2.2.2.2.2.1,j.2.2.2.2.1,j.2.2.2.2.2.2)).bind λl=>f (l.2.1,q1o.mk l.2.2.1 l.2.2.2.1 l.2.2.2.2.1 l.2.2.2.2.2,l.1)
def q3n:xj->U3 zkc:=q7v q3a q5y q2m q7n q3x q52 q2b
theorem qhi:q3n=zt4.F:=by delta q3n;rw[qgw,<-qhp,qfa,<-qkn,qi6,qjq,qfd];kernel_rfl
def q5b(A:zwe):zqq->U3 (Step zqq (Sl qm×Sl q17)):=λa=>if q (a.2.1 < a.1)=g then(za a.2.2.2.1.I_ a.2.1).bind λb=>(za a.2.2.2.1.f_ a.2.1).bind λc=>(zo 184 a.2.2.2.2.1 [qm.mk b c a.2.2.1.s_ a.2.2.2.1.f_ a.2.2.1.z_]).bind λd=>(za a.2.2.2.1.g_ a.2.1).bind λe=>(za a.2.2.2.1.r_ a.2.1).bind λi=>(zo 8 a.2.2.2.2.2 [q17.mk e i a.2.2.1.U_ a.2.2.2.1.r_ a.2.2.1.q_]).bind λj=>f (Step.next (a.1,U4 (a.2.1+1),a.2.2.1,a.2.2.2.1,d,j)) else f (Step.done a.2.2.2.2)
def q8e(A:zwe)(x:xj):U3 zg5:=(A x).bind λa=>if(!a.2.2)=g then f (N,O [] N,O [] N) else(lpO (q5b A) (a.2.1.f_.len,0,a.1,a.2.1,O [] N,O [] N)).bind λb=>f (g,b)
def q2c:xj->U3 zg5:=q8e q3n
theorem qfe:q2c=zpd.F:=by delta q2c;rw[qhi];kernel_rfl
def qav(x:qm×Int):U3 zcJ:=(if q (x.2 < 0)=g then f (x.2,g,x.1,0,0,lit [],lit [],lit [],0,lit [],0,0,N) else f (x.2,q (x.1.c_.L_.len<=x.2),x.1,0,0,lit [],lit [],lit [],0,lit [],0,0,N)).bind λ(a:Int×Bool×qm×Int×Int×U0×U0×U0×Int×U0×Int×Int×Bool)=>if a.2.1=g then f (ql.mk 0 0 (lit []) (lit []) (qz.mk (lit []) 0) (qz.mk (lit []) 0) (O [] N) 0 N,N) else(za a.2.2.1.c_.L_ a.1).bind λb=>f (b,g)
def q3o:qm×Int->U3 zcJ:=qav
theorem qdr:q3o=zhL.F:=by kernel_rfl
def qbk(A:zjS)(x:qm×Int):U3 GW:=(A x).bind λa=>(if(!a.2)=g then f (x.2,g,a.1) else if q (a.1.O_=14)=g then f (x.2,g,a.1) else f (x.2,q (a.1.O_=15),a.1)).bind λb=>(if b.2.1=g then f (y (O [] N)) else(if q (b.2.2.O_=11)=g then f (y (O [b.2.2.W_] g)) else(if q (b.2.2.O_=10)=g then f (b.1,q (b.2.2.W_≠U4 (b.1+1)),b.2.2) else f (b.1,N,b.2.2)).bind λc=>if c.2.1=g then f (y (O [U4 (c.1+1),c.2.2.W_] g)) else f (M c.1)).bind λc=>F (λd=>f (y d)) (λd=>f (M d)) c).bind λc=>F (λd=>f d) (λd=>f (O [U4 (d+1)] g)) c
def q3z:zcD:=qbk q3o
theorem qk3:q3z=zt5.F:=by delta q3z;rw[qdr];kernel_rfl
def qbj(x:ym):U3 xZ:=(zo 8 x.2.2.1 [x.1]).bind λa=>f (x.2.1,x.2.2.2,a)
def qa3:ym->U3 xZ:=qbj
theorem qk4:qa3=zpe.F:=by kernel_rfl
def q5g(x:ya):U3 ym:=f (Sl.len x.2.1,x)
def q27:ya->U3 ym:=q5g
theorem qes:q27=zhM.F:=by kernel_rfl
def qbi(x:Xr):U3 Wv:=(za x.2.2.2.1 x.1).bind λa=>(za x.2.2.2.1 x.1).bind λb=>(za x.2.2.2.1 x.2.1).bind λc=>(za x.2.2.2.1 x.2.1).bind λd=>f (q (U4 (x.2.2.1 * b) < U4 (x.2.2.1 * d)),x.2.2)
def q28:Xr->U3 Wv:=qbi
theorem qgi:q28=zlH.F:=by kernel_rfl
def qbh(x:Xr):U3 ya:=(za x.2.2.2.1 x.2.1).bind λa=>(za x.2.2.2.1 x.2.1).bind λb=>(za x.2.2.2.1 x.1).bind λc=>(za x.2.2.2.1 x.1).bind λd=>(za x.2.2.2.1 x.1).bind λe=>(za x.2.2.2.1 x.1).bind λi=>(za (Sl.set x.2.2.2.1 x.1 b) x.2.1).bind λj=>(za (Sl.set x.2.2.2.1 x.1 b) x.2.1).bind λl=>f (x.2.2.1,(Sl.set x.2.2.2.1 x.1 b).set x.2.1 d,x.2.2.2.2)
def q1u:Xr->U3 ya:=qbh
theorem qe4:q1u=zhN.F:=by kernel_rfl
def q66(A:zmw)(B:zmx):ym->U3 (Step ym ya):=λa=>(if q (U4 ((U4 (a.1 - 1)).tdiv 2)=a.1)=g then f (a.1,U4 ((U4 (a.1 - 1)).tdiv 2),g,a.2) else(A (a.1,U4 ((U4 (a.1 - 1)).tdiv 2),a.2)).bind λb=>f (a.1,U4 ((U4 (a.1 - 1)).tdiv 2), !b.1,b.2)).bind λb=>if b.2.2.1=g then f (Step.done b.2.2.2) else(B (b.2.1,b.1,b.2.2.2)).bind λc=>f (Step.next (b.2.1,c))
def qag(A:zmw)(B:zmx)(x:ym):U3 ya:=(lpO (q66 A B) x).bind λa=>f a
def q81:ym->U3 ya:=qag q28 q1u
theorem qjg:q81=zt6.F:=by delta q81;rw[qgi,qe4];kernel_rfl
def q8g(A:zcs)(B:zmA)(C:ym->U3 ya)(x:ym):U3 xZ:=(A x).bind λa=>(B (a.1,a.2.2,a.2.1)).bind λb=>(C (U4 (b.1 - 1),b.2)).bind λc=>f (c.1,c.2.2,c.2.1)
def q77:ym->U3 xZ:=q8g qa3 q27 q81
theorem qi7:q77=zt7.F:=by delta q77;rw[qk4,qes,qjg];kernel_rfl
def qc7(A:zcs)(x:ym):U3 xZ:=(if(!zbm x.1 N x.2.2.2.2.xs)=g then(A (x.1,x.2.1,x.2.2.1,x.2.2.2.1,O (xn x.1 g x.2.2.2.2.xs) g)).bind λa=>f a else f (x.2.1,x.2.2.2,x.2.2.1)).bind λa=>f a
def q1z:ym->U3 xZ:=qc7 q77
theorem qgu:q1z=zpf.F:=by delta q1z;rw[qi7];kernel_rfl
def q4a(A:zmw)(B:zmx):zjr->U3 (Step zjr Xr):=λa=>((if q (a.2.1<=U4 (U4 (2 * a.2.2.1)+1))=g then f (a.1,a.2.1,a.2.2.1,U4 (U4 (2 * a.2.2.1)+1),g,a.2.2.2) else f (a.1,a.2.1,a.2.2.1,U4 (U4 (2 * a.2.2.1)+1),q (U4 (U4 (2 * a.2.2.1)+1) < 0),a.2.2.2)).bind λb=>if b.2.2.2.2.1=g then f (y (b.1,b.2.2.1,b.2.2.2.2.2)) else(if q (U4 (b.2.2.2.1+1) < b.2.1)=g then(A (U4 (b.2.2.2.1+1),b.2.2.2.1,b.2.2.2.2.2)).bind λc=>f (b.1,b.2.1,b.2.2.1,b.2.2.2.1,U4 (b.2.2.2.1+1),c) else f (b.1,b.2.1,b.2.2.1,b.2.2.2.1,U4 (b.2.2.2.1+1),N,b.2.2.2.2.2)).bind λc=>(if c.2.2.2.2.2.1=g then f (c.1,c.2.1,c.2.2.1,c.2.2.2.2.1,c.2.2.2.2.2.2) else f (c.1,c.2.1,c.2.2.1,c.2.2.2.1,c.2.2.2.2.2.2)).bind λd=>(A (d.2.2.2.1,d.2.2.1,d.2.2.2.2)).bind λe=>if(!e.1)=g then f (y (d.1,d.2.2.1,e.2)) else(B (d.2.2.1,d.2.2.2.1,e.2)).bind λi=>f (M (d.1,d.2.1,d.2.2.2.1,i))).bind λb=>F (λc=>f (Step.done c)) (λc=>f (Step.next c)) b
def q8f(A:zmw)(B:zmx)(x:Xr):U3 Wv:=(lpO (q4a A B) (x.1,x.2.1,x.1,x.2.2)).bind λa=>f (q (a.1 < a.2.1),a.2.2)
def q76:Xr->U3 Wv:=q8f q28 q1u
theorem qi8:q76=zt8.F:=by delta q76;rw[qgi,qe4];kernel_rfl
def qc6(x:ya):U3 vU:=(za x.2.1 (U4 (Sl.len x.2.1 - 1))).bind λa=>(za x.2.1 (U4 (Sl.len x.2.1 - 1))).bind λb=>(z8 x.2.1 0 (U4 (Sl.len x.2.1 - 1))).bind λc=>f (b,x.1,x.2.2,c)
def qan:ya->U3 vU:=qc6
theorem qkc:qan=zpg.F:=by kernel_rfl
def q9r(A:zmA)(B:zmx)(C:zmw)(D:zpN)(x:ya):U3 vU:=(A x).bind λa=>(B (0,U4 (a.1 - 1),a.2)).bind λb=>(C (0,U4 (a.1 - 1),b)).bind λc=>(D c.2).bind λd=>f d
def q2x:ya->U3 vU:=q9r q27 q1u q76 qan
theorem qix:q2x=zt9.F:=by delta q2x;rw[qes,qe4,qi8,qkc];kernel_rfl
def qaw(A:zjS)(B:zcC)(x:qm×Int):GX:=(A x).bind λa=>(if a.2=g then if q (a.1.O_<=5)=g then f (g,x.1,a.1) else if q (a.1.O_=12)=g then f (q (a.1.X_≠lit []),x.1,a.1) else f (N,x.1,a.1) else f (N,x.1,a.1)).bind λb=>if b.1=g then(B (b.2.1.F_,b.2.2.X_)).bind λc=>f c else f (-1)
def q31:zj2:=qaw q3o q2k
theorem qjr:q31=zua.F:=by delta q31;rw[qdr,qbp];kernel_rfl
def qb7:zjK->U3 (Step zjK zcI):=λa=>if q (a.2.1 < a.1)=g then(za a.2.2.2 a.2.1).bind λb=>(za a.2.2.2 a.2.1).bind λc=>(if q (c.n_≠lit [])=g then(zo 16 a.2.2.1 [c.n_]).bind λd=>f (a.1,a.2.1,d,a.2.2.2) else f a).bind λd=>f (Step.next (d.1,U4 (d.2.1+1),d.2.2)) else f (Step.done a.2.2.1)
def qeo(x:ql):U3 zcI:=(if q (x.O_=5)=g then f (q (x.O_=5),x) else(if q (x.O_=6)=g then f (q (x.O_=6),x) else(if q (x.O_=7)=g then f (q (x.O_=7),x) else(if q (x.O_=8)=g then f (q (x.O_=8),x) else f (q (x.O_=9),x)).bind λa=>f a).bind λa=>f a).bind λa=>f a).bind λa=>(if a.1=g then f (a.2,O ([]++[a.2.Y_]) (N || ![a.2.Y_].isEmpty)) else f (a.2,O [] N)).bind λb=>(zo 24 (O [b.1.A_,b.1.B_] g) b.1.Q_.xs).bind λc=>(lpO qb7 (c.len,0,b.2,c)).bind λd=>f d
def q8x:zg3:=qeo
theorem qku:q8x=zph.F:=by kernel_rfl
def q6h(A:zjS)(B:zg3)(C:zcC):zqr->U3 (Step zqr GW):=λa=>if q (a.2.1 < a.1)=g then(za a.2.2.2.2 a.2.1).bind λb=>(za a.2.2.2.2 a.2.1).bind λc=>(C (a.2.2.1.F_,c)).bind λd=>(zo 8 a.2.2.2.1 [d]).bind λe=>f (Step.next (a.1,U4 (a.2.1+1),a.2.2.1,e,a.2.2.2.2)) else f (Step.done a.2.2.2.1)
def qax(A:zjS)(B:zg3)(C:zcC)(x:qm×Int):U3 GW:=(A x).bind λa=>(if a.2=g then(B a.1).bind λb=>(lpO (q6h A B C) (b.len,0,x.1,O [] N,b)).bind λc=>f c else f (O [] N)).bind λb=>f b
def q32:zcD:=qax q3o q8x q2k
theorem qjs:q32=zub.F:=by delta q32;rw[qdr,qku,qbp];kernel_rfl
def q4q(A:zj2)(B:zcD)(C:zcs):zu0->U3 (Step zu0 zh7):=λa=>if q (a.2.2.1 < a.2.1)=g then(za a.2.2.2.2.2.2.2.2.2.2 a.2.2.1).bind λb=>(za a.2.2.2.2.2.2.2.2.2.2 a.2.2.1).bind λc=>(za a.2.2.2.2.2.2.2.1 a.1).bind λd=>(za a.2.2.2.2.2.2.2.1 a.1).bind λe=>(za a.2.2.2.2.2.2.2.1 a.1).bind λi=>(za i c).bind λj=>(za a.2.2.2.2.2.2.2.1 a.1).bind λl=>(za l c).bind λm=>f (Step.next (a.1,a.2.1,U4 (a.2.2.1+1),a.2.2.2.1,a.2.2.2.2.1,a.2.2.2.2.2.1,a.2.2.2.2.2.2.1,Sl.set a.2.2.2.2.2.2.2.1 a.1 (l.set c g),a.2.2.2.2.2.2.2.2)) else f (Step.done (a.1,a.2.2.2.1,a.2.2.2.2.1,a.2.2.2.2.2.1,a.2.2.2.2.2.2.1,a.2.2.2.2.2.2.2.1,a.2.2.2.2.2.2.2.2.1,a.2.2.2.2.2.2.2.2.2.1))
def q5t(A:zj2)(B:zcD)(C:zcs):zpH->U3 (Step zpH zmv):=λa=>if q (a.2.2.2.2.2.2.2.1 < a.2.2.2.2.2.2.1)=g then(za a.2.2.2.2.2.2.2.2.2.2.2.1 a.2.2.2.2.2.1).bind λb=>(za b a.2.2.2.2.2.2.2.1).bind λc=>(za a.2.2.2.2.2.2.2.2.2.2.2.1 a.2.2.2.2.2.1).bind λd=>(za d a.2.2.2.2.2.2.2.1).bind λe=>(if e=g then(za a.2.2.2.2.2.2.2.2.2.2.2.2.1 a.2.1).bind λi=>(za a.2.2.2.2.2.2.2.2.2.2.2.2.1 a.2.1).bind λj=>(za a.2.2.2.2.2.2.2.2.2.2.2.2.1 a.2.1).bind λl=>(za l a.2.2.2.2.2.2.2.1).bind λm=>(za a.2.2.2.2.2.2.2.2.2.2.2.2.1 a.2.1).bind λn=>(za n a.2.2.2.2.2.2.2.1).bind λo=>f (a.1,a.2.1,a.2.2.2.2.2.2.2.1,a.2.2.1,a.2.2.2.1,a.2.2.2.2.1,a.2.2.2.2.2.1,a.2.2.2.2.2.2.1,a.2.2.2.2.2.2.2.1, !o,a.2.2.2.2.2.2.2.2) else f (a.1,a.2.1,a.2.2.2.2.2.2.2.1,a.2.2.1,a.2.2.2.1,a.2.2.2.2.1,a.2.2.2.2.2.1,a.2.2.2.2.2.2.1,a.2.2.2.2.2.2.2.1,N,a.2.2.2.2.2.2.2.2)).bind λ(y47:Int×Int×Int×Int×Int×Int×Int×Int×Int×Bool×Int×qm×(U0×Sl (Int×Bool))×Sl (Sl Bool)×Sl (Sl Bool)×Sl (Sl Int)×Sl Int)=>(if y47.2.2.2.2.2.2.2.2.2.1=g then(za y47.2.2.2.2.2.2.2.2.2.2.2.2.2.2.1 y47.2.1).bind λi=>(za y47.2.2.2.2.2.2.2.2.2.2.2.2.2.2.1 y47.2.1).bind λj=>(za y47.2.2.2.2.2.2.2.2.2.2.2.2.2.2.1 y47.2.1).bind λl=>(za l y47.2.2.1).bind λm=>(za y47.2.2.2.2.2.2.2.2.2.2.2.2.2.2.1 y47.2.1).bind λn=>(za n y47.2.2.1).bind λo=>(C (y47.2.1,y47.2.2.2.2.2.2.2.2.2.2.1,y47.2.2.2.2.2.2.2.2.2.2.2.2.2.2.2.2,y47.2.2.2.2.2.2.2.2.2.2.2.2.1)).bind λp=>f (y47.1,y47.2.1,y47.2.2.2.1,y47.2.2.2.2.1,y47.2.2.2.2.2.1,y47.2.2.2.2.2.2.1,y47.2.2.2.2.2.2.2.1,y47.2.2.2.2.2.2.2.2.1,p.1,y47.2.2.2.2.2.2.2.2.2.2.2.1,p.2.1,y47.2.2.2.2.2.2.2.2.2.2.2.2.2.1,Sl.set y47.2.2.2.2.2.2.2.2.2.2.2.2.2.2.1 y47.2.1 (n.set y47.2.2.1 g),y47.2.2.2.2.2.2.2.2.2.2.2.2.2.2.2.1,p.2.2) else f (y47.1,y47.2.1,y47.2.2.2.1,y47.2.2.2.2.1,y47.2.2.2.2.2.1,y47.2.2.2.2.2.2.1,y47.2.2.2.2.2.2.2.1,y47.2.2.2.2.2.2.2.2.1,y47.2.2.2.2.2.2.2.2.2.2)).bind λi=>f (Step.next (i.1,i.2.1,i.2.2.1,i.2.2.2.1,i.2.2.2.2.1,i.2.2.2.2.2.1,i.2.2.2.2.2.2.1,U4 (i.2.2.2.2.2.2.2.1+1),i.2.2.2.2.2.2.2.2)) else f (Step.done (a.1,a.2.2.1,a.2.2.2.1,a.2.2.2.2.1,a.2.2.2.2.2.2.2.2))
def q4p(A:zj2)(B:zcD)(C:zcs):zmv->U3 (Step zmv zei):=λa=>if q (a.2.2.2.1 < a.2.2.1)=g then(za a.2.2.2.2.2.2.2.2.2.1 a.2.1).bind λb=>(za b a.2.2.2.1).bind λc=>(za a.2.2.2.2.2.2.2.2.2.1 a.2.1).bind λd=>(za d a.2.2.2.1).bind λe=>(za a.2.2.2.2.2.2.2.1 a.1).bind λi=>(za a.2.2.2.2.2.2.2.1 a.1).bind λj=>(za a.2.2.2.2.2.2.2.1 a.1).bind λl=>(lpO (q5t A B C) (a.1,e,a.2.1,a.2.2.1,a.2.2.2.1,a.1,l.len,0,a.2.2.2.2)).bind λm=>f (Step.next (m.1,m.2.1,m.2.2.1,U4 (m.2.2.2.1+1),m.2.2.2.2)) else f (Step.done a.2.2.2.2)
def qbl(A:zj2)(B:zcD)(C:zcs)(x:zh7):U3 zei:=(za x.2.2.2.2.2.1 x.1).bind λa=>(za x.2.2.2.2.2.1 x.1).bind λb=>(za x.2.2.2.2.2.2.1 x.1).bind λc=>(za x.2.2.2.2.2.2.1 x.1).bind λd=>(za x.2.2.2.2.2.1 x.1).bind λe=>(za x.2.2.2.2.2.2.1 x.1).bind λi=>(A (x.2.2.1,x.1)).bind λj=>(if q (0<=j)=g then(za (Sl.set x.2.2.2.2.2.1 x.1 (O (Y e.xs.length i.xs++Z i.xs.length e.xs) e.nn)) x.1).bind λl=>(za (Sl.set x.2.2.2.2.2.1 x.1 (O (Y e.xs.length i.xs++Z i.xs.length e.xs) e.nn)) x.1).bind λm=>(za (Sl.set x.2.2.2.2.2.1 x.1 (O (Y e.xs.length i.xs++Z i.xs.length e.xs) e.nn)) x.1).bind λn=>(za n j).bind λo=>(za (Sl.set x.2.2.2.2.2.1 x.1 (O (Y e.xs.length i.xs++Z i.xs.length e.xs) e.nn)) x.1).bind λp=>(za p j).bind λr=>f (x.1,x.2.1,x.2.2.1,x.2.2.2.1,x.2.2.2.2.1,(Sl.set x.2.2.2.2.2.1 x.1 (O (Y e.xs.length i.xs++Z i.xs.length e.xs) e.nn)).set x.1 (p.set j N),x.2.2.2.2.2.2) else f (x.1,x.2.1,x.2.2.1,x.2.2.2.1,x.2.2.2.2.1,Sl.set x.2.2.2.2.2.1 x.1 (O (Y e.xs.length i.xs++Z i.xs.length e.xs) e.nn),x.2.2.2.2.2.2)).bind λl=>(B (l.2.2.1,l.1)).bind λm=>(lpO (q4q A B C) (l.1,m.len,0,l.2.1,l.2.2.1,l.2.2.2.1,l.2.2.2.2.1,l.2.2.2.2.2.1,l.2.2.2.2.2.2.1,l.2.2.2.2.2.2.2,m)).bind λn=>(za n.2.2.2.2.2.2.2 n.1).bind λo=>(za n.2.2.2.2.2.2.2 n.1).bind λp=>(za n.2.2.2.2.2.2.2 n.1).bind λr=>(lpO (q4p A B C) (n.1,n.1,r.len,0,n.2.1,n.2.2.1,n.2.2.2.2.1,n.2.2.2.2.2.1,n.2.2.2.2.2.2.1,n.2.2.2.2.2.2.2,n.2.2.2.1)).bind λs=>f s
def q40:zh7->U3 zei:=qbl q31 q32 q1z
theorem qk5:q40=zuc.F:=by delta q40;rw[qjr,qjs,qgu];kernel_rfl
def q4d(A:zcs)(B:zmA)(C:zpN)(D:tA1):zu6->U3 (Step zu6 zgQ):=λa=>if q (a.2.2.1 < a.2.1)=g then(za a.1 a.2.2.1).bind λb=>(A (b,a.2.2.2.2.2.2.2)).bind λc=>f (Step.next (a.1,a.2.1,U4 (a.2.2.1+1),a.2.2.2.1,a.2.2.2.2.1,a.2.2.2.2.2.1,a.2.2.2.2.2.2.1,c.1,c.2.2,c.2.1)) else f (Step.done a.2.2.2)
def q39(A:zcs)(B:zmA)(C:zpN)(D:tA1):zgQ->U3 (Step zgQ zem):=λa=>(B a.2.2.2.2).bind λb=>if q (0 < b.1)=g then(C b.2).bind λc=>(D (c.1,c.2.1,a.1,c.2.2.2,(c.2.2.1.1,O (xJ c.1 c.2.2.1.2.xs) g),a.2.1,a.2.2.1,a.2.2.2.1)).bind λd=>f (Step.next (d.2.1,d.2.2.2.1,d.2.2.2.2.1,d.2.2.2.2.2.1,d.1,d.2.2.2.2.2.2,d.2.2.1)) else f (Step.done (a.1,a.2.1,a.2.2.1,a.2.2.2.1))
def qay(A:zcs)(B:zmA)(C:zpN)(D:tA1)(x:zp1):U3 zem:=(if x.1=g then f (x.2.1,x.2.2.1,x.2.2.2.1,x.2.2.2.2.1,x.2.2.2.2.2, -1,lit [],O [] g) else f (x.2.1,x.2.2.1,x.2.2.2.1,x.2.2.2.2.1,x.2.2.2.2.2,1,lit [],O [] g)).bind λa=>(lpO (q4d A B C D) (a.1,Sl.len a.1,0,a.2.1,a.2.2.1,a.2.2.2.1,a.2.2.2.2.1,a.2.2.2.2.2.1,O [] N,a.2.2.2.2.2.2)).bind λb=>(lpO (q39 A B C D) b).bind λc=>f c
def q3p:zp1->U3 zem:=qay q1z q27 q2x q40
theorem qjt:q3p=zud.F:=by delta q3p;rw[qgu,qes,qix,qk5];kernel_rfl
def q8y(A:zcD)(B:zu1):zvd->U3 (Step zvd zgS):=λa=>if q (a.2.2.2.2.1 < a.2.2.2.1)=g then(za a.2.2.2.2.2.2.2.1 a.2.2.2.2.1).bind λb=>(za a.2.2.2.2.2.2.2.1 a.2.2.2.2.1).bind λc=>(za a.2.2.2.2.2.2.2.2.2.2 c).bind λd=>(za a.2.2.2.2.2.2.2.2.2.2 c).bind λe=>(za a.2.2.2.2.2.2.2.2.2.2 c).bind λi=>(zo 8 i [a.1]).bind λj=>(za a.2.2.2.2.2.2.2.2.2.2 c).bind λl=>(za a.2.2.2.2.2.2.2.2.2.2 c).bind λm=>bif q (c=c) then f (Step.next (a.1,a.2.1,a.2.2.1,a.2.2.2.1,U4 (a.2.2.2.2.1+1),a.2.2.2.2.2.1,a.2.2.2.2.2.2.1,a.2.2.2.2.2.2.2.1,a.2.2.2.2.2.2.2.2.1,a.2.2.2.2.2.2.2.2.2.1,Sl.set a.2.2.2.2.2.2.2.2.2.2 c j)) else X else f (Step.done (a.2.1,a.2.2.1,a.2.2.2.2.2.1,a.2.2.2.2.2.2.1,a.2.2.2.2.2.2.2.2))
def q8z(A:zcD)(B:zu1):zgS->U3 (Step zgS zv7):=λa=>if q (a.2.1 < a.1)=g then(yd ((yi 1 a.2.2.1.F_.V_.len N).bind λb=>(za a.2.2.2.2.1 a.2.1).bind λc=>yd ((yi 1 a.2.2.1.F_.V_.len N).bind λd=>(za a.2.2.2.2.1 a.2.1).bind λe=>(za a.2.2.2.2.2.1 a.2.1).bind λi=>(za a.2.2.2.2.2.1 a.2.1).bind λj=>f (a.2.1,a.1,a.2.1,a.2.2.1,a.2.2.2.1,Sl.set a.2.2.2.2.1 a.2.1 b,Sl.set a.2.2.2.2.2.1 a.2.1 d,a.2.2.2.2.2.2)) ((za a.2.2.2.2.1 a.2.1).bind λd=>(yi 1 a.2.2.1.F_.V_.len N).bind λe=>(za a.2.2.2.2.2.1 a.2.1).bind λi=>(za a.2.2.2.2.2.1 a.2.1).bind λj=>f (a.2.1,a.1,a.2.1,a.2.2.1,a.2.2.2.1,Sl.set a.2.2.2.2.1 a.2.1 b,Sl.set a.2.2.2.2.2.1 a.2.1 e,a.2.2.2.2.2.2))) ((yi 1 a.2.2.1.F_.V_.len N).bind λb=>(yi 1 a.2.2.1.F_.V_.len N).bind λc=>(za a.2.2.2.2.1 a.2.1).bind λd=>(za a.2.2.2.2.1 a.2.1).bind λe=>(za a.2.2.2.2.2.1 a.2.1).bind λi=>(za a.2.2.2.2.2.1 a.2.1).bind λj=>f (a.2.1,a.1,a.2.1,a.2.2.1,a.2.2.2.1,Sl.set a.2.2.2.2.1 a.2.1 c,Sl.set a.2.2.2.2.2.1 a.2.1 b,a.2.2.2.2.2.2))).bind λb=>(zo 8 b.2.2.2.2.1 [b.1]).bind λc=>(A (b.2.2.2.1,b.1)).bind λd=>(lpO (q8y A B) (b.1,b.2.1,b.2.2.1,d.len,0,b.2.2.2.1,c,d,b.2.2.2.2.2)).bind λe=>f (Step.next (e.1,U4 (e.2.1+1),e.2.2)) else f (Step.done a.2.2)
def qfj(A:zcD)(B:zu1)(x:qm):U3 zjV:=(yd ((yi 24 x.c_.L_.len (O [] N)).bind λa=>yd ((yi 24 x.c_.L_.len (O [] N)).bind λb=>f (x.c_.L_.len,x,a,b)) ((yi 24 x.c_.L_.len (O [] N)).bind λb=>f (x.c_.L_.len,x,a,b))) ((yi 24 x.c_.L_.len (O [] N)).bind λa=>(yi 24 x.c_.L_.len (O [] N)).bind λb=>f (x.c_.L_.len,x,b,a))).bind λa=>(yi 24 a.1 (O [] N)).bind λb=>(lpO (q8z A B) (a.1,0,a.2.1,O [] N,a.2.2.1,a.2.2.2,b)).bind λc=>(B (g,c.2.1,c.1,c.2.2)).bind λd=>f (d.2.1,d.2.2.1)
def q6m:zcA:=qfj q3z q3p
theorem qk8:q6m=zpi.F:=by delta q6m;rw[qk3,qjt];kernel_rfl
def qc1(A:zgU)(B:zcA)(x:Unit):Uf:=(A (lit [],lit [102,110,32,109,97,105,110,40,41,32,123,32,105,32,61,32,49,59,32,106,32,61,32,105,59,32,105,32,61,32,50,59,32,107,32,61,32,105,59,32,125])).bind λa=>if(!a.1)=g then f N else(za a.2.1 0).bind λb=>(za a.2.1 0).bind λc=>(B c).bind λd=>(if q (Sl.len d.1=5)=g then if q (Sl.len d.2=5)=g then(za d.1 1).bind λe=>(za d.1 1).bind λi=>(za d.1 1).bind λj=>(za j 0).bind λl=>(za d.1 1).bind λm=>(za m 0).bind λn=>if n=g then(za d.1 2).bind λo=>(za d.1 2).bind λp=>(za d.1 2).bind λr=>(za r 0).bind λs=>(za d.1 2).bind λt=>(za t 0).bind λu=>if(!u)=g then(za d.1 3).bind λv=>(za d.1 3).bind λw=>(za d.1 3).bind λz=>(za z 0).bind λC=>(za d.1 3).bind λD=>(za D 0).bind λE=>if E=g then(za d.2 0).bind λG=>(za d.2 0).bind λH=>(za d.2 0).bind λI=>(za I 0).bind λJ=>(za d.2 0).bind λK=>(za K 0).bind λL=>if L=g then(za d.2 1).bind λP=>(za d.2 1).bind λQ=>(za d.2 1).bind λR=>(za R 0).bind λS=>(za d.2 1).bind λT=>(za T 0).bind λU=>f !U else f N else f N else f N else f N else f N else f N).bind λe=>f e
def q2n:zeG:=qc1 q2c q6m
theorem qi9:q2n=zue.F:=by delta q2n;rw[qfe,qk8];kernel_rfl
def q4l(A:zgU)(B:zeG)(C:zcA):zu8->U3 (Step zu8 zAe):=λa=>if q (a.2.2.2.2.2.2.1 < a.2.2.2.2.2.1)=g then(za a.2.2.2.2.2.2.2.1 a.1).bind λb=>(za a.2.2.2.2.2.2.2.1 a.1).bind λc=>(za a.2.2.2.2.2.2.2.2.1 a.1).bind λd=>(za a.2.2.2.2.2.2.2.2.1 a.1).bind λe=>(za a.2.2.2.2.2.2.2.1 a.1).bind λi=>(za a.2.2.2.2.2.2.2.1 a.1).bind λj=>(za a.2.2.2.2.2.2.2.1 a.1).bind λl=>(za l a.2.2.2.2.2.2.1).bind λm=>(za a.2.2.2.2.2.2.2.1 a.1).bind λn=>(za n a.2.2.2.2.2.2.1).bind λo=>(za a.2.2.2.2.2.2.2.2.1 a.1).bind λp=>(za a.2.2.2.2.2.2.2.2.1 a.1).bind λr=>(za a.2.2.2.2.2.2.2.2.1 a.1).bind λs=>(za s a.2.2.2.2.2.2.1).bind λt=>(za a.2.2.2.2.2.2.2.2.1 a.1).bind λu=>(za u a.2.2.2.2.2.2.1).bind λv=>(za a.2.2.2.2.2.2.2.1 a.1).bind λw=>(za w a.2.2.2.2.2.2.1).bind λz=>(za a.2.2.2.2.2.2.2.1 a.1).bind λD=>(za D a.2.2.2.2.2.2.1).bind λE=>(za a.2.2.2.2.2.2.2.2.1 a.1).bind λG=>(za G a.2.2.2.2.2.2.1).bind λH=>(za a.2.2.2.2.2.2.2.2.1 a.1).bind λI=>(za I a.2.2.2.2.2.2.1).bind λJ=>((za a.2.2.2.2.2.2.2.2.2.1 a.1).bind λK=>(za a.2.2.2.2.2.2.2.2.2.1 a.1).bind λL=>(za a.2.2.2.2.2.2.2.2.2.1 a.1).bind λP=>(za P a.2.2.2.2.2.2.1).bind λQ=>(za a.2.2.2.2.2.2.2.2.2.1 a.1).bind λR=>(za R a.2.2.2.2.2.2.1).bind λS=>(za (Sl.set a.2.2.2.2.2.2.2.1 a.1 (D.set a.2.2.2.2.2.2.1 !o)) a.1).bind λT=>(za (Sl.set a.2.2.2.2.2.2.2.1 a.1 (D.set a.2.2.2.2.2.2.1 !o)) a.1).bind λU=>(za (Sl.set a.2.2.2.2.2.2.2.1 a.1 (D.set a.2.2.2.2.2.2.1 !o)) a.1).bind λW=>(za W a.2.2.2.2.2.2.1).bind λX=>(za (Sl.set a.2.2.2.2.2.2.2.1 a.1 (D.set a.2.2.2.2.2.2.1 !o)) a.1).bind λy48=>(za y48 a.2.2.2.2.2.2.1).bind λy49=>if(S == y49)=g then f (a.1,a.2.1,a.2.2.1,a.2.2.2.1,a.2.2.2.2.1,a.2.2.2.2.2.1,a.2.2.2.2.2.2.1,g,Sl.set a.2.2.2.2.2.2.2.1 a.1 (D.set a.2.2.2.2.2.2.1 !o),Sl.set a.2.2.2.2.2.2.2.2.1 a.1 (I.set a.2.2.2.2.2.2.1 !v),a.2.2.2.2.2.2.2.2.2) else(za a.2.2.2.2.2.2.2.2.2.2.1 a.1).bind λy50=>(za a.2.2.2.2.2.2.2.2.2.2.1 a.1).bind λy51=>(za a.2.2.2.2.2.2.2.2.2.2.1 a.1).bind λy52=>(za y52 a.2.2.2.2.2.2.1).bind λy53=>(za a.2.2.2.2.2.2.2.2.2.2.1 a.1).bind λy54=>(za y54 a.2.2.2.2.2.2.1).bind λy55=>(za (Sl.set a.2.2.2.2.2.2.2.2.1 a.1 (I.set a.2.2.2.2.2.2.1 !v)) a.1).bind λy56=>(za (Sl.set a.2.2.2.2.2.2.2.2.1 a.1 (I.set a.2.2.2.2.2.2.1 !v)) a.1).bind λy57=>(za (Sl.set a.2.2.2.2.2.2.2.2.1 a.1 (I.set a.2.2.2.2.2.2.1 !v)) a.1).bind λy58=>(za y58 a.2.2.2.2.2.2.1).bind λy59=>(za (Sl.set a.2.2.2.2.2.2.2.2.1 a.1 (I.set a.2.2.2.2.2.2.1 !v)) a.1).bind λy60=>(za y60 a.2.2.2.2.2.2.1).bind λy61=>f (a.1,a.2.1,a.2.2.1,a.2.2.2.1,a.2.2.2.2.1,a.2.2.2.2.2.1,a.2.2.2.2.2.2.1,y55 == y61,Sl.set a.2.2.2.2.2.2.2.1 a.1 (D.set a.2.2.2.2.2.2.1 !o),Sl.set a.2.2.2.2.2.2.2.2.1 a.1 (I.set a.2.2.2.2.2.2.1 !v),a.2.2.2.2.2.2.2.2.2)).bind λK=>if K.2.2.2.2.2.2.2.1=g then f (Step.done (y N)) else f (Step.next (K.1,K.2.1,K.2.2.1,K.2.2.2.1,K.2.2.2.2.1,K.2.2.2.2.2.1,U4 (K.2.2.2.2.2.2.1+1),K.2.2.2.2.2.2.2.2)) else f (Step.done (M (a.2.1,a.2.2.1,a.2.2.2.1,a.2.2.2.2.1,a.2.2.2.2.2.2.2)))
def q4m(A:zgU)(B:zeG)(C:zcA):zjj->U3 (Step zjj (Bool⊕zka)):=λa=>if q (a.2.2.2.1 < a.2.2.1)=g then(za a.2.2.2.2.1 a.2.2.2.1).bind λb=>(za a.2.2.2.2.1 a.2.2.2.1).bind λc=>(za a.2.2.2.2.1 a.2.2.2.1).bind λd=>(lpO (q4l A B C) (a.2.2.2.1,a.1,a.2.1,a.2.2.1,a.2.2.2.1,d.len,0,a.2.2.2.2)).bind λe=>F (λi=>f (Step.done (y i))) (λi=>f (Step.next (i.1,i.2.1,i.2.2.1,U4 (i.2.2.2.1+1),i.2.2.2.2))) e else f (Step.done (M (a.1,a.2.1,a.2.2.2.2.2.2.2.2)))
def q3r(A:zgU)(B:zeG)(C:zcA):zka->U3 (Step zka (Bool⊕Unit)):=λa=>if q (a.2.1 < a.1)=g then(za a.2.2 a.2.1).bind λb=>(za a.2.2 a.2.1).bind λc=>(C c).bind λd=>(C c).bind λe=>(lpO (q4m A B C) (a.1,a.2.1,Sl.len d.1,0,d.1,d.2,e.1,e.2,a.2.2)).bind λi=>F (λj=>f (Step.done (y j))) (λj=>f (Step.next (j.1,U4 (j.2.1+1),j.2.2))) i else f (Step.done (M ()))
def qao(A:zgU)(B:zeG)(C:zcA)(x:xj):Uf:=(A x).bind λa=>((B ()).bind λb=>if(!b)=g then f (g,a.2.1) else f (!a.1,a.2.1)).bind λb=>if b.1=g then(B ()).bind λc=>f c else(lpO (q3r A B C) (Sl.len b.2,0,b.2)).bind λd=>F (λe=>f e) (λe=>f g) d
def qb1:xj->Uf:=qao q2c q2n q6m
theorem qgv:qb1=zfu.F:=by delta qb1;rw[qfe,qi9,qk8];kernel_rfl
end
end Go.Px
