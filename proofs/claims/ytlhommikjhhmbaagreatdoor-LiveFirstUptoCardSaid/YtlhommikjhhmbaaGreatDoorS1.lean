/- Part S1. -/
import Derived.Test.YtlhommikjhhmbaaGreatDoorCh
set_option linter.unusedVariables false
set_option linter.unusedSimpArgs false
namespace Go.Px
open Bool renaming true->g,false->N
open _root_.ByteArray renaming size->V
open Decidable renaming decide->q
open List renaming take->Z,drop->qb
open _root_.Option renaming some->f,none->Y,bind->U1
open Sl renaming mk->O
open Sum renaming inl->y,elim->F,inr->M
open Go.Proofs
set_option maxRecDepth 100000
set_option maxHeartbeats 4000000
noncomputable section
abbrev ke(a:q8):=q8.mk a.k_ a.T_ a.n_ a.a_ a.K_
abbrev kr(a:q6):=q6.mk a.k_ a.T_ a.n_ a.a_ a.K_
abbrev zH:=Int×Int
abbrev zr:=U0×zH
abbrev Ua:=Int×zr
abbrev X8:=q7×Ua×Ua
abbrev Uh:=Sl q8
abbrev xk:=q7×Ua×Ua×Uh
abbrev tA0:=zH×X8⊕xk⊕X8
abbrev Uf:=Sl Int
abbrev GY:=U0×Sl (Int×Bool)
abbrev Uu:=Sl Bool
abbrev zaQ:=Sl Uu
abbrev zii:=Int×Int×ql×Uf×GY×zaQ×zaQ×Sl Uf
abbrev zil:=Int×ql×GY×zaQ×zaQ×Sl Uf×Uf
abbrev tA1:=zii->U3 zil
abbrev GV:=Int×Int×U0×U0×U0×Int×U0×Int×Int×Bool
abbrev zpW:=GV×Sl qp
abbrev tA2:=GV×zpW
abbrev Um:=Sl qa
abbrev Ub:=zr×Sl qt×Sl qw
abbrev zp1:=Um×q8×Uh×Uh×Ub
abbrev za5:=zH×Ub⊕Ub
abbrev tA3:=zp1->U3 za5
abbrev Ui:=Sl qd
abbrev Uw:=Sl qn×Sl qu
abbrev Uo:=Int×Int×Ui×zr×Uw
abbrev Uj:=Sl q6
abbrev Ud:=Int×Int×Ui×zr×Uj×Uj×zr×Uf×Uw
abbrev tA5:=Uo⊕Ud
abbrev tA6:=GV×GV
abbrev Ue:=Int×Int×zH
abbrev zmw:=Ue×Sl q9×Ua×Ua
abbrev tA7:=Ue×Sl q9×Ua×Uj⊕zmw
abbrev GZ:=U0×zr
abbrev Up:=Int×Int×GZ
abbrev tA8:=Up⊕Ui×Int×Int×q6×GZ×GZ×q6×qi×Sl qi
abbrev Ux:=Sl qe
abbrev GW:=(Sl qf×Um×zH)×Ux
abbrev zp2:=Uh×(Int×zH)×GW
abbrev zQ:=zH×GW⊕GW
abbrev Ul:=U3 zQ
abbrev tA9:=zp2->Ul
abbrev zp7:=q8×Uh×Ub
abbrev zuJ:=zp7->U3 za5
abbrev zzu:=Up⊕Ui×Int×Int×q6×GZ×GZ×q6×Sl qi
abbrev zjB:=Bool×Int×GW
abbrev zp6:=q8×zjB
abbrev zuK:=zp6->Ul
abbrev Ut:=Int×Int×Ui×zr×Sl qn
abbrev Ug:=Int×Ui×zr×Uj×Uj×q6×zr×q6×Sl qn
abbrev zzv:=Ut⊕Ug
abbrev zqb:=U0×GW
abbrev vi:=zH×GW⊕qh×GW
abbrev zzw:=zqb->U3 vi
abbrev zp8:=U0×qh×GW
abbrev zuL:=zp8->Ul
abbrev Us:=Sl qf×Um×Int
abbrev GX:=Us×Ux
abbrev zqm:=q8×GX
abbrev zz:=U0×Int
abbrev zmv:=zH×GX⊕zz×Us×Ux×Sl qh
abbrev zuM:=zqm->U3 zmv
abbrev Uv:=Int×q8×GZ×GZ×Sl qh
abbrev zzx:=Up⊕Um×Uv
abbrev zzy:=Up⊕Ui×Int×q6×GZ×GZ×Sl qi
abbrev vg:=zjB->Ul
abbrev zp0:=Int×Int×ql×Uf×GY×zaQ
abbrev zey:=Int×ql×GY×zaQ×Uf
abbrev zuN:=zp0->U3 zey
abbrev zqg:=q8×qh×GW
abbrev zfU:=zqg->Ul
abbrev zeH:=q8×GW
abbrev zpP:=zeH->U3 vi
abbrev zpV:=qh×GW⊕zH×GW
abbrev zuO:=zeH->U3 zpV
abbrev zvW:=Uh×GW
abbrev zcE:=zvW->Ul
abbrev Uq:=Ui×zr×Uj×Uj×q6×zr×Sl qn
abbrev zzA:=Ut⊕Uq
abbrev zzB:=Uo⊕Ui×zr×zr×Uw
abbrev zjH:=Bool×Int×GX
abbrev zqa:=q8×zjH
abbrev x7:=zH×GX⊕GX
abbrev zmr:=zqa->U3 x7
abbrev zzC:=zH×GX⊕Int×Us×Ux×q8×zz×zz×Sl qh
abbrev zuQ:=zjH->U3 x7
abbrev zg:=zH×q7
abbrev zuR:=zg⊕q7×Ua×Uh⊕X8
abbrev xl:=Ua×Int×Int×Uh
abbrev zaB:=zH×xl
abbrev zzF:=zaB->U3 xl
abbrev zuT:=Um×Int×Uh×Int×Uv
abbrev zG:=Ue×Sl q9
abbrev Yo:=Int×zG
abbrev zaH:=Ue×Sl q9×Uj
abbrev ZH:=Ua×zaH
abbrev zpR:=Yo->U3 ZH
abbrev zeC:=ql×zaQ×zaQ×Sl Uf
abbrev zp3:=Bool×Uf×zeC
abbrev zuU:=zp3->U3 zeC
abbrev YF:=zG->U3 ZH
abbrev zpS:=Int×Ud
abbrev zzG:=zaB⊕xl
abbrev Un:=Sl qj×Ui×zH
abbrev Uy:=Sl qg
abbrev ZC:=Un×Uy
abbrev zhc:=q6×ZC
abbrev zuV:=zhc->U3 (zz×Un×Uy×Sl qi)
abbrev yd:=Int×Uf×GY
abbrev yc:=Int×yd
abbrev Xs:=Int×yc
abbrev WF:=Bool×yd
abbrev zms:=Xs->U3 WF
abbrev zzH:=zH×Ub⊕zr×Sl qt×Sl qw×q8×zH
abbrev WE:=Uh×Int×Int×(Sl qf×Um×zH)×Ux×qh
abbrev zd3:=zH×GW⊕WE
abbrev zzI:=xl->U3 xl
abbrev xL:=Ue×Sl q9×Ua×Ua×Uj
abbrev zaa:=Bool×xL
abbrev zzJ:=Int×Bool×Sl qm×q8×GV
abbrev zmt:=Xs->U3 yd
abbrev Yn:=Ua×zG
abbrev vh:=zG->U3 Yn
abbrev zcF:=q6->U3 zpW
abbrev xm:=Int×zhc
abbrev vu:=Int×ZC
abbrev zmu:=xm->U3 (qi×vu)
abbrev YK:=Int×GY×Uf
abbrev wP:=yc->U3 YK
abbrev vt:=Int×YK
abbrev zfV:=yd->U3 vt
abbrev zfW:=Ua×Ue×Ua×Sl q9×Uj
abbrev zpT:=Int×Ug
abbrev zd4:=yd->U3 yc
abbrev zzL:=zg⊕q7×Ua×Uh⊕q7×q8×Ua
abbrev vT:=Sl qm×GV×Sl qz
abbrev zuX:=xm->U3 vu
abbrev zzM:=zH⊕Um×Uh×q8×zr×Uh×zr×Sl qt
abbrev zvP:=Int×Uj×ZC
abbrev zcG:=zvP->U3 ZC
abbrev zik:=Int×Int×Int×ql×GY×zaQ×Uu×Uf×Uf
abbrev zjD:=Int×vu
abbrev zd5:=zjD->U3 ZC
abbrev zu0:=zg⊕q7×q8⊕X8
abbrev zcH:=zg⊕xk
abbrev xn:=U0×zG
abbrev zV:=Bool×zG
abbrev yg:=xn->U3 zV
abbrev zpU:=Int×Uq
abbrev zmx:=ql×zaQ×zaQ×Sl Uf×yd
abbrev zzO:=Sl qm×GV
abbrev zjx:=Bool×X8
abbrev zpX:=U0×Int×zjx
abbrev zzP:=Int×Un×Uy×qi⊕Un×Uy×qi
abbrev wn:=xn->U3 zG
abbrev Zx:=q6×zG
abbrev zzR:=Zx->U3 Zx
abbrev zu3:=zG->U3 zaH
abbrev Ur:=Int×q7
abbrev yw:=q7×Uh
abbrev Zj:=zg⊕Ua×yw
abbrev zjt:=Ur->U3 Zj
abbrev WD:=Yo->U3 zG
abbrev zju:=zG->U3 Yo
abbrev zjP:=U0×zz×Sl qi
abbrev zeM:=Int×zz×Sl qi
abbrev zvx:=zjP->U3 zeM
abbrev wF:=zG->U3 Zx
abbrev zcI:=vu⊕ZC
abbrev zvy:=zH⊕Int×Int×Int×ql×(U0×Sl zH)×zaQ
abbrev zvz:=zH⊕zr×Ub
abbrev zvA:=xn⊕zG
abbrev zjw:=zH×q8×zH⊕q8×Int×Int×GX
abbrev ZQ:=q7->U3 Zj
abbrev zvH:=Ua×yw⊕zg
abbrev zpY:=q7->U3 zvH
abbrev zha:=zH⊕Ub
abbrev zvB:=Um×q8->U3 zha
abbrev zvC:=ZC⊕ZC
abbrev Z5:=zg⊕Ua×q7
abbrev wG:=q7->U3 Z5
abbrev zqv:=q6×Sl qj×Ui
abbrev zvE:=zqv->U3 ZC
abbrev zcT:=Sl U0
abbrev zg8:=Uh×Int×Int×U0×U0×zcT×Sl qm
abbrev zqh:=Int×Uj×(Int×zH)×Uy
abbrev Z7:=Int×Uy
abbrev Uz:=U3 Z7
abbrev zvF:=zqh->Uz
abbrev zg9:=ql×zaQ×yd
abbrev zaO:=ql×zaQ
abbrev zqn:=Bool×Uf×zaO
abbrev zvG:=zqn->U3 zaO
abbrev zaC:=zg⊕q7×q8⊕q7×Ua
abbrev xu:=Int×Int×Um
abbrev zvI:=zH×q8×xu⊕q8×xu
abbrev zjU:=zH×xu
abbrev zvJ:=zjU->U3 xu
abbrev Yp:=Int×Int×Ux
abbrev zjY:=zH×Yp
abbrev zp4:=zjY->U3 Yp
abbrev zjy:=Int×Xs
abbrev zvK:=zeM⊕zz×Sl qi
abbrev zvL:=zg⊕q7×q8×Ua
abbrev zez:=Int×Uj×vu
abbrev zeA:=Ua×Int×Int×yw
abbrev xq:=U0×U0
abbrev zjz:=xq->U3 (Bool×Sl ql×Sl q18)
abbrev zjA:=Uh×Sl qh×GW
abbrev zcP:=Int×U0×Uy
abbrev zvM:=zcP->U3 (qi×Z7)
abbrev zaJ:=U0×Ue
abbrev zvN:=zaJ->U3 (Sl qw)
abbrev zeB:=zaJ->U3 (Sl qu)
abbrev zqp:=Int×Uj×Sl qi×Uy
abbrev zvO:=zqp->Uz
abbrev zvQ:=xq->U3 (q13×q1w×Bool)
abbrev WH:=U0×q7
abbrev ye:=zg⊕q7
abbrev Xt:=WH->U3 ye
abbrev Vh:=zg⊕Ur
abbrev zjC:=Ur->U3 Vh
abbrev zv8:=WH⊕zg
abbrev zp9:=q7->U3 zv8
abbrev zqu:=q8×Sl qf×Um
abbrev zvR:=zqu->U3 Yp
abbrev zhg:=zg⊕qr×q7
abbrev zvS:=Ur->U3 zhg
abbrev zqc:=(U0×xq)×Ur
abbrev zvT:=xu->U3 xu
abbrev zqd:=Yp->U3 Yp
abbrev zqe:=zcP->Uz
abbrev zcK:=q6->U3 (U0×zcT×Sl qq)
abbrev ZR:=zg⊕q8×q7
abbrev zqf:=q8×q7->U3 ZR
abbrev X9:=Uh×U0
abbrev yD:=Int×U0
abbrev zvU:=X9->U3 yD
abbrev zaE:=U0×Int×Int×Int×Bool×q9×q9
abbrev wH:=q6×Ui
abbrev zvV:=wH->U3 (qd×Int×Int×Ui)
abbrev zqs:=Int×q6×qi×Uy
abbrev zeD:=zqs->Uz
abbrev yY:=zg⊕yw
abbrev Y5:=q7->U3 yY
abbrev zj9:=Bool×q8×Int
abbrev Yq:=zH⊕Unit
abbrev zeE:=zj9->U3 Yq
abbrev zeF:=Int×Yo
abbrev zkb:=qa×U0
abbrev Z6:=Bool×U0
abbrev zvX:=zkb->U3 Z6
abbrev zaP:=q8×U0
abbrev zjG:=zaP->U3 Z6
abbrev zkc:=qh×U0
abbrev zvY:=zkc->U3 Z6
abbrev zjI:=zr->U3 (qr×Int)
abbrev zeG:=ql->U3 (zaQ×zaQ)
abbrev zaL:=Int×Int×zaO
abbrev zvZ:=zH⊕zaL
abbrev zqq:=q8×q7⊕zg
abbrev zjJ:=q7->U3 zqq
abbrev Y6:=q7->U3 ZR
abbrev zv0:=ql×Int->U3 (qh×qh×Int×Bool)
abbrev Xv:=Sl qh×qh
abbrev zaN:=Bool×Xv
abbrev zjL:=Xv->U3 zaN
abbrev Vl:=q8×Um
abbrev zv1:=Vl->U3 (Int×Int×Sl qf)
abbrev zv2:=wH->U3 (Int×Int×Sl qj)
abbrev zqx:=Int×Int×Sl qr
abbrev zjM:=U0->U3 zqx
abbrev vy:=Int×Xv
abbrev zv3:=Xv->U3 vy
abbrev zjN:=U0->U3 (Int×Int×Sl q9)
abbrev zqi:=Ux×q8->U3 (Int×Ux×q8)
abbrev zj4:=zcT×U0
abbrev Uc:=U3 Int
abbrev zv5:=zj4->Uc
abbrev zqw:=ql×Int×Uu
abbrev zqj:=zqw->U3 Uu
abbrev zaI:=Ur->U3 zg
abbrev zv6:=Vl->U3 (qf×zH)
abbrev zv7:=wH->U3 (qj×zH)
abbrev zjQ:=Sl qh×Int×Int×ql×qm×Uf
abbrev Uk:=U3 Bool
abbrev zqk:=xq->Uk
abbrev zL:=Bool×q7
abbrev Zy:=WH->U3 zL
abbrev zqr:=qa×U0×Uh
abbrev zeJ:=zqr->Uc
abbrev zql:=zz->U3 (q9×Int)
abbrev zeK:=U0->U3 (q8×zH)
abbrev zeL:=U0->U3 (q6×zH)
abbrev zjR:=U0×Int×Int×Sl qr×qr
abbrev zke:=Uh×Uh
abbrev zhd:=Uh×Int×Int×zke
abbrev zjS:=Um×Uh×Int×Int×Sl qf
abbrev Vk:=Int×Sl qm
abbrev zhe:=qm×Sl qm->U3 Vk
abbrev zjT:=Int×Int×zcT×Sl qz
abbrev zqo:=X9->Uk
abbrev zhf:=U0×Int×Int×q9×q9
abbrev zjV:=wH->U3 (qi×Bool)
abbrev zjW:=q8->U3 xu
abbrev zjX:=q6->U3 (Int×Int×Ui)
abbrev zjZ:=U0->U3 (q13×Bool)
abbrev zcQ:=Um×U0
abbrev zcN:=zcQ->Uc
abbrev zv9:=Vl->U3 (qh×Int)
abbrev zj6:=Ui×U0
abbrev Vg:=zj6->Uc
abbrev zj7:=Uj×U0
abbrev zeN:=zj7->Uc
abbrev zwa:=zH⊕U0×Sl qr
abbrev zj0:=vy⊕Xv
abbrev zwb:=zH⊕U0×Sl q9
abbrev zwc:=Int×Ux×q8⊕Ux×q8
abbrev yO:=q8×Sl qm->U3 (Sl qm)
abbrev zcO:=ql×Int->U3 (qm×Bool)
abbrev WG:=zz->Uc
abbrev zj1:=U0->U3 U0
abbrev WJ:=Bool×qh
abbrev zj2:=qh×qh->U3 WJ
abbrev zwd:=qf×q8->U3 (Bool×q8)
abbrev Xw:=Bool×qm
abbrev zwe:=qf×qm->U3 Xw
abbrev zwf:=qe×qm->U3 Xw
abbrev zaM:=yD⊕U0
abbrev zeO:=q8->U3 zke
abbrev vw:=qe×U0->Uc
abbrev Vi:=q6×Int->U3 (Sl qq)
abbrev zj3:=zg⊕q7×q8
abbrev zhh:=qm->U3 zcT
abbrev yZ:=ql×Int->U3 Uf
abbrev zhi:=Uu->U3 Uu
abbrev zeQ:=ql->U3 zaQ
abbrev zeR:=q6×Int->U3 Uj
abbrev vx:=U0->Uk
abbrev zhj:=U0×Int×Sl qr
abbrev Vj:=U0×Int×Sl q9
abbrev zhk:=ql->U3 zH
abbrev xr:=q7->U3 (qr×q7)
abbrev zeT:=ql×Int->Uc
abbrev zqt:=q8×Int->U3 qz
abbrev zj5:=q8->U3 (Sl qz)
abbrev zeU:=Z7⊕Uy
abbrev zhl:=Unit->Uk
abbrev Zk:=Int->Uk
abbrev zj8:=Sl qh×U0
abbrev zhm:=Int×Int×Sl ql
abbrev wa:=q8->Uc
abbrev wc:=q6->Uc
abbrev zka:=q8×q8×Sl qm
abbrev zcR:=q8->U3 q1m
abbrev zeV:=Int×Ur
abbrev zcS:=q8->U3 qz
abbrev zkd:=q8->U3 q8
abbrev WI:=q6->U3 qp
abbrev zkf:=Int×qm⊕qm
abbrev zeW:=Int⊕Unit
abbrev zeX:=qh×Um
abbrev zih:=zcE
abbrev WC:=YF
abbrev zij:=zcG
abbrev zeP:=yO
abbrev zeS:=Vi
abbrev Zr:=U0
theorem eqT{α:Type}{a b c d:α}(h:a=b)(k:b=c)(l:c=d):a=d:=h.trans (k.trans l)
def qgk(x:Int):Uk:=f (q (x≠10))
def qd2:Zk:=qgk
theorem qlw:qd2=P0.F:=jO
def qku(A:Zk):zz->U3 (Step zz Int):=λ(a,b)=>U1 (ite (q (b < (↑(V a):Int))) (U1 (Zg a b) λc=>U1 (A c) λd=>f (a,b,d)) (f (a,b,N))) λ(c,d,e)=>ite e (f (Step.next (c,U4 (d+1)))) (f (Step.done d))
def qhd(A:Zk)(x:zz):Uc:=U1 (lpO (qku A) x) λa=>f a
def qcu:zz->Uc:=qhd qd2
theorem qlb:qcu=P1.F:=by delta qcu;rw[qlw];kernel_rfl
def qhx(x:Int):Uk:=U1 (ite (q (48<=x)) (f (q (x<=57))) (f N)) λa=>f a
def qbb:Zk:=qhx
theorem qia:qbb=P2.F:=jO
def q76(A:Zk):zz->U3 (Step zz Int):=λ(a,b)=>U1 (ite (q (b < (↑(V a):Int))) (U1 (Zg a b) λc=>U1 (A c) λd=>f (a,b,d)) (f (a,b,N))) λ(c,d,e)=>ite e (f (Step.next (c,U4 (d+1)))) (f (Step.done d))
def qi1(A:Zk)(x:zz):Uc:=U1 (lpO (q76 A) x) λa=>f a
def qem:zz->Uc:=qi1 qbb
theorem qlu:qem=P3.F:=by delta qem;rw[qia];kernel_rfl
def qep:=wx
theorem qkv:F4=qep:=rfl
def qhi(x:Int):Uk:=U1 (ite (q (97<=x)) (ite (q (x<=122)) (f g) (f (q (x=95)))) (f (q (x=95)))) λa=>f a
def q99:Zk:=qhi
theorem qi2:q99=P5.F:=jO
def qhk(A:zr->U3 (Int⊕Int))(B:Zk)(x:zr):U3 (qr×Int):=U1 (ZI x.1 x.2.1 x.2.2) λa=>U1 (U1 (A (a,10,64)) λb=>F (λc=>f (y (x.1,x.2.1,x.2.2,a,c,qr.mk 0 (lit []) 0 0))) (λc=>f (M (x.1,x.2.1,x.2.2,a,c,qr.mk 0 (lit []) 0 0))) b) λb=>F (λ(c,d,e,i,j,_)=>ite (q (1099511627776 < j)) (f (qr.mk 0 (lit []) 0 0,12)) (ite (q (1 < (↑(V i):Int))) (U1 (Zg i 0) λl=>ite (q (l=48)) (f (qr.mk 0 (lit []) 0 0,12)) (ite (q (e < (↑(V c):Int))) (U1 (Zg c e) λm=>U1 (B m) λn=>ite n (f (qr.mk 0 (lit []) 0 0,12)) (f (qr.mk 3 i j d,0))) (f (qr.mk 3 i j d,0)))) (ite (q (e < (↑(V c):Int))) (U1 (Zg c e) λo=>U1 (B o) λp=>ite p (f (qr.mk 0 (lit []) 0 0,12)) (f (qr.mk 3 i j d,0))) (f (qr.mk 3 i j d,0))))) (λ(_,_,_,_,_,_)=>f (qr.mk 0 (lit []) 0 0,12)) b
def qeo:zr->U3 (qr×Int):=qhk qep q99
theorem qm5:qeo=P6.F:=by delta qeo;rw[<-qkv,qi2];kernel_rfl
def qhj(A:Zk)(B:Zk)(x:Int):Uk:=U1 (U1 (A x) λa=>ite a (f g) (U1 (B x) λb=>f b)) λa=>f a
def qen:Zk:=qhj q99 qbb
theorem qm6:qen=P7.F:=by delta qen;rw[qi2,qia];kernel_rfl
def qlc(A:Zk):zz->U3 (Step zz Int):=λ(a,b)=>U1 (ite (q (b < (↑(V a):Int))) (U1 (Zg a b) λc=>U1 (A c) λd=>f (a,b,d)) (f (a,b,N))) λ(c,d,e)=>ite e (f (Step.next (c,U4 (d+1)))) (f (Step.done d))
def qhq(A:Zk)(x:zz):Uc:=U1 (lpO (qlc A) x) λa=>f a
def qdg:zz->Uc:=qhq qen
theorem qlq:qdg=P8.F:=by delta qdg;rw[qm6];kernel_rfl
def qhy(x:Zr):Uk:=U1 (ite (q (x=lit [116,121,112,101])) (f (q (x=lit [116,121,112,101]))) (U1 (ite (q (x=lit [102,110])) (f (q (x=lit [102,110]))) (U1 (ite (q (x=lit [111,119,110])) (f (q (x=lit [111,119,110]))) (U1 (ite (q (x=lit [99,101,108,108])) (f (q (x=lit [99,101,108,108]))) (U1 (ite (q (x=lit [99,111,117,110,116,101,100])) (f (q (x=lit [99,111,117,110,116,101,100]))) (U1 (ite (q (x=lit [108,111,99,107])) (f (q (x=lit [108,111,99,107]))) (U1 (ite (q (x=lit [103,117,97,114,100])) (f (q (x=lit [103,117,97,114,100]))) (U1 (ite (q (x=lit [119,104,101,114,101])) (f (q (x=lit [119,104,101,114,101]))) (U1 (ite (q (x=lit [105,110,116])) (f (q (x=lit [105,110,116]))) (U1 (ite (q (x=lit [109,117,116])) (f (q (x=lit [109,117,116]))) (U1 (ite (q (x=lit [102,114,101,101])) (f (q (x=lit [102,114,101,101]))) (U1 (ite (q (x=lit [117,110,108,111,99,107])) (f (q (x=lit [117,110,108,111,99,107]))) (U1 (ite (q (x=lit [105,102])) (f (q (x=lit [105,102]))) (U1 (ite (q (x=lit [101,108,115,101])) (f (q (x=lit [101,108,115,101]))) (U1 (ite (q (x=lit [119,104,105,108,101])) (f (q (x=lit [119,104,105,108,101]))) (U1 (ite (q (x=lit [114,101,116,117,114,110])) (f (q (x=lit [114,101,116,117,114,110]))) (U1 (ite (q (x=lit [97,98,111,114,116])) (f (q (x=lit [97,98,111,114,116]))) (U1 (ite (q (x=lit [102,111,114,107])) (f (q (x=lit [102,111,114,107]))) (U1 (ite (q (x=lit [110,101,119])) (f (q (x=lit [110,101,119]))) (f (q (x=lit [97,114,114,97,121])))) λa=>f a)) λa=>f a)) λa=>f a)) λa=>f a)) λa=>f a)) λa=>f a)) λa=>f a)) λa=>f a)) λa=>f a)) λa=>f a)) λa=>f a)) λa=>f a)) λa=>f a)) λa=>f a)) λa=>f a)) λa=>f a)) λa=>f a)) λa=>f a)) λa=>ite a (f g) (f N)
def qf9:vx:=qhy
theorem qmc:qf9=P9.F:=jO
def qi9(A:vx)(x:zr):U3 (qr×Int):=U1 (ZI x.1 x.2.1 x.2.2) λa=>ite (q (16 < (↑a.size:Int))) (f (qr.mk 0 (lit []) 0 0,13)) (U1 (A a) λb=>U1 (ite b (f (qr.mk 0 (lit []) 0 0,qr.mk 2 a 0 x.2.1)) (f (qr.mk 0 (lit []) 0 0,qr.mk 1 a 0 x.2.1))) λ(_,c)=>f (c,0))
def qgl:zr->U3 (qr×Int):=qi9 qf9
theorem qmh:qgl=P10.F:=by delta qgl;rw[qmc];kernel_rfl
def q4w(x:xq):Uk:=U1 (ite (q ((↑(V x.2):Int)<=(↑(V x.1):Int))) (U1 (ZI x.1 0 (↑(V x.2):Int)) λa=>f (q (a=x.2))) (f N)) λa=>f a
def qbi:xq->Uk:=q4w
theorem qfx:qbi=P11.F:=jO
def qgp(A:zqk)(x:xq):Uk:=U1 (A x) λa=>f a
def q8f:xq->Uk:=qgp qbi
theorem qk9:q8f=P12.F:=by delta q8f;rw[qfx];kernel_rfl
def q8g:=Wl
theorem qka:F13=q8g:=rfl
def qcj(A:zqk)(B:WG):U0×(U0×xq)×Int->U3 (Step (U0×(U0×xq)×Int) (U0⊕U0)):=λ(a,b,c)=>ite (q (c < 3)) (U1 (vN [b.1,b.2.1,b.2.2] c) λd=>U1 (A (a,d)) λe=>ite e (f (Step.done (y d))) (f (Step.next (a,b,U4 (c+1))))) (f (Step.done (M a)))
def qln(A:zqk)(B:WG)(x:Zr):U3 U0:=U1 (lpO (qcj A B) (x,(lit [45,62],lit [60,61],lit [61,61]),0)) λa=>F (λb=>f b) (λb=>U1 (Zg b 0) λc=>U1 (B (lit [123,125,40,41,91,93,44,58,59,61,43,45,38,60],c)) λd=>ite (q (0<=d)) (U1 (ZI b 0 1) λe=>f e) (f (lit []))) a
def qht:zj1:=qln q8f q8g
theorem qmi:qht=P14.F:=by delta qht;rw[qk9,<-qka];kernel_rfl
def qfp(A:WG)(B:Zk)(C:WG)(D:zjI)(E:Zk)(G:WG)(H:zjI)(I:zj1):zhj->U3 (Step zhj zwa):=λ(a,b,c)=>ite (q (b < (↑(V a):Int))) (U1 (U1 (Zg a b) λd=>U1 (ite (q (d=32)) (f (a,b,0,d,g,c,qr.mk 0 (lit []) 0 0)) (f (a,b,0,d,q (d=10),c,qr.mk 0 (lit []) 0 0))) λ((e,i,j,l,m,n,_):U0×Int×Int×Int×Bool×Sl qr×qr)=>U1 (ite m (f (y (e,U4 (i+1),n))) (ite (q (l=35)) (U1 (A (e,i)) λo=>f (y (e,o,n))) (U1 (B l) λp=>U1 (ite p (U1 (C (e,i)) λr=>U1 (D (e,i,r)) λ(s,t)=>f (e,i,t,n,s)) (U1 (E l) λu=>U1 (ite u (U1 (G (e,i)) λv=>U1 (H (e,i,v)) λ(w,z)=>f (e,i,z,n,w)) (U1 (ZI e i (↑(V e):Int)) λJ=>U1 (I J) λK=>U1 (ite (q (K=lit [])) (f (e,i,11,n,qr.mk 4 K 0 i)) (f (e,i,j,n,qr.mk 4 K 0 i))) λ(L:zjR)=>f L)) λ(v:zjR)=>f v)) λ(r:zjR)=>f (M r)))) λ(o:U0×Int×Sl qr⊕U0×Int×Int×Sl qr×qr)=>F (λp=>f (y p)) (λ(p,r,s,t,u)=>ite (q (s≠0)) (f (M (r,s))) (U1 (zo 40 t [u]) λv=>f (y (p,U4 (r+(↑u.T_.size:Int)),v)))) o) λ(d:U0×Int×Sl qr⊕Int×Int)=>F (λe=>f (Step.next e)) (λe=>f (Step.done (y e))) d) (f (Step.done (M (a,c))))
def qhl(A:WG)(B:Zk)(C:WG)(D:zjI)(E:Zk)(G:WG)(H:zjI)(I:zj1)(x:Zr):U3 zqx:=U1 (ite (q (16384 < (↑x.size:Int))) (f (0,10,O [] N)) (U1 (lpO (qfp A B C D E G H I) (x,0,O [] N)) λa=>F (λ(b,c)=>f (b,c,O [] N)) (λ(b,c)=>U1 (zo 40 c [qr.mk 0 (lit []) 0 (↑(V b):Int)]) λd=>f (0,0,d)) a)) λ(a:zqx)=>f a
def qd3:zjM:=qhl qcu qbb qem qeo q99 qdg qgl qht
theorem qm7:qd3=P15.F:=by delta qd3;rw[qlb,qia,qlu,qm5,qi2,qlq,qmh,qmi];kernel_rfl
def qfz(x:q7):U3 (qr×q7):=U1 (za x.Z_ 0) λa=>f (a,x)
def q14:xr:=qfz
theorem q2r:q14=P16.F:=jO
def qh6(A:xr)(x:WH):U3 zL:=U1 (A x.2) λa=>U1 (ite (q (a.1.k_=2)) (f (q (a.1.T_=x.1),a.2)) (ite (q (a.1.k_=4)) (f (q (a.1.T_=x.1),a.2)) (f (N,a.2)))) λb=>f b
def q2h:WH->U3 zL:=qh6 q14
theorem q7n:q2h=P17.F:=by delta q2h;rw[q2r];kernel_rfl
def qgq(A:Zy)(x:WH):U3 zL:=U1 (A x) λa=>ite (!a.1) (f (N,a.2)) (U1 (z7 a.2.Z_ 1 a.2.Z_.len) λb=>f (g,q7.mk b a.2.D_))
def q11:WH->U3 zL:=qgq q2h
theorem q1i:q11=P18.F:=by delta q11;rw[q7n];kernel_rfl
def qg0(A:xr)(x:Ur):U3 zg:=U1 (A x.2) λa=>f ((a.1.a_,x.1),a.2)
def q1y:Ur->U3 zg:=qg0 q14
theorem q6m:q1y=P19.F:=by delta q1y;rw[q2r];kernel_rfl
def qg1(A:xr)(B:zaI)(x:Ur):U3 zhg:=U1 (A x.2) λa=>ite (q (a.1.k_≠x.1)) (U1 (B (20,a.2)) λb=>f (y b)) (U1 (z7 a.2.Z_ 1 a.2.Z_.len) λc=>f (M (a.1,q7.mk c a.2.D_)))
def q69:Ur->U3 zhg:=qg1 q14 q1y
theorem qgr:q69=P20.F:=by delta q69;rw[q2r,q6m];kernel_rfl
def qg2(A:zvS)(x:q7):U3 Z5:=U1 (A (1,x)) λa=>F (λb=>f (y b)) (λb=>f (M ((5,b.1.T_,0,b.1.a_),b.2))) a
def q1d:wG:=qg2 q69
theorem q33:q1d=P21.F:=by delta q1d;rw[qgr];kernel_rfl
def qg3(A:Zy)(B:zaI)(x:WH):U3 ye:=U1 (A x) λa=>ite (!a.1) (U1 (B (20,a.2)) λb=>f (y b)) (f (M a.2))
def q17:WH->U3 ye:=qg3 q11 q1y
theorem q2f:q17=P22.F:=by delta q17;rw[q1i,q6m];kernel_rfl
def qg4(A:xr)(B:Zy)(C:Xt)(D:wG)(x:q7):U3 zqq:=U1 (A x) λa=>U1 (A a.2) λb=>U1 (B (lit [105,110,116],b.2)) λc=>ite c.1 (f (y (q8.mk 8 a.1.T_ 0 b.1.a_ (O [] N),c.2))) (U1 (B (lit [111,119,110],c.2)) λd=>U1 (ite d.1 (f (y (d.2,(0,lit [],0,0),8,a.1.T_,0,b.1.a_))) (U1 (C (lit [38],d.2)) λe=>F (λi=>f (M i)) (λi=>U1 (B (lit [109,117,116],i)) λj=>U1 (ite j.1 (f (j.2,(0,lit [],0,0),8,lit [38,109,117,116],0,b.1.a_)) (f (j.2,(0,lit [],0,0),8,a.1.T_,0,b.1.a_))) λ(l:X8)=>f (y l)) e)) λ(e:q7×(Int×U0×Int×Int)×Int×U0×Int×Int⊕zH×q7)=>F (λi=>U1 (D i.1) λj=>F (λl=>f (M l)) (λl=>f (y (q8.mk i.2.2.1 i.2.2.2.1 i.2.2.2.2.1 i.2.2.2.2.2 (O [q8.mk l.1.1 l.1.2.1 l.1.2.2.1 l.1.2.2.2 (O [] N)] g),l.2))) j) (λi=>f (M i)) e)
def qaw:zjJ:=qg4 q14 q11 q17 q1d
theorem qgs:qaw=P23.F:=by delta qaw;rw[q2r,q1i,q2f,q33];kernel_rfl
def qfc(A:wG)(B:Xt)(C:zjJ)(x:q7):U3 Zj:=U1 (A x) λa=>F (λb=>f (y b)) (λb=>U1 (B (lit [58],b.2)) λc=>F (λd=>f (y d)) (λd=>U1 (C d) λe=>F (λi=>f (M ((7,b.1.2),i.2,O [ke i.1] g))) (λi=>f (y i)) e) c) a
def q9o:ZQ:=qfc q1d q17 qaw
theorem qit:q9o=P24.F:=by delta q9o;rw[q33,q2f,qgs];kernel_rfl
def q9b(A:ZQ)(B:Zy):yw->U3 (Step yw yY):=λa=>U1 (B (lit [44],a.1)) λb=>ite b.1 (U1 (A b.2) λc=>F (λd=>f (Step.done (y d))) (λd=>U1 (zo 64 a.2 [q8.mk d.1.1 d.1.2.1 d.1.2.2.1 d.1.2.2.2 d.2.2]) λe=>f (Step.next (d.2.1,e))) c) (f (Step.done (M (b.2,a.2))))
def qde(A:ZQ)(B:Zy)(x:q7):U3 yY:=U1 (A x) λa=>F (λb=>f (y b)) (λb=>U1 (lpO (q9b A B) (b.2.1,O [q8.mk b.1.1 b.1.2.1 b.1.2.2.1 b.1.2.2.2 b.2.2] g)) λc=>F (λd=>f (y d)) (λd=>f (M d)) c) a
def qao:Y5:=qde q9o q11
theorem qho:qao=P25.F:=by delta qao;rw[qit,q1i];kernel_rfl
def qf2(x:q8×Int):U3 (q8×Int):=f (q8.mk x.1.k_ x.1.T_ x.1.n_ x.2 x.1.K_,x.2)
def q8p:q8×Int->U3 (q8×Int):=qf2
theorem qib:q8p=P26.F:=jO
def qfd(A:Xt)(x:q8×q7):U3 ZR:=U1 (A (lit [59],x.2)) λa=>F (λb=>f (y b)) (λb=>f (M (ke x.1,b))) a
def q78:q8×q7->U3 ZR:=qfd q17
theorem qiu:q78=P27.F:=by delta q78;rw[q2f];kernel_rfl
def qf3(A:zvS)(x:Ur):U3 Vh:=U1 (A (3,x.2)) λa=>F (λb=>f (y b)) (λb=>f (M (U4 (x.1 * b.1.n_),b.2))) a
def q5c:Ur->U3 Vh:=qf3 q69
theorem q92:q5c=P28.F:=by delta q5c;rw[qgr];kernel_rfl
def qh7(A:wG)(B:Xt)(C:zjC)(x:Ur):U3 Z5:=U1 (A x.2) λa=>F (λb=>f (y b)) (λb=>U1 (B (lit [91],b.2)) λc=>F (λd=>f (y d)) (λd=>U1 (C (1,d)) λe=>F (λi=>f (y i)) (λi=>U1 (B (lit [93],i.2)) λj=>F (λl=>f (y l)) (λl=>f (M ((x.1,b.1.2.1,i.1,b.1.2.2.2),l))) j) e) c) a
def qbz:Ur->U3 Z5:=qh7 q1d q17 q5c
theorem qkw:qbz=P29.F:=by delta qbz;rw[q33,q2f,q92];kernel_rfl
def qg5(A:Zy)(B:zjC)(x:q8×q7):U3 ZR:=U1 (A (lit [43],x.2)) λa=>U1 (ite a.1 (U1 (B (1,a.2)) λb=>F (λc=>f (y c)) (λc=>f (M (c.2,q8.mk x.1.k_ x.1.T_ c.1 x.1.a_ x.1.K_,0,lit [],0,0))) b) (U1 (A (lit [45],a.2)) λc=>U1 (ite c.1 (U1 (B (-1,c.2)) λd=>F (λe=>f (y e)) (λe=>f (M (e.2,q8.mk x.1.k_ x.1.T_ e.1 x.1.a_ x.1.K_,0,lit [],0,0))) d) (f (M (c.2,ke x.1,0,lit [],0,0)))) λ(d:zvL)=>F (λe=>f (y e)) (λe=>f (M (e.1,ke e.2.1,e.2.2))) d)) λ(b:zvL)=>F (λc=>f (y c)) (λc=>f (M (ke c.2.1,c.1))) b
def q6a:q8×q7->U3 ZR:=qg5 q11 q5c
theorem qgt:q6a=P30.F:=by delta q6a;rw[q1i,q92];kernel_rfl
def qg6(A:xr)(B:zjC)(C:Zy)(D:wG)(E:zqf)(x:q7):U3 ZR:=U1 (A x) λa=>U1 (A a.2) λb=>U1 (ite (q (b.1.k_=3)) (U1 (B (1,b.2)) λc=>F (λd=>f (y d)) (λd=>f (M (y (d.2,5,lit [],d.1,a.1.a_)))) c) (U1 (C (lit [45],b.2)) λd=>ite d.1 (U1 (B (-1,d.2)) λe=>F (λi=>f (y i)) (λi=>f (M (y (i.2,5,lit [],i.1,a.1.a_)))) e) (f (M (M (d.2,0,lit [],0,0)))))) λ(c:zH×q7⊕q7×Int×U0×Int×Int⊕q7×Int×U0×Int×Int)=>F (λd=>f (y d)) (λd=>F (λe=>f (M (q8.mk e.2.1 e.2.2.1 e.2.2.2.1 e.2.2.2.2 (O [] N),e.1))) (λe=>U1 (U1 (D e.1) λi=>F (λj=>f (y j)) (λj=>U1 (E (q8.mk j.1.1 j.1.2.1 j.1.2.2.1 j.1.2.2.2 (O [] N),j.2)) λl=>F (λm=>f (y m)) (λm=>f (M (m.2,ke m.1))) l) i) λ(i:zj3)=>F (λj=>f (y j)) (λj=>f (M (ke j.2,j.1))) i) d) c
def q2p:Y6:=qg6 q14 q5c q11 q1d q6a
theorem q7z:q2p=P31.F:=by delta q2p;rw[q2r,q92,q1i,q33,qgt];kernel_rfl
def q7t(A:Zy)(B:zaI):zqc->U3 (Step zqc (WH⊕q7)):=λa=>ite (q (a.2.1 < 3)) (U1 (vN [a.1.1,a.1.2.1,a.1.2.2] a.2.1) λb=>U1 (A (b,a.2.2)) λc=>ite c.1 (f (Step.done (y (b,c.2)))) (f (Step.next (a.1,U4 (a.2.1+1),c.2)))) (f (Step.done (M a.2.2)))
def qgu(A:Zy)(B:zaI)(x:q7):U3 zv8:=U1 (lpO (q7t A B) ((lit [60],lit [60,61],lit [61,61]),0,x)) λa=>F (λb=>f (y b)) (λb=>U1 (B (20,b)) λc=>f (M c)) a
def qe7:zp9:=qgu q11 q1y
theorem qkb:qe7=P32.F:=by delta qe7;rw[q1i,q6m];kernel_rfl
def qg7(A:Y6)(B:zp9)(x:q7):U3 Zj:=U1 (A x) λa=>F (λb=>f (y b)) (λb=>U1 (B b.2) λc=>F (λd=>U1 (A d.2) λe=>F (λi=>f (y i)) (λi=>f (M ((4,d.1,0,b.1.a_),i.2,O [ke b.1,ke i.1] g))) e) (λd=>f (y d)) c) a
def q55:ZQ:=qg7 q2p qe7
theorem qgv:q55=P33.F:=by delta q55;rw[q7z,qkb];kernel_rfl
def qal(A:Y6)(B:Zy):yw->U3 (Step yw yY):=λa=>U1 (B (lit [44],a.1)) λb=>ite b.1 (U1 (A b.2) λc=>F (λd=>f (Step.done (y d))) (λd=>U1 (zo 64 a.2 [ke d.1]) λe=>f (Step.next (d.2,e))) c) (f (Step.done (M (b.2,a.2))))
def qe4(A:Y6)(B:Zy)(x:q7):U3 yY:=U1 (A x) λa=>F (λb=>f (y b)) (λb=>U1 (lpO (qal A B) (b.2,O [ke b.1] g)) λc=>F (λd=>f (y d)) (λd=>f (M d)) c) a
def qau:Y5:=qe4 q2p q11
theorem qhv:qau=P34.F:=by delta qau;rw[q7z,q1i];kernel_rfl
def qg8(A:Xt)(B:Zy)(C:Y5)(x:q7):U3 yY:=U1 (A (lit [40],x)) λa=>F (λb=>f (y b)) (λb=>U1 (B (lit [41],b)) λc=>ite c.1 (f (M (c.2,O [] N))) (U1 (C c.2) λd=>F (λe=>f (y e)) (λe=>U1 (A (lit [41],e.1)) λi=>F (λj=>f (y j)) (λj=>f (M (j,e.2))) i) d)) a
def q6b:Y5:=qg8 q17 q11 qau
theorem qdv:q6b=P35.F:=by delta q6b;rw[q2f,q1i,qhv];kernel_rfl
def qg9(A:xr)(B:Zy)(C:zjC)(D:wG)(E:Y6)(G:Zy)(H:Y5)(I:Xt)(J:zqf)(x:q7):U3 ZR:=U1 (A x) λa=>U1 (B (lit [110,101,119],a.2)) λb=>U1 (ite b.1 (U1 (C (1,b.2)) λc=>F (λd=>f (y d)) (λd=>f (M (y (d.2,q8.mk 23 (lit []) d.1 a.1.a_ (O [] N))))) c) (U1 (B (lit [97,114,114,97,121],b.2)) λd=>U1 (ite d.1 (U1 (D d.2) λe=>F (λi=>f (y i)) (λi=>f (M (y (i.2,q8.mk 24 i.1.2.1 0 a.1.a_ (O [] N))))) e) (U1 (B (lit [38],d.2)) λi=>U1 (ite i.1 (U1 (B (lit [109,117,116],i.2)) λj=>U1 (ite j.1 (f (j.2,(0,lit [],0,0),27,lit [],0,a.1.a_)) (f (j.2,(0,lit [],0,0),26,lit [],0,a.1.a_))) λ(l:X8)=>U1 (D l.1) λm=>F (λn=>f (y n)) (λn=>f (M (y (n.2,q8.mk l.2.2.1 n.1.2.1 l.2.2.2.2.1 l.2.2.2.2.2 (O [] N))))) m) (U1 (A i.2) λn=>ite (q (n.1.k_≠1)) (U1 (E n.2) λo=>F (λp=>f (y p)) (λp=>f (M (y (p.2,ke p.1)))) o) (f (M (M (n.2,(0,lit [],0,0),0,lit [],0,a.1.a_)))))) λ(j:zu0)=>F (λl=>f (y l)) (λl=>F (λm=>f (M (y (m.1,ke m.2)))) (λm=>f (M (M m))) l) j)) λ(e:zu0)=>F (λi=>f (y i)) (λi=>F (λj=>f (M (y (j.1,ke j.2)))) (λj=>f (M (M j))) i) e)) λ(c:zu0)=>F (λd=>f (y d)) (λd=>F (λe=>f (M (ke e.2,e.1))) (λe=>U1 (D e.1) λi=>F (λj=>f (y j)) (λj=>U1 (G (lit [40],j.2)) λl=>U1 (ite l.1 (U1 (H l.2) λm=>F (λn=>f (y n)) (λn=>f (M (y (n.1,(28,j.1.2),n.2)))) m) (U1 (B (lit [91],l.2)) λn=>U1 (ite n.1 (U1 (E n.2) λo=>F (λp=>f (y p)) (λp=>U1 (I (lit [93],p.2)) λr=>F (λs=>f (y s)) (λs=>f (M (y (s,(25,j.1.2),O [ke p.1] g)))) r) o) (f (M (M (n.2,e.2.1,j.1))))) λ(o:zuR)=>F (λp=>f (y p)) (λp=>F (λr=>f (M (y r))) (λr=>f (M (M r))) p) o)) λ(m:zuR)=>F (λn=>f (y n)) (λn=>F (λo=>f (M (q8.mk o.2.1.1 o.2.1.2.1 o.2.1.2.2.1 o.2.1.2.2.2 o.2.2,o.1))) (λo=>U1 (yh (U1 (U1 (G (lit [43],o.1)) λp=>ite p.1 (U1 (za p.2.Z_ 1) λr=>f (lit [43],21,q (r.k_=1),p.2,o.2)) (f (lit [43],21,N,p.2,o.2))) λ(p:zpX)=>U1 (ite p.2.2.1 (U1 (I (p.1,p.2.2.2.1)) λr=>F (λs=>f (y (s.1,s.2,p.2.2.2.2))) (λs=>U1 (D s) λt=>F (λu=>f (y (u.1,u.2,p.2.2.2.2))) (λu=>f (M (y (u.2,(p.2.1,lit [],0,p.2.2.2.2.2.2.2.2),p.2.2.2.2.2,O [q8.mk p.2.2.2.2.2.1 p.2.2.2.2.2.2.1 p.2.2.2.2.2.2.2.1 p.2.2.2.2.2.2.2.2 (O [] N),q8.mk u.1.1 u.1.2.1 u.1.2.2.1 u.1.2.2.2 (O [] N)] g)))) t) r) (f (M (M p.2.2.2)))) λ(r:tA0)=>F (λs=>f (y (s.1,s.2.1))) (λs=>F (λt=>f (M (y (t.1,t.2.1,t.2.2.2)))) (λt=>U1 (U1 (G (lit [45],t.1)) λu=>ite u.1 (U1 (za u.2.Z_ 1) λv=>f (lit [45],22,q (v.k_=1),u.2,t.2)) (f (lit [45],22,N,u.2,t.2))) λ(u:zpX)=>U1 (ite u.2.2.1 (U1 (I (u.1,u.2.2.2.1)) λv=>F (λw=>f (y (w.1,w.2,u.2.2.2.2))) (λw=>U1 (D w) λz=>F (λK=>f (y (K.1,K.2,u.2.2.2.2))) (λK=>f (M (y (K.2,(u.2.1,lit [],0,u.2.2.2.2.2.2.2.2),u.2.2.2.2.2,O [q8.mk u.2.2.2.2.2.1 u.2.2.2.2.2.2.1 u.2.2.2.2.2.2.2.1 u.2.2.2.2.2.2.2.2 (O [] N),q8.mk K.1.1 K.1.2.1 K.1.2.2.1 K.1.2.2.2 (O [] N)] g)))) z) v) (f (M (M u.2.2.2)))) λ(v:tA0)=>F (λw=>f (y (w.1,w.2.1))) (λw=>F (λz=>f (M (y (z.1,z.2.1,z.2.2.2)))) (λz=>f (M (M z))) w) v) s) r) (U1 (U1 (G (lit [45],o.1)) λp=>ite p.1 (U1 (za p.2.Z_ 1) λr=>f (lit [45],22,q (r.k_=1),p.2,o.2)) (f (lit [45],22,N,p.2,o.2))) λ(p:zpX)=>U1 (ite p.2.2.1 (U1 (I (p.1,p.2.2.2.1)) λr=>F (λs=>f (y (s.1,s.2,p.2.2.2.2))) (λs=>U1 (D s) λt=>F (λu=>f (y (u.1,u.2,p.2.2.2.2))) (λu=>f (M (y (u.2,(p.2.1,lit [],0,p.2.2.2.2.2.2.2.2),p.2.2.2.2.2,O [q8.mk p.2.2.2.2.2.1 p.2.2.2.2.2.2.1 p.2.2.2.2.2.2.2.1 p.2.2.2.2.2.2.2.2 (O [] N),q8.mk u.1.1 u.1.2.1 u.1.2.2.1 u.1.2.2.2 (O [] N)] g)))) t) r) (f (M (M p.2.2.2)))) λ(r:tA0)=>F (λs=>f (y (s.1,s.2.1))) (λs=>F (λt=>f (M (y (t.1,t.2.1,t.2.2.2)))) (λt=>U1 (U1 (G (lit [43],t.1)) λu=>ite u.1 (U1 (za u.2.Z_ 1) λv=>f (lit [43],21,q (v.k_=1),u.2,t.2)) (f (lit [43],21,N,u.2,t.2))) λ(u:zpX)=>U1 (ite u.2.2.1 (U1 (I (u.1,u.2.2.2.1)) λv=>F (λw=>f (y (w.1,w.2,u.2.2.2.2))) (λw=>U1 (D w) λz=>F (λK=>f (y (K.1,K.2,u.2.2.2.2))) (λK=>f (M (y (K.2,(u.2.1,lit [],0,u.2.2.2.2.2.2.2.2),u.2.2.2.2.2,O [q8.mk u.2.2.2.2.2.1 u.2.2.2.2.2.2.1 u.2.2.2.2.2.2.2.1 u.2.2.2.2.2.2.2.2 (O [] N),q8.mk K.1.1 K.1.2.1 K.1.2.2.1 K.1.2.2.2 (O [] N)] g)))) z) v) (f (M (M u.2.2.2)))) λ(v:tA0)=>F (λw=>f (y (w.1,w.2.1))) (λw=>F (λz=>f (M (y (z.1,z.2.1,z.2.2.2)))) (λz=>f (M (M z))) w) v) s) r)) λp=>F (λr=>f (y r)) (λr=>F (λs=>f (M (q8.mk s.2.1.1 s.2.1.2.1 s.2.1.2.2.1 s.2.1.2.2.2 s.2.2,s.1))) (λs=>U1 (J (q8.mk s.2.2.1 s.2.2.2.1 s.2.2.2.2.1 s.2.2.2.2.2 (O [] N),s.1)) λt=>F (λu=>f (y u)) (λu=>f (M (ke u.1,u.2))) t) r) p) n) m) i) d) c
def qdj:Y6:=qg9 q14 q11 q5c q1d q2p q2h q6b q17 q6a
theorem qjm:@Eq Y6 F36 qdj:=by delta qdj;rw[q2r,q1i,q92,q33,q7z,q7n,qdv,q2f,qgt];kernel_rfl
def qfe(A:Zy)(B:Y5)(C:Zy)(D:Y6)(E:Xt)(G:Y6)(x:q8×q7):U3 Zj:=U1 (A (lit [40],x.2)) λa=>U1 (ite a.1 (U1 (B a.2) λb=>F (λc=>f (y c)) (λc=>f (M (y (c.1,(20,lit [],0,x.1.a_),O [q8.mk 28 x.1.T_ x.1.n_ x.1.a_ c.2] g)))) b) (U1 (C (lit [91],a.2)) λc=>U1 (ite c.1 (U1 (D c.2) λd=>F (λe=>f (y e)) (λe=>U1 (E (lit [93],e.2)) λi=>F (λj=>f (y j)) (λj=>U1 (E (lit [61],j)) λl=>F (λm=>f (y m)) (λm=>U1 (D m) λn=>F (λo=>f (y o)) (λo=>f (M (y (o.2,(11,x.1.T_,x.1.n_,x.1.a_),O ([ke e.1]++[ke o.1]) (g || ![ke o.1].isEmpty))))) n) l) i) d) (f (M (M (c.2,ke x.1,0,lit [],0,0))))) λ(d:zzL)=>F (λe=>f (y e)) (λe=>F (λi=>f (M (y i))) (λi=>f (M (M (i.1,ke i.2.1,i.2.2)))) e) d)) λ(b:zzL)=>F (λc=>f (y c)) (λc=>F (λd=>f (M (d.2.1,d.1,d.2.2))) (λd=>U1 (E (lit [61],d.1)) λe=>F (λi=>f (y i)) (λi=>U1 (G i) λj=>F (λl=>f (y l)) (λl=>f (M ((10,d.2.1.T_,d.2.1.n_,d.2.1.a_),l.2,O [ke l.1] g))) j) e) c) b
def q9p:q8×q7->U3 Zj:=qfe q2h q6b q11 q2p q17 qdj
theorem qiv:q9p=P37.F:=by delta q9p;rw[q7n,qdv,q1i,q7z,q2f,<-qjm];kernel_rfl
def q8e(A:ZQ)(B:ZQ)(x:zeV):U3 Zj:=U1 (A x.2.2) λa=>F (λb=>f (y b)) (λb=>U1 (B b.2.1) λc=>F (λd=>f (y d)) (λd=>U1 (zo 64 b.2.2 [q8.mk d.1.1 d.1.2.1 d.1.2.2.1 d.1.2.2.2 d.2.2]) λe=>f (M ((x.1,b.1.2.1,b.1.2.2.1,x.2.1),d.2.1,e))) c) a
def q48(h:ZQ):zeV->U3 Zj:=q8e q55 h
theorem qf4(h:ZQ):@Eq ((zeV)->U3 Zj) (zlg h) (q48 h):=by delta q48;rw[qgv];kernel_rfl
def qai(A:xr)(B:Zy)(C:wG)(D:q8×Int->U3 (q8×Int))(E:zqf)(G:Ur->U3 Z5)(H:zeV->U3 Zj)(I:ZQ)(J:Zy)(K:Y6)(L:Y5)(P:q8×q7->U3 Zj)(x:q7):U3 ZR:=U1 (A x) λa=>U1 (B (lit [102,114,101,101],a.2)) λb=>U1 (ite b.1 (U1 (C b.2) λc=>F (λd=>f (y d)) (λd=>U1 (D (q8.mk 12 d.1.2.1 d.1.2.2.1 d.1.2.2.2 (O [] N),a.1.a_)) λe=>U1 (E (ke e.1,d.2)) λi=>F (λj=>f (y j)) (λj=>f (M (y (j.2,ke j.1)))) i) c) (U1 (B (lit [108,111,99,107],b.2)) λd=>U1 (ite d.1 (U1 (U1 (G (13,d.2)) λe=>F (λi=>f (y i)) (λi=>U1 (D (q8.mk i.1.1 i.1.2.1 i.1.2.2.1 i.1.2.2.2 (O [] N),a.1.a_)) λj=>U1 (E (ke j.1,i.2)) λl=>F (λm=>f (y m)) (λm=>f (M (m.2,ke m.1))) l) e) λ(e:zj3)=>F (λi=>f (y i)) (λi=>f (M (y (i.1,ke i.2)))) e) (U1 (B (lit [117,110,108,111,99,107],d.2)) λi=>U1 (ite i.1 (U1 (U1 (G (14,i.2)) λj=>F (λl=>f (y l)) (λl=>U1 (D (q8.mk l.1.1 l.1.2.1 l.1.2.2.1 l.1.2.2.2 (O [] N),a.1.a_)) λm=>U1 (E (ke m.1,l.2)) λn=>F (λo=>f (y o)) (λo=>f (M (o.2,ke o.1))) n) j) λ(j:zj3)=>F (λl=>f (y l)) (λl=>f (M (y (l.1,ke l.2)))) j) (U1 (B (lit [105,102],i.2)) λl=>U1 (ite l.1 (U1 (H (15,a.1.a_,l.2)) λm=>F (λn=>f (y n)) (λn=>U1 (B (lit [101,108,115,101],n.2.1)) λo=>U1 (ite o.1 (U1 (I o.2) λp=>F (λr=>f (y r)) (λr=>U1 (zo 64 n.2.2 [q8.mk r.1.1 r.1.2.1 r.1.2.2.1 r.1.2.2.2 r.2.2]) λs=>f (M (r.2.1,(0,lit [],0,0),n.1,s))) p) (U1 (zo 64 n.2.2 [q8.mk 9 (lit []) 0 a.1.a_ (O [] N)]) λr=>f (M (o.2,(0,lit [],0,0),n.1,r)))) λ(p:zcH)=>F (λr=>f (y r)) (λr=>f (M (y (r.1,q8.mk r.2.2.1.1 r.2.2.1.2.1 r.2.2.1.2.2.1 r.2.2.1.2.2.2 r.2.2.2)))) p) m) (U1 (B (lit [119,104,105,108,101],l.2)) λn=>U1 (ite n.1 (U1 (H (16,a.1.a_,n.2)) λo=>F (λp=>f (y p)) (λp=>f (M (y (p.2.1,q8.mk p.1.1 p.1.2.1 p.1.2.2.1 p.1.2.2.2 p.2.2)))) o) (U1 (B (lit [114,101,116,117,114,110],n.2)) λp=>U1 (ite p.1 (U1 (J (lit [59],p.2)) λr=>U1 (ite (!r.1) (U1 (K r.2) λs=>F (λt=>f (y t)) (λt=>f (M (t.2,(0,lit [],0,0),(17,lit [],0,a.1.a_),O [ke t.1] g))) s) (f (M (r.2,(0,lit [],0,0),(17,lit [],0,a.1.a_),O [] N)))) λ(s:zcH)=>F (λt=>f (y t)) (λt=>U1 (E (q8.mk t.2.2.1.1 t.2.2.1.2.1 t.2.2.1.2.2.1 t.2.2.1.2.2.2 t.2.2.2,t.1)) λu=>F (λv=>f (y v)) (λv=>f (M (y (v.2,ke v.1)))) u) s) (U1 (B (lit [97,98,111,114,116],p.2)) λt=>U1 (ite t.1 (U1 (E (q8.mk 18 (lit []) 0 a.1.a_ (O [] N),t.2)) λu=>F (λv=>f (y v)) (λv=>f (M (y (v.2,ke v.1)))) u) (U1 (B (lit [102,111,114,107],t.2)) λv=>U1 (ite v.1 (U1 (C v.2) λw=>F (λz=>f (y z)) (λz=>U1 (L z.2) λQ=>F (λR=>f (y R)) (λR=>U1 (D (q8.mk 19 z.1.2.1 z.1.2.2.1 z.1.2.2.2 R.2,a.1.a_)) λS=>U1 (E (ke S.1,R.1)) λT=>F (λU=>f (y U)) (λU=>f (M (y (U.2,ke U.1)))) T) Q) w) (f (M (M (v.2,0,lit [],0,0))))) λ(w:zaC)=>F (λz=>f (y z)) (λz=>F (λQ=>f (M (y (Q.1,ke Q.2)))) (λQ=>f (M (M Q))) z) w)) λ(u:zaC)=>F (λv=>f (y v)) (λv=>F (λw=>f (M (y (w.1,ke w.2)))) (λw=>f (M (M w))) v) u)) λ(r:zaC)=>F (λs=>f (y s)) (λs=>F (λt=>f (M (y (t.1,ke t.2)))) (λt=>f (M (M t))) s) r)) λ(o:zaC)=>F (λp=>f (y p)) (λp=>F (λr=>f (M (y (r.1,ke r.2)))) (λr=>f (M (M r))) p) o)) λ(m:zaC)=>F (λn=>f (y n)) (λn=>F (λo=>f (M (y (o.1,ke o.2)))) (λo=>f (M (M o))) n) m)) λ(j:zaC)=>F (λl=>f (y l)) (λl=>F (λm=>f (M (y (m.1,ke m.2)))) (λm=>f (M (M m))) l) j)) λ(e:zaC)=>F (λi=>f (y i)) (λi=>F (λj=>f (M (y (j.1,ke j.2)))) (λj=>f (M (M j))) i) e)) λ(c:zaC)=>F (λd=>f (y d)) (λd=>F (λe=>f (M (ke e.2,e.1))) (λe=>U1 (U1 (C e.1) λi=>F (λj=>f (y j)) (λj=>U1 (P (q8.mk j.1.1 j.1.2.1 j.1.2.2.1 j.1.2.2.2 (O [] N),j.2)) λl=>F (λm=>f (y m)) (λm=>U1 (E (q8.mk m.1.1 m.1.2.1 m.1.2.2.1 m.1.2.2.2 m.2.2,m.2.1)) λn=>F (λo=>f (y o)) (λo=>f (M (o.2,ke o.1))) n) l) i) λ(i:zj3)=>F (λj=>f (y j)) (λj=>f (M (ke j.2,j.1))) i) d) c
def q41(h:ZQ):Y6:=qai q14 q11 q1d q8p q78 qbz (q48 h) h q2h q2p q6b q9p
theorem qga(h:ZQ):@Eq Y6 (zlh h) (q41 h):=by delta q41;rw[q2r,q1i,q33,qib,qiu,qkw,<-qf4 h,q7n,q7z,qdv,qiv];kernel_rfl
def qfa(A:xr)(B:Zy)(C:zaI)(D:Xt)(E:Zy)(G:Y6):xk->U3 (Step xk zcH):=λa=>U1 (E (lit [125],a.1)) λb=>ite (!b.1) (U1 (G b.2) λc=>F (λd=>f (Step.done (y d))) (λd=>U1 (zo 64 a.2.2.2 [ke d.1]) λe=>f (Step.next (d.2,a.2.1,a.2.2.1,e))) c) (f (Step.done (M (b.2,a.2))))
def q93(A:xr)(B:Zy)(C:zaI)(D:Xt)(E:Zy)(G:Y6)(x:q7):U3 Zj:=U1 (A x) λa=>U1 (U1 (B (lit [123],a.2)) λb=>ite b.1 (f (q (8<=b.2.D_),b.2,(0,lit [],0,0),9,lit [],0,a.1.a_)) (f (N,b.2,(0,lit [],0,0),9,lit [],0,a.1.a_))) λb=>ite b.1 (U1 (C (21,b.2.1)) λc=>f (y c)) (U1 (D (lit [123],b.2.1)) λd=>F (λe=>f (y e)) (λe=>U1 (lpO (qfa A B C D E G) (q7.mk e.Z_ (U4 (e.D_+1)),b.2.2.1,b.2.2.2,O [] N)) λi=>F (λj=>f (y j)) (λj=>f (M (j.2.2.1,q7.mk j.1.Z_ (U4 (j.1.D_ - 1)),j.2.2.2))) i) d)
def q94(h:ZQ):ZQ:=q93 q14 q2h q1y q17 q11 (q41 h)
theorem qic(h:ZQ):@Eq ZQ (zoS h) (q94 h):=by delta q94;rw[q2r,q7n,q6m,q2f,q1i,<-qga h];kernel_rfl
def q3p:Nat->q7->U3 Zj
 |0=>λ_=>Y
 |k+1=>q94 (q3p k)
theorem q95:∀k,@Eq ZQ (zfE k) (q3p k)
 |0=>rfl
 |k+1=>(qic (zfE k)).trans (congrArg q94 (q95 k))
def qd5:ZQ:=q3p 100000
theorem qiw:@Eq ZQ F40 qd5:=q95 100000
def qh8(A:wG)(B:Xt)(C:Zy)(D:Y5)(E:Zy)(G:zaI)(H:zjJ)(I:xr)(J:ZQ)(x:Ur):U3 Zj:=U1 (A x.2) λa=>F (λb=>f (y b)) (λb=>U1 (B (lit [40],b.2)) λc=>F (λd=>f (y d)) (λd=>U1 (C (lit [41],d)) λe=>U1 (ite (!e.1) (U1 (D e.2) λi=>F (λj=>f (y j)) (λj=>f (M (j.1,(0,lit [],0,0),(6,b.1.2.1,b.1.2.2.1,x.1),j.2))) i) (f (M (e.2,(0,lit [],0,0),(6,b.1.2.1,b.1.2.2.1,x.1),O [] N)))) λ(i:zcH)=>F (λj=>f (y j)) (λj=>U1 (B (lit [41],j.1)) λl=>F (λm=>f (y m)) (λm=>U1 (E (lit [45,62],m)) λn=>U1 (ite n.1 (U1 (C (lit [38],n.2)) λo=>ite o.1 (U1 (G (20,o.2)) λp=>f (y p)) (U1 (H o.2) λr=>F (λs=>f (M (s.2,j.2.1,j.2.2.1,ke s.1,j.2.2.2))) (λs=>f (y s)) r)) (U1 (I n.2) λs=>f (M (s.2,j.2.1,j.2.2.1,q8.mk 8 (lit []) 0 s.1.a_ (O [] N),j.2.2.2)))) λ(o:zH×q7⊕q7×(Int×U0×Int×Int)×(Int×U0×Int×Int)×q8×Sl q8)=>F (λp=>f (y p)) (λp=>U1 (J p.1) λr=>F (λs=>f (y s)) (λs=>U1 (zo 64 p.2.2.2.2 [ke p.2.2.2.1,q8.mk s.1.1 s.1.2.1 s.1.2.2.1 s.1.2.2.2 s.2.2]) λt=>f (M (p.2.2.1,s.2.1,t))) r) o) l) i) c) a
def qc0:Ur->U3 Zj:=qh8 q1d q17 q2h qao q11 q1y qaw q14 qd5
theorem qkx:qc0=P41.F:=by delta qc0;rw[q33,q2f,q7n,qho,q1i,q6m,qgs,q2r,<-qiw];kernel_rfl
def qgb(A:xr)(B:Zy)(C:wG)(D:zaI)(x:q7):U3 zvH:=U1 (A x) λa=>U1 (A a.2) λb=>U1 (B (lit [111,119,110],b.2)) λc=>U1 (ite c.1 (f (c.1,c.2,(0,lit [],0,0),2,a.1.T_,0,b.1.a_)) (U1 (B (lit [99,101,108,108],c.2)) λd=>f (d.1,d.2,(0,lit [],0,0),2,a.1.T_,0,b.1.a_))) λ(d:zjx)=>U1 (ite d.1 (f (y (d.2.1,d.2.2.1,d.2.2.2,O [] N))) (U1 (B (lit [99,111,117,110,116,101,100],d.2.1)) λe=>U1 (ite e.1 (f (e.1,e.2,d.2.2)) (U1 (B (lit [108,111,99,107],e.2)) λi=>U1 (ite i.1 (f (i.1,i.2,d.2.2)) (U1 (B (lit [103,117,97,114,100],i.2)) λj=>f (j.1,j.2,d.2.2))) λ(j:zjx)=>f j)) λ(i:zjx)=>U1 (ite i.1 (U1 (C i.2.1) λj=>F (λl=>f (y l)) (λl=>f (M (l.2,i.2.2.1,i.2.2.2,O [q8.mk l.1.1 l.1.2.1 l.1.2.2.1 l.1.2.2.2 (O [] N)] g))) j) (U1 (D (20,i.2.1)) λl=>f (y l))) λ(j:zcH)=>F (λl=>f (M l)) (λl=>f (y l)) j)) λ(e:q7×(Int×U0×Int×Int)×(Int×U0×Int×Int)×Sl q8⊕zH×q7)=>F (λi=>f (y (i.2.2.1,i.1,i.2.2.2))) (λi=>f (M i)) e
def qdi:zpY:=qgb q14 q11 q1d q1y
theorem qjo:qdi=P42.F:=by delta qdi;rw[q2r,q1i,q33,q6m];kernel_rfl
def qff(A:wG)(B:Zy)(C:Xt)(x:q7):U3 Zj:=U1 (A x) λa=>F (λb=>f (y b)) (λb=>U1 (B (lit [91],b.2)) λc=>U1 (ite c.1 (U1 (A c.2) λd=>F (λe=>f (y e)) (λe=>U1 (C (lit [93],e.2)) λi=>F (λj=>f (y j)) (λj=>f (M (j,(0,lit [],0,0),(3,b.1.2),O [q8.mk e.1.1 e.1.2.1 e.1.2.2.1 e.1.2.2.2 (O [] N)] g))) i) d) (f (M (c.2,(0,lit [],0,0),(3,b.1.2),O [] N)))) λ(d:zcH)=>F (λe=>f (y e)) (λe=>f (M (e.2.2.1,e.1,e.2.2.2))) d) a
def q9n:ZQ:=qff q1d q11 q17
theorem qix:q9n=P43.F:=by delta q9n;rw[q33,q1i,q2f];kernel_rfl
def q9a(A:ZQ)(B:Zy):yw->U3 (Step yw yY):=λa=>U1 (B (lit [44],a.1)) λb=>ite b.1 (U1 (A b.2) λc=>F (λd=>f (Step.done (y d))) (λd=>U1 (zo 64 a.2 [q8.mk d.1.1 d.1.2.1 d.1.2.2.1 d.1.2.2.2 d.2.2]) λe=>f (Step.next (d.2.1,e))) c) (f (Step.done (M (b.2,a.2))))
def qdf(A:ZQ)(B:Zy)(x:q7):U3 yY:=U1 (A x) λa=>F (λb=>f (y b)) (λb=>U1 (lpO (q9a A B) (b.2.1,O [q8.mk b.1.1 b.1.2.1 b.1.2.2.1 b.1.2.2.2 b.2.2] g)) λc=>F (λd=>f (y d)) (λd=>f (M d)) c) a
def qan:Y5:=qdf q9n q11
theorem qhp:qan=P44.F:=by delta qan;rw[qix,q1i];kernel_rfl
def qam(A:ZQ)(B:Zy):yw->U3 (Step yw yY):=λa=>U1 (B (lit [44],a.1)) λb=>ite b.1 (U1 (A b.2) λc=>F (λd=>f (Step.done (y d))) (λd=>U1 (zo 64 a.2 [q8.mk d.1.1 d.1.2.1 d.1.2.2.1 d.1.2.2.2 d.2.2]) λe=>f (Step.next (d.2.1,e))) c) (f (Step.done (M (b.2,a.2))))
def qe5(A:ZQ)(B:Zy)(x:q7):U3 yY:=U1 (A x) λa=>F (λb=>f (y b)) (λb=>U1 (lpO (qam A B) (b.2.1,O [q8.mk b.1.1 b.1.2.1 b.1.2.2.1 b.1.2.2.2 b.2.2] g)) λc=>F (λd=>f (y d)) (λd=>f (M d)) c) a
def qav:Y5:=qe5 q55 q11
theorem qhw:qav=P45.F:=by delta qav;rw[qgv,q1i];kernel_rfl
def qgw(A:wG)(B:zpY)(C:Zy)(D:Y5)(E:Xt)(G:Y5)(x:Ur):U3 Zj:=U1 (A x.2) λa=>F (λb=>f (y b)) (λb=>U1 (B b.2) λc=>F (λd=>U1 (C (lit [123],d.2.1)) λe=>U1 (ite e.1 (U1 (D e.2) λi=>F (λj=>f (y j)) (λj=>U1 (zo 64 (O [q8.mk d.1.1 d.1.2.1 d.1.2.2.1 d.1.2.2.2 d.2.2] g) j.2.xs) λl=>U1 (E (lit [125],j.1)) λm=>F (λn=>f (y n)) (λn=>f (M (n,(0,lit [],0,0),(1,b.1.2.1,b.1.2.2.1,x.1),l))) m) i) (f (M (e.2,(0,lit [],0,0),(1,b.1.2.1,b.1.2.2.1,x.1),O [q8.mk d.1.1 d.1.2.1 d.1.2.2.1 d.1.2.2.2 d.2.2] g)))) λ(i:zcH)=>F (λj=>f (y j)) (λj=>U1 (C (lit [119,104,101,114,101],j.1)) λl=>U1 (ite l.1 (U1 (G l.2) λm=>F (λn=>f (y n)) (λn=>U1 (zo 64 j.2.2.2 n.2.xs) λo=>f (M (n.1,j.2.1,j.2.2.1,o))) m) (f (M (l.2,j.2)))) λ(m:zcH)=>F (λn=>f (y n)) (λn=>U1 (E (lit [59],n.1)) λo=>F (λp=>f (y p)) (λp=>f (M (n.2.2.1,p,n.2.2.2))) o) m) i) (λd=>f (y d)) c) a
def qbj:Ur->U3 Zj:=qgw q1d qdi q11 qan q17 qav
theorem qkc:qbj=P46.F:=by delta qbj;rw[q33,qjo,q1i,qhp,q2f,qhw];kernel_rfl
def qd6(A:wa):Int×Uh×zH->U3 (Step (Int×Uh×zH) Int):=λ(a,b,c,d)=>ite (q (d < c)) (U1 (za b d) λe=>U1 (A (ke e)) λi=>f (Step.next (U4 (a+i),b,c,U4 (d+1)))) (f (Step.done a))
def qf0(A:wa)(x:q8):Uc:=U1 (lpO (qd6 A) (1,x.K_,x.K_.len,0)) λa=>f a
def qf1(h:wa):wa:=qf0 h
theorem qlx(h:wa):@Eq wa (zoU h) (qf1 h):=jO
def q6c:Nat->q8->U3 Int
 |0=>λ_=>Y
 |k+1=>qf1 (q6c k)
theorem qiy:∀k,@Eq wa (zli k) (q6c k)
 |0=>rfl
 |k+1=>(qlx (zli k)).trans (congrArg qf1 (qiy k))
def qfq:wa:=q6c 100000
theorem qly:@Eq wa F47 qfq:=qiy 100000
def qgc(x:zaB):U3 xl:=f ((0,lit [],0,0),x.1.1,x.1.2,x.2.2.2.2)
def qdk:zaB->U3 xl:=qgc
theorem qjp:@Eq ((zaB)->U3 xl) F48 qdk:=jO
def qf5(x:xl):U3 xl:=f x
def qck:xl->U3 xl:=qf5
theorem qie:@Eq ((xl)->U3 xl) F49 qck:=jO
def q6p(A:zjM)(B:xr)(C:Zy)(D:zjt)(E:Xt)(G:zjt)(H:zzF)(I:wa)(J:zzI):zeA->U3 (Step zeA zzG):=λ(a,b,c,d,e)=>U1 (B d) λ(i,j)=>ite (q (i.k_≠0)) (U1 (U1 (B j) λ(l,m)=>U1 (C (lit [102,110],m)) λ(n,o)=>ite n (U1 (U1 (D (l.a_,o)) λp=>F (λ(r,_)=>f (y (r,a,b,c,e))) (λ(r,s,t)=>U1 (zo 64 e [q8.mk 0 (lit []) 0 0 (O [] N)]) λu=>U1 (za u (Sl.len e)) λv=>yh (U1 (za u (Sl.len e)) λw=>f (M (a,b,c,s,u.set (Sl.len e) (q8.mk r.1 r.2.1 r.2.2.1 r.2.2.2 t)))) (U1 (za u (Sl.len e)) λw=>f (M (a,b,c,s,u.set (Sl.len e) (q8.mk r.1 r.2.1 r.2.2.1 r.2.2.2 t))))) p) λp=>F (λr=>f (y r)) (λr=>f (M r)) p) (U1 (E (lit [116,121,112,101],o)) λr=>F (λ(s,_)=>f (y (s,a,b,c,e))) (λs=>U1 (U1 (G (l.a_,s)) λt=>F (λ(u,_)=>f (y (u,a,b,c,e))) (λ(u,v,w)=>U1 (zo 64 e [q8.mk 0 (lit []) 0 0 (O [] N)]) λz=>U1 (za z (Sl.len e)) λK=>yh (U1 (za z (Sl.len e)) λL=>f (M (a,b,c,v,z.set (Sl.len e) (q8.mk u.1 u.2.1 u.2.2.1 u.2.2.2 w)))) (U1 (za z (Sl.len e)) λL=>f (M (a,b,c,v,z.set (Sl.len e) (q8.mk u.1 u.2.1 u.2.2.1 u.2.2.2 w))))) t) λt=>F (λu=>f (y u)) (λu=>f (M u)) t) r)) λl=>F (λm=>f (Step.done (y m))) (λm=>f (Step.next m)) l) (f (Step.done (M (a,b,c,e))))
def qi8(A:zjM)(B:xr)(C:Zy)(D:zjt)(E:Xt)(G:zjt)(H:zzF)(I:wa)(J:zzI)(x:Zr):U3 (q8×zH):=U1 (A x) λ(a,b,c)=>ite (q (b≠0)) (f (q8.mk 0 (lit []) 0 0 (O [] N),a,b)) (U1 (lpO (q6p A B C D E G H I J) ((0,lit [],0,0),a,b,q7.mk c 0,O [] N)) λd=>F (λe=>U1 (H e) λ(i,j,l,_)=>f (q8.mk i.1 i.2.1 i.2.2.1 i.2.2.2 (O [] N),j,l)) (λ(e,_,_,i)=>U1 (I (q8.mk e.1 e.2.1 e.2.2.1 e.2.2.2 i)) λj=>ite (q (4096 < j)) (U1 (J ((0,lit [],0,0),0,22,O [] N)) λ(l,m,n,o)=>f (q8.mk l.1 l.2.1 l.2.2.1 l.2.2.2 o,m,n)) (U1 (J (e,0,0,i)) λ(p,r,s,t)=>f (q8.mk p.1 p.2.1 p.2.2.1 p.2.2.2 t,r,s))) d)
def q6d:zeK:=qi8 qd3 q14 q11 qc0 q17 qbj qdk qfq qck
theorem qiz:@Eq zeK F50 q6d:=by delta q6d;rw[qm7,q2r,q1i,qkx,q2f,qkc,<-qjp,<-qly,<-qie];kernel_rfl
def q8n:zhd->U3 (Step zhd zke):=λa=>ite (q (a.2.2.1 < a.2.1)) (U1 (za a.1 a.2.2.1) λb=>U1 (ite (q (b.k_=3)) (U1 (zo 64 a.2.2.2.1 [ke b]) λc=>f (a.1,a.2.1,a.2.2.1,c,a.2.2.2.2)) (U1 (ite (q (b.k_=4)) (U1 (zo 64 a.2.2.2.2 [ke b]) λd=>f (a.1,a.2.1,a.2.2.1,a.2.2.2.1,d)) (f a)) λd=>f d)) λ(c,d,e,i,j)=>f (Step.next (c,d,U4 (e+1),(i,j)))) (f (Step.done a.2.2.2))
def qh9(x:q8):U3 zke:=U1 (lpO q8n (x.K_,x.K_.len,0,O [] N,O [] N)) λa=>f a
def qaq:zeO:=qh9
theorem qlz:qaq=P51.F:=jO
def qd9(x:zkb):U3 Z6:=f (q (x.1.N_=x.2),x.2)
def q7v:zkb->U3 Z6:=qd9
theorem qjq:q7v=P52.F:=jO
def qh5(A:zvX):Um×Int×yD->U3 (Step (Um×Int×yD) zaM):=λ(a,b,c,d)=>ite (q (c < b)) (U1 (za a c) λe=>U1 (A (e,d)) λ(i,j)=>ite i (f (Step.done (y (c,j)))) (f (Step.next (a,b,U4 (c+1),j)))) (f (Step.done (M d)))
def qeg(A:zvX)(x:zcQ):U3 yD:=U1 (lpO (qh5 A) (x.1,Sl.len x.1,0,x.2)) λa=>F (λb=>f b) (λb=>f (-1,b)) a
def qcf:zcQ->U3 yD:=qeg q7v
theorem qky:qcf=P53.F:=by delta qcf;rw[qjq];kernel_rfl
def qeh(A:zcQ->U3 yD)(x:zcQ):Uc:=U1 (A x) λ(a,_)=>f a
def q2i:zcQ->Uc:=qeh qcf
theorem qch:q2i=P54.F:=by delta q2i;rw[qky];kernel_rfl
def qhm(x:zj9):U3 Yq:=ite (!x.1) (f (y (x.2.1.a_,x.2.2))) (f (M ()))
def q70:zj9->U3 Yq:=qhm
theorem qi3:q70=P55.F:=jO
def qfv(x:zaP):U3 Z6:=f (q (x.1.T_=x.2),x.2)
def qc1:zaP->U3 Z6:=qfv
theorem qlv:qc1=P56.F:=jO
def qfy(A:zjG):Uh×Int×yD->U3 (Step (Uh×Int×yD) zaM):=λ(a,b,c,d)=>ite (q (c < b)) (U1 (za a c) λe=>U1 (A (ke e,d)) λ(i,j)=>ite i (f (Step.done (y (c,j)))) (f (Step.next (a,b,U4 (c+1),j)))) (f (Step.done (M d)))
def qda(A:zjG)(x:X9):U3 yD:=U1 (lpO (qfy A) (x.1,Sl.len x.1,0,x.2)) λa=>F (λb=>f b) (λb=>f (-1,b)) a
def qb9:X9->U3 yD:=qda qc1
theorem qjr:qb9=P57.F:=by delta qb9;rw[qlv];kernel_rfl
def qbt(A:zvU)(x:X9):U3 Z6:=U1 (A x) λ(a,b)=>f (q (0<=a),b)
def q91:X9->U3 Z6:=qbt qb9
theorem qif:q91=P58.F:=by delta q91;rw[qjr];kernel_rfl
def qha(A:X9->U3 Z6)(x:X9):Uk:=U1 (A x) λ(a,_)=>f a
def qap:X9->Uk:=qha q91
theorem qm0:qap=P59.F:=by delta qap;rw[qif];kernel_rfl
def q8r(x:zaP):U3 Z6:=U1 (ite (q (x.1.T_=x.2)) (f (q (x.1.K_.len=0),x.2)) (f (N,x.2))) λa=>f a
def q5x:zaP->U3 Z6:=q8r
theorem qj0:q5x=P60.F:=jO
def qfb(A:zjG):Uh×Int×yD->U3 (Step (Uh×Int×yD) zaM):=λ(a,b,c,d)=>ite (q (c < b)) (U1 (za a c) λe=>U1 (A (ke e,d)) λ(i,j)=>ite i (f (Step.done (y (c,j)))) (f (Step.next (a,b,U4 (c+1),j)))) (f (Step.done (M d)))
def qcp(A:zjG)(x:X9):U3 yD:=U1 (lpO (qfb A) (x.1,Sl.len x.1,0,x.2)) λa=>F (λb=>f b) (λb=>f (-1,b)) a
def qah:X9->U3 yD:=qcp q5x
theorem qj1:qah=P61.F:=by delta qah;rw[qj0];kernel_rfl
def qdq(A:zvU)(x:zqr):Uc:=U1 (A (x.2.2,x.2.1)) λ(a,_)=>f a
def q3b:zqr->Uc:=qdq qah
theorem qek:q3b=P62.F:=by delta q3b;rw[qj1];kernel_rfl
def q1r:zcT×zr->U3 (Step (zcT×zr) zeW):=λ(a,b,c,d)=>ite (q (d < c)) (U1 (za a d) λe=>ite (q (b=e)) (f (Step.done (y d))) (f (Step.next (a,b,c,U4 (d+1))))) (f (Step.done (M ())))
def q86(x:zj4):Uc:=U1 (lpO q1r (x.1,x.2,Sl.len x.1,0)) λa=>F (λb=>f b) (λb=>f (-1)) a
def q2v:zj4->Uc:=q86
theorem qdd:q2v=P63.F:=jO
def qbm(A:zv5)(B:zeJ)(C:zeE)(D:zcN)(x:zp1):U3 za5:=U1 (A (O [lit [111,119,110],lit [99,101,108,108],lit [99,111,117,110,116,101,100],lit [108,111,99,107],lit [103,117,97,114,100]] g,x.2.1.T_)) λa=>U1 (ite (q (a=2)) (f (x.1,x.2.2.1,x.2.2.2.1,a,q (a=2),(x.2.2.2.2.1.1,a,x.2.2.2.2.1.2.2),x.2.2.2.2.2.1,x.2.2.2.2.2.2,ke x.2.1)) (f (x.1,x.2.2.1,x.2.2.2.1,a,q (a=3),(x.2.2.2.2.1.1,a,x.2.2.2.2.1.2.2),x.2.2.2.2.2.1,x.2.2.2.2.2.2,ke x.2.1))) λ(b,c,d,e,i,j,l,m,n)=>U1 (ite i (U1 (za n.K_ 0) λo=>U1 (B (qa.mk j.1 j.2.1 j.2.2 l m,o.T_,c)) λp=>U1 (C (q (0<=p),ke n,32)) λr=>F (λs=>f (y (s,(j.1,j.2.1,p),l,m))) (λs=>f (M ((j.1,j.2.1,p),l,m))) r) (U1 (ite (q (e=4)) (U1 (za n.K_ 0) λs=>U1 (D (b,s.T_)) λt=>U1 (ite (q (0<=t)) (U1 (za b t) λu=>U1 (C (q (u.S_=3),ke n,31)) λv=>F (λw=>f (y (w,(j.1,j.2.1,t),l,m))) (λw=>f (M (c,d,(j.1,j.2.1,t),l,m,ke n))) v) (U1 (C (N,ke n,31)) λw=>F (λz=>f (y (z,(j.1,j.2.1,t),l,m))) (λz=>f (M (c,d,(j.1,j.2.1,t),l,m,ke n))) w)) λu=>F (λv=>f (y v)) (λ(v,w,z,E,G,H)=>U1 (C (q (U4 (Sl.len v+Sl.len w)=0),ke H,32)) λI=>F (λJ=>f (y (J,z,E,G))) (λJ=>f (M (z,E,G))) I) u) (f (M (j,l,m)))) λs=>F (λt=>f (y t)) (λt=>f (M t)) s)) λo=>F (λp=>f (y p)) (λp=>f (M p)) o
def q4x:zp1->U3 za5:=qbm q2v q3b q70 q2i
theorem qkz:q4x=P64.F:=by delta q4x;rw[qdd,qek,qi3,qch];kernel_rfl
def qew(x:zaJ):U3 (Sl qw):=U1 (ite (q (x.1=lit [60])) (f (y (O [qw.mk x.2.1 x.2.2.1 (U4 (U4 (x.2.2.2.2 - x.2.2.2.1) - 1))] g))) (U1 (ite (q (x.1=lit [60,61])) (f (y (O [qw.mk x.2.1 x.2.2.1 (U4 (x.2.2.2.2 - x.2.2.2.1))] g))) (ite (q (x.1=lit [61,61])) (f (y (O [qw.mk x.2.1 x.2.2.1 (U4 (x.2.2.2.2 - x.2.2.2.1)),qw.mk x.2.2.1 x.2.1 (U4 (x.2.2.2.1 - x.2.2.2.2))] g))) (f (M ())))) λa=>F (λb=>f (y b)) (λb=>f (M ())) a)) λa=>F (λb=>f b) (λb=>f (O [] N)) a
def qar:zaJ->U3 (Sl qw):=qew
theorem qm1:qar=P65.F:=jO
def q9c(A:zeJ)(B:zeE)(C:zvN):Uh×Uh×Int×Int×zr×Sl qt×Sl qw×q8×zH->U3 (Step (Uh×Uh×Int×Int×zr×Sl qt×Sl qw×q8×zH) zzH):=λ(a,b,c,d,e,i,j,l,m,n)=>ite (q (d < c)) (U1 (U1 (za b d) λo=>ite (q (o.T_=lit [])) (f (y (a,b,c,d,e,i,j,ke l,(m,n)))) (U1 (A (qa.mk e.1 e.2.1 e.2.2 i j,o.T_,a)) λp=>U1 (ite (q (0<=p)) (ite (q (e.2.1=2)) (U1 (B (!q (p=e.2.2),ke l,33)) λr=>F (λs=>f (y (s,e,i,j))) (λs=>f (M (a,d,p,b,c,d,e,i,j,ke l,(m,n)))) r) (ite (q (e.2.1=3)) (U1 (B (!q (p=e.2.2),ke l,33)) λs=>F (λt=>f (y (t,e,i,j))) (λt=>f (M (a,d,p,b,c,d,e,i,j,ke l,(m,n)))) s) (U1 (B (!N,ke l,33)) λt=>F (λu=>f (y (u,e,i,j))) (λu=>f (M (a,d,p,b,c,d,e,i,j,ke l,(m,n)))) t))) (U1 (B (N,ke l,33)) λu=>F (λv=>f (y (v,e,i,j))) (λv=>f (M (a,d,p,b,c,d,e,i,j,ke l,(m,n)))) u)) λr=>F (λs=>f (M s)) (λ(s,t,u,v,w,z,D,E,G,H,I,J)=>U1 (bif q (t=1) then f (s,v,w,z,D,E,G,ke H,I,U4 (u+1)) else bif q (t=0) then f (s,v,w,z,D,E,G,ke H,U4 (u+1),J) else Y) λ(K,L,P,Q,R,S,T,U,W,X)=>f (y (K,L,P,Q,R,S,T,ke U,(W,X)))) r)) λo=>F (λ(p,r,s,t,u,v,w,z,D,E)=>f (Step.next (p,r,s,U4 (t+1),u,v,w,ke z,(D,E)))) (λp=>f (Step.done (y p))) o) (f (Step.done (M (e,i,j,ke l,(m,n)))))
def qc2(A:zeJ)(B:zeE)(C:zvN)(x:zp7):U3 za5:=U1 (lpO (q9c A B C) (x.2.1,x.1.K_,x.1.K_.len,0,x.2.2.1,x.2.2.2.1,x.2.2.2.2,ke x.1,0,0)) λa=>F (λb=>f (y b)) (λ(b,c,d,e,i,j)=>U1 (za e.K_ 0) λl=>U1 (za e.K_ 1) λm=>U1 (C (e.T_,i,j,l.n_,m.n_)) λn=>U1 (zo 24 d n.xs) λo=>f (M (b,c,o))) a
def q5o:zp7->U3 za5:=qc2 q3b q70 qar
theorem qld:q5o=P66.F:=by delta q5o;rw[qek,qi3,qm1];kernel_rfl
def q9d(A:zeO)(B:zcN)(C:zeE)(D:zqo)(E:zeJ)(G:tA3)(H:zuJ):Um×Uh×Uh×Int×Int×q8×zr×Uh×zr×Sl qt->U3 (Step (Um×Uh×Uh×Int×Int×q8×zr×Uh×zr×Sl qt) zzM):=λ(a,b,c,d,e,i,j,l,m,n)=>ite (q (e < d)) (U1 (U1 (za c e) λo=>U1 (z7 b 0 e) λp=>U1 (D (p,o.T_)) λr=>U1 (C (!r,ke o,30)) λs=>F (λt=>f (y t)) (λt=>U1 (ite (q (0 < o.K_.len)) (U1 (za o.K_ 0) λu=>U1 (E (qa.mk m.1 m.2.1 m.2.2 n (O [] N),u.T_,b)) λv=>U1 (U1 (za i.K_ 0) λw=>ite (q (w.T_=lit [111,119,110])) (U1 (C (q (0<=v),ke o,32)) λz=>F (λI=>f (y I)) (λI=>f (M (a,b,v,c,d,e,ke i,j,l,m,ke o,n))) z) (U1 (C (N,ke o,32)) λI=>F (λJ=>f (y J)) (λJ=>f (M (a,b,v,c,d,e,ke i,j,l,m,ke o,n))) I)) λw=>F (λz=>f (y z)) (λ(z,I,J,K,L,P,Q,R,S,T,U,W)=>f (M (z,I,J,K,L,P,ke Q,R,S,T,ke U,W))) w) (f (M (a,b, -1,c,d,e,ke i,j,l,m,ke o,n)))) λu=>F (λv=>f (y v)) (λ(v,w,z,I,J,K,L,P,Q,R,S,T)=>U1 (zo 24 T [qt.mk S.T_ z]) λU=>f (M (v,w,I,J,K,ke L,P,Q,R,U))) u) s) λo=>F (λp=>f (Step.done (y p))) (λ(p,r,s,t,u,v,w,z,I,J)=>f (Step.next (p,r,s,t,U4 (u+1),ke v,(w,z,I,J)))) o) (f (Step.done (M (a,b,ke i,(j,l,m,n)))))
def q9e(A:zeO)(B:zcN)(C:zeE)(D:zqo)(E:zeJ)(G:tA3)(H:zuJ):Uh×Uh×Int×Int×zr×zr×Sl qt×Sl qw->U3 (Step (Uh×Uh×Int×Int×zr×zr×Sl qt×Sl qw) zvz):=λ(a,b,c,d,e,i,j,l)=>ite (q (d < c)) (U1 (za b d) λm=>U1 (H (ke m,a,(i,j,l))) λn=>F (λ(o,_,_,_)=>f (Step.done (y o))) (λo=>f (Step.next (a,b,c,U4 (d+1),e,o))) n) (f (Step.done (M (e,i,j,l))))
def qc3(A:zeO)(B:zcN)(C:zeE)(D:zqo)(E:zeJ)(G:tA3)(H:zuJ)(x:Um×q8):U3 zha:=U1 (A (ke x.2)) λ(a,b)=>U1 (B (x.1,x.2.T_)) λc=>U1 (C (q (c < 0),ke x.2,30)) λd=>F (λe=>f (y e)) (λe=>U1 (C (q (Sl.len a<=8),ke x.2,22)) λi=>F (λj=>f (y j)) (λj=>U1 (lpO (q9d A B C D E G H) (x.1,a,a,Sl.len a,0,ke x.2,(lit [],0,0),b,(x.2.T_,0,0),O [] N)) λl=>F (λm=>f (y m)) (λ(m,n,o,p,r,s,t)=>U1 (za o.K_ 0) λu=>U1 (G (m,ke u,n,r,s,t,O [] N)) λv=>F (λ(w,_,_,_)=>f (y w)) (λw=>U1 (lpO (q9e A B C D E G H) (n,r,Sl.len r,0,p,w)) λz=>F (λI=>f (y I)) (λ(_,I,J,K)=>f (M (I,J,K))) z) v) l) i) d
def q6o:Um×q8->U3 zha:=qc3 qaq q2i q70 qap q3b q4x q5o
theorem qle:q6o=P67.F:=by delta q6o;rw[qlz,qch,qi3,qm0,qek,qkz,qld];kernel_rfl
def qdr(x:zjU):U3 xu:=f (x.1.1,x.1.2,x.2.2.2)
def q8h:zjU->U3 xu:=qdr
theorem qkd:@Eq ((zjU)->U3 xu) F68 q8h:=jO
def qcq(x:xu):U3 xu:=f x
def q7e:xu->U3 xu:=qcq
theorem qj2:@Eq ((xu)->U3 xu) F69 q7e:=jO
def qd7(A:zvB)(B:zvJ)(C:zvT):Uh×Int×Int×q8×xu->U3 (Step (Uh×Int×Int×q8×xu) zvI):=λ(a,b,c,d,e,i,j)=>ite (q (c < b)) (U1 (za a c) λl=>U1 (ite (q (l.k_=1)) (U1 (yh (U1 (A (j,ke l)) λm=>F (λn=>f (y (n,ke d,(e,i,j)))) (λ(n,o,p)=>U1 (zo 80 j [qa.mk n.1 n.2.1 n.2.2 o p]) λr=>f (M (a,b,c,ke d,e,i,r))) m) (U1 (A (j,ke l)) λm=>F (λn=>f (y (n,ke d,(e,i,j)))) (λ(n,o,p)=>yh (U1 (zo 80 j [qa.mk n.1 n.2.1 n.2.2 o p]) λr=>f (M (a,b,c,ke d,e,i,r))) (U1 (zo 80 j [qa.mk n.1 n.2.1 n.2.2 o p]) λr=>f (M (a,b,c,ke d,e,i,r)))) m)) λm=>F (λ(n,o,p,r,s)=>f (y (n,ke o,(p,r,s)))) (λ(n,o,p,r,s,t,u)=>f (M (n,o,p,ke r,(s,t,u)))) m) (f (M (a,b,c,ke d,(e,i,j))))) λm=>F (λ(n,o,p,r,s)=>f (Step.done (y (n,ke o,(p,r,s))))) (λ(n,o,p,r,s,t,u)=>f (Step.next (n,o,U4 (p+1),ke r,(s,t,u)))) m) (f (Step.done (M (ke d,(e,i,j)))))
def qex(A:zvB)(B:zvJ)(C:zvT)(x:q8):U3 xu:=U1 (lpO (qd7 A B C) (x.K_,x.K_.len,0,ke x,0,0,O [] N)) λa=>F (λ(b,_,c,d,e)=>U1 (B (b,(c,d,e))) λ(i,j,_)=>f (i,j,O [] N)) (λ(_,_,_,b)=>U1 (C (0,0,b)) λc=>f c) a
def q75:zjW:=qex q6o q8h q7e
theorem qm2:@Eq zjW F70 q75:=by delta q75;rw[qle,<-qkd,<-qj2];kernel_rfl
def qgm(A:zv5)(B:zcN)(x:Vl):U3 (qh×Int):=U1 (A (O [lit [],lit [105,110,116],lit [111,119,110],lit [38],lit [38,109,117,116]] g,x.1.T_)) λa=>U1 (ite (q (0 < x.1.K_.len)) (U1 (za x.1.K_ 0) λb=>U1 (B (x.2,b.T_)) λc=>ite (q (c < 0)) (f (y (31,qh.mk (lit []) 0 0))) (f (M (qh.mk (lit []) 0 0,qh.mk (lit []) a c)))) (f (M (qh.mk (lit []) 0 0,qh.mk (lit []) a 0)))) λb=>F (λ(c,d)=>f (d,c)) (λ(_,c)=>f (c,0)) b
def qbc:Vl->U3 (qh×Int):=qgm q2v q2i
theorem qme:qbc=P71.F:=by delta qbc;rw[qdd,qch];kernel_rfl
def qhn(x:qh×qh):U3 WJ:=f (q (x.1.N_=x.2.N_),x.2)
def qbe:qh×qh->U3 WJ:=qhn
theorem qm8:qbe=P72.F:=jO
def qc4(A:zj2):Int×vy->U3 (Step (Int×vy) zj0):=λ(a,b,c,d)=>ite (q (b < a)) (U1 (za c b) λe=>U1 (za c b) λi=>U1 (A (i,d)) λ(j,l)=>ite j (f (Step.done (y (b,c,l)))) (f (Step.next (a,U4 (b+1),c,l)))) (f (Step.done (M (c,d))))
def qes(A:zj2)(x:Xv):U3 vy:=U1 (lpO (qc4 A) (Sl.len x.1,0,x)) λa=>F (λb=>f b) (λb=>f (-1,b)) a
def qd0:Xv->U3 vy:=qes qbe
theorem qlf:qd0=P73.F:=by delta qd0;rw[qm8];kernel_rfl
def qds(A:zv3)(x:Xv):U3 zaN:=U1 (A x) λ(a,b,c)=>f (q (0<=a),(b,c))
def q5p:Xv->U3 zaN:=qds qd0
theorem qke:q5p=P74.F:=by delta q5p;rw[qlf];kernel_rfl
def qey(x:zeX):Uk:=U1 (ite (q (1 < x.1.M_)) (U1 (za x.2 x.1.t_) λa=>f (q (a.S_≠0))) (f N)) λa=>f a
def q84:zeX->Uk:=qey
theorem qm3:q84=P75.F:=jO
def qfr(x:qh×qh):U3 WJ:=U1 (ite (q (1 < x.1.M_)) (f (q (x.1.t_=x.2.t_),x.2)) (f (N,x.2))) λa=>f a
def q9f:qh×qh->U3 WJ:=qfr
theorem qm9:q9f=P76.F:=jO
def qc5(A:zj2):Int×vy->U3 (Step (Int×vy) zj0):=λ(a,b,c,d)=>ite (q (b < a)) (U1 (za c b) λe=>U1 (za c b) λi=>U1 (A (i,d)) λ(j,l)=>ite j (f (Step.done (y (b,c,l)))) (f (Step.next (a,U4 (b+1),c,l)))) (f (Step.done (M (c,d))))
def qet(A:zj2)(x:Xv):U3 vy:=U1 (lpO (qc5 A) (Sl.len x.1,0,x)) λa=>F (λb=>f b) (λb=>f (-1,b)) a
def qd1:Xv->U3 vy:=qet q9f
theorem qlg:qd1=P77.F:=by delta qd1;rw[qm9];kernel_rfl
def qdt(A:zv3)(x:Xv):U3 zaN:=U1 (A x) λ(a,b,c)=>f (q (0<=a),(b,c))
def q5q:Xv->U3 zaN:=qdt qd1
theorem qkf:q5q=P78.F:=by delta q5q;rw[qlg];kernel_rfl
def qe6(A:zv9)(B:zjL)(C:zeX->Uk)(D:zjL):zuT->U3 (Step zuT zzx):=λa=>ite (q (a.2.2.2.2.1 < a.2.2.2.1)) (U1 (za a.2.2.1 a.2.2.2.2.1) λb=>U1 (za b.K_ 0) λc=>U1 (A (ke c,a.1)) λd=>U1 (B (a.2.2.2.2.2.2.2.2,qh.mk b.T_ d.1.M_ d.1.t_)) λe=>U1 (ite e.1 (f (y (b.a_,30,lit [],lit [],0,0))) (U1 (ite (q (d.2≠0)) (U1 (za b.K_ 0) λi=>f (y (i.a_,d.2,lit [],lit [],0,0))) (U1 (U1 (C (e.2.2,a.1)) λj=>ite j (U1 (D e.2) λl=>f (a.1,a.2.1,a.2.2.1,a.2.2.2.1,a.2.2.2.2.1,l.1,ke a.2.2.2.2.2.1,a.2.2.2.2.2.2.1,a.2.2.2.2.2.2.2.1,ke b,l.2.2,l.2.1)) (f (a.1,a.2.1,a.2.2.1,a.2.2.2.1,a.2.2.2.2.1,N,ke a.2.2.2.2.2.1,a.2.2.2.2.2.2.1,a.2.2.2.2.2.2.2.1,ke b,e.2.2,e.2.1))) λj=>ite j.2.2.2.2.2.1 (U1 (za j.2.2.2.2.2.2.2.2.2.1.K_ 0) λl=>f (y (l.a_,34,lit [],lit [],0,0))) (f (M (j.1,j.2.1,j.2.2.1,j.2.2.2.1,j.2.2.2.2.1,ke j.2.2.2.2.2.2.1,j.2.2.2.2.2.2.2.1,j.2.2.2.2.2.2.2.2.1,j.2.2.2.2.2.2.2.2.2.2))))) λi=>F (λj=>f (y j)) (λj=>f (M (j.1,j.2.1,j.2.2.1,j.2.2.2.1,j.2.2.2.2.1,ke j.2.2.2.2.2.1,j.2.2.2.2.2.2))) i)) λi=>F (λj=>f (Step.done (y j))) (λj=>U1 (zo 32 j.2.2.2.2.2.2.2.2.2 [j.2.2.2.2.2.2.2.2.1]) λl=>f (Step.next (j.1,j.2.1,j.2.2.1,j.2.2.2.1,U4 (j.2.2.2.2.1+1),ke j.2.2.2.2.2.1,j.2.2.2.2.2.2.1,j.2.2.2.2.2.2.2.1,l))) i) (f (Step.done (M (a.1,a.2.1,ke a.2.2.2.2.2.1,a.2.2.2.2.2.2))))
def qhb(A:zv9)(B:zjL)(C:zeX->Uk)(D:zjL)(x:Vl):U3 (qf×zH):=ite (q (8 < U4 (x.1.K_.len - 2))) (f (qf.mk (lit []) (O [] N) (qh.mk (lit []) 0 0),x.1.a_,22)) (U1 (z7 x.1.K_ 0 (U4 (x.1.K_.len - 2))) λa=>U1 (lpO (qe6 A B C D) (x.2,U4 (x.1.K_.len - 2),a,a.len,0,ke x.1,(lit [],lit [],0,0),(x.1.T_,lit [],0,0),O [] N)) λb=>F (λ(c,d,e,i,j,l)=>f (qf.mk e (O [] N) (qh.mk i j l),c,d)) (λ(c,d,e,_,i,j)=>U1 (za e.K_ d) λl=>U1 (A (ke l,c)) λ(m,n)=>ite (q (n≠0)) (U1 (za e.K_ d) λo=>f (qf.mk (lit []) (O [] N) (qh.mk (lit []) 0 0),o.a_,n)) (f (qf.mk i.1 j m,0,0))) b)
def qc6:Vl->U3 (qf×zH):=qhb qbc q5p q84 q5q
theorem qmk:qc6=P79.F:=by delta qc6;rw[qme,qke,qm3,qkf];kernel_rfl
def qd8(A:zv6):zjS->U3 (Step zjS (zH⊕Sl qf)):=λa=>ite (q (a.2.2.2.1 < a.2.2.1)) (U1 (U1 (za a.2.1 a.2.2.2.1) λb=>ite (q (b.k_≠6)) (f (y a)) (U1 (A (ke b,a.1)) λ(c,d,e)=>ite (q (e≠0)) (f (M (d,e))) (U1 (zo 72 a.2.2.2.2 [c]) λi=>f (y (a.1,a.2.1,a.2.2.1,a.2.2.2.1,i))))) λb=>F (λ(c,d,e,i,j)=>f (Step.next (c,d,e,U4 (i+1),j))) (λc=>f (Step.done (y c))) b) (f (Step.done (M a.2.2.2.2)))
def qgn(A:zv6)(x:Vl):U3 (Int×Int×Sl qf):=U1 (lpO (qd8 A) (x.2,x.1.K_,x.1.K_.len,0,O [] N)) λa=>F (λ(b,c)=>f (b,c,O [] N)) (λb=>f (0,0,b)) a
def q7p:Vl->U3 (Int×Int×Sl qf):=qgn qc6
theorem qmf:q7p=P80.F:=by delta q7p;rw[qmk];kernel_rfl
def qf6(x:Int):Uk:=U1 (ite (q (97<=x)) (ite (q (x<=122)) (f g) (f (q (x=95)))) (f (q (x=95)))) λa=>f a
def q2x:Zk:=qf6
theorem qig:q2x=P81.F:=jO
def qfg(x:Int):Uk:=U1 (ite (q (48<=x)) (f (q (x<=57))) (f N)) λa=>f a
def q4o:Zk:=qfg
theorem qj3:q4o=P82.F:=jO
def qfh(x:Zr):Uk:=U1 (ite (q (x=lit [116,121,112,101])) (f (q (x=lit [116,121,112,101]))) (U1 (ite (q (x=lit [102,110])) (f (q (x=lit [102,110]))) (U1 (ite (q (x=lit [111,119,110])) (f (q (x=lit [111,119,110]))) (U1 (ite (q (x=lit [99,101,108,108])) (f (q (x=lit [99,101,108,108]))) (U1 (ite (q (x=lit [99,111,117,110,116,101,100])) (f (q (x=lit [99,111,117,110,116,101,100]))) (U1 (ite (q (x=lit [108,111,99,107])) (f (q (x=lit [108,111,99,107]))) (U1 (ite (q (x=lit [103,117,97,114,100])) (f (q (x=lit [103,117,97,114,100]))) (U1 (ite (q (x=lit [119,104,101,114,101])) (f (q (x=lit [119,104,101,114,101]))) (U1 (ite (q (x=lit [105,110,116])) (f (q (x=lit [105,110,116]))) (U1 (ite (q (x=lit [109,117,116])) (f (q (x=lit [109,117,116]))) (U1 (ite (q (x=lit [102,114,101,101])) (f (q (x=lit [102,114,101,101]))) (U1 (ite (q (x=lit [117,110,108,111,99,107])) (f (q (x=lit [117,110,108,111,99,107]))) (U1 (ite (q (x=lit [105,102])) (f (q (x=lit [105,102]))) (U1 (ite (q (x=lit [101,108,115,101])) (f (q (x=lit [101,108,115,101]))) (U1 (ite (q (x=lit [119,104,105,108,101])) (f (q (x=lit [119,104,105,108,101]))) (U1 (ite (q (x=lit [114,101,116,117,114,110])) (f (q (x=lit [114,101,116,117,114,110]))) (U1 (ite (q (x=lit [97,98,111,114,116])) (f (q (x=lit [97,98,111,114,116]))) (U1 (ite (q (x=lit [102,111,114,107])) (f (q (x=lit [102,111,114,107]))) (U1 (ite (q (x=lit [110,101,119])) (f (q (x=lit [110,101,119]))) (f (q (x=lit [97,114,114,97,121])))) λa=>f a)) λa=>f a)) λa=>f a)) λa=>f a)) λa=>f a)) λa=>f a)) λa=>f a)) λa=>f a)) λa=>f a)) λa=>f a)) λa=>f a)) λa=>f a)) λa=>f a)) λa=>f a)) λa=>f a)) λa=>f a)) λa=>f a)) λa=>f a)) λa=>ite a (f g) (f N)
def q40:vx:=qfh
theorem qj4:q40=P83.F:=jO
def qd4(x:zz):Uc:=U1 (ite (q (U4 (x.2+1) < (↑(V x.1):Int))) (U1 (ZI x.1 x.2 (U4 (x.2+2))) λa=>f (x.1,x.2,a)) (f (x.1,x.2,lit []))) λ(a,b,c)=>U1 (ite (q (c=lit [45,62])) (f (a,b,g)) (ite (q (c=lit [60,61])) (f (a,b,g)) (f (a,b,q (c=lit [61,61]))))) λ(d,e,i)=>ite i (f 2) (U1 (Zg d e) λj=>U1 (ite (q (j=123)) (f (q (j=123))) (U1 (ite (q (j=125)) (f (q (j=125))) (U1 (ite (q (j=40)) (f (q (j=40))) (U1 (ite (q (j=41)) (f (q (j=41))) (U1 (ite (q (j=91)) (f (q (j=91))) (U1 (ite (q (j=93)) (f (q (j=93))) (U1 (ite (q (j=44)) (f (q (j=44))) (U1 (ite (q (j=58)) (f (q (j=58))) (U1 (ite (q (j=59)) (f (q (j=59))) (U1 (ite (q (j=61)) (f (q (j=61))) (U1 (ite (q (j=43)) (f (q (j=43))) (U1 (ite (q (j=45)) (f (q (j=45))) (U1 (ite (q (j=38)) (f (q (j=38))) (f (q (j=60)))) λl=>f l)) λl=>f l)) λl=>f l)) λl=>f l)) λl=>f l)) λl=>f l)) λl=>f l)) λl=>f l)) λl=>f l)) λl=>f l)) λl=>f l)) λl=>f l)) λl=>ite l (f 1) (f 0))
def q4b:zz->Uc:=qd4
theorem qjs:q4b=P84.F:=jO
def q7r(A:Zk)(B:Zk)(C:vx)(D:WG):zhf->U3 (Step zhf zhf):=λa=>ite (q (a.2.2.1 < (↑(V a.1):Int))) (U1 (Zg a.1 a.2.2.1) λb=>U1 (A b) λc=>U1 (Zg a.1 a.2.2.1) λd=>U1 (B d) λe=>U1 (ite (!c) (f (a.1,a.2.1,a.2.2.1, !e,a.2.2.2)) (f (a.1,a.2.1,a.2.2.1,N,a.2.2.2))) λ(i,j,l,m,n,o)=>ite m (f (Step.done (i,j,l,(n,o)))) (f (Step.next (i,j,U4 (l+1),(n,o))))) (f (Step.done a))
def q7s(A:Zk)(B:Zk)(C:vx)(D:WG):zaE->U3 (Step zaE zaE):=λa=>ite (q (a.2.2.1 < (↑(V a.1):Int))) (U1 (Zg a.1 a.2.2.1) λb=>U1 (B b) λc=>ite (!c) (f (Step.done a)) (U1 (ite (q (a.2.2.2.1<=1099511627776)) (U1 (Zg a.1 a.2.2.1) λd=>f (a.1,a.2.1,a.2.2.1,U4 (U4 (a.2.2.2.1 * 10)+U4 (IntKind.u8.wrap (d - 48))),a.2.2.2.2)) (f a)) λd=>U1 (ite (q (1099511627776 < d.2.2.2.1)) (f (d.1,d.2.1,d.2.2.1,d.2.2.2.1,g,d.2.2.2.2.2)) (f d)) λ(e,i,j,l,m,n,o)=>f (Step.next (e,i,U4 (j+1),(l,m,n,o))))) (f (Step.done a))
def qdh(A:Zk)(B:Zk)(C:vx)(D:WG)(x:zz):U3 (q9×Int):=U1 (Zg x.1 x.2) λa=>U1 (A a) λb=>U1 (Zg x.1 x.2) λc=>U1 (B c) λd=>U1 (ite b (U1 (lpO (q7r A B C D) (x.1,x.2,x.2,q9.mk 0 (lit []) 0 0,q9.mk 0 (lit []) 0 x.2)) λe=>U1 (ZI e.1 e.2.1 e.2.2.1) λi=>ite (q (16 < (↑i.size:Int))) (f (y (13,q9.mk 0 (lit []) 0 0))) (U1 (C i) λj=>U1 (ite j (f (e.2.2.2.1,q9.mk 2 i e.2.2.2.2.n_ e.2.2.2.2.a_)) (f (e.2.2.2.1,q9.mk 1 i e.2.2.2.2.n_ e.2.2.2.2.a_))) λl=>f (y (0,l.2)))) (f (M (x.1,x.2,x.2,d,q9.mk 0 (lit []) 0 0,q9.mk 0 (lit []) 0 x.2)))) λe=>F (λi=>f (i.2,i.1)) (λi=>U1 (ite i.2.2.2.1 (U1 (lpO (q7s A B C D) (i.1,i.2.1,i.2.2.1,0,N,i.2.2.2.2)) λj=>U1 (ite (q (j.2.2.1 < (↑(V j.1):Int))) (U1 (Zg j.1 j.2.2.1) λl=>U1 (A l) λm=>f (j.1,j.2.1,j.2.2.1,j.2.2.2.1,j.2.2.2.2.1,m,j.2.2.2.2.2)) (f (j.1,j.2.1,j.2.2.1,j.2.2.2.1,j.2.2.2.2.1,N,j.2.2.2.2.2))) λl=>U1 (ite l.2.2.2.2.1 (f (l.1,l.2.1,l.2.2.1,l.2.2.2.1,g,l.2.2.2.2.2.2)) (ite l.2.2.2.2.2.1 (f (l.1,l.2.1,l.2.2.1,l.2.2.2.1,g,l.2.2.2.2.2.2)) (U1 (Zg l.1 l.2.1) λm=>ite (q (m=48)) (f (l.1,l.2.1,l.2.2.1,l.2.2.2.1,q (U4 (l.2.1+1) < l.2.2.1),l.2.2.2.2.2.2)) (f (l.1,l.2.1,l.2.2.1,l.2.2.2.1,N,l.2.2.2.2.2.2))))) λm=>ite m.2.2.2.2.1 (f (y (12,q9.mk 0 (lit []) 0 0))) (U1 (ZI m.1 m.2.1 m.2.2.1) λn=>f (y (0,q9.mk 3 n m.2.2.2.1 m.2.2.2.2.2.2.a_)))) (f (M (i.1,i.2.1,i.2.2.2.2)))) λj=>F (λl=>f (l.2,l.1)) (λl=>U1 (D (l.1,l.2.1)) λm=>ite (q (m=0)) (f (q9.mk 0 (lit []) 0 0,11)) (U1 (ZI l.1 l.2.1 (U4 (l.2.1+m))) λn=>f (q9.mk 4 n l.2.2.2.n_ l.2.2.2.a_,0))) j) e
def q6q:zz->U3 (q9×Int):=qdh q2x q4o q40 q4b
theorem qkg:q6q=P85.F:=by delta q6q;rw[qig,qj3,qj4,qjs];kernel_rfl
def q87(A:zql):Vj->U3 (Step Vj Vj):=λ(a,b,c)=>U1 (ite (q (b < (↑(V a):Int))) (U1 (Zg a b) λd=>f (a,b,q (d≠10),c)) (f (a,b,N,c))) λ(d,e,i,j)=>ite i (f (Step.next (d,U4 (e+1),j))) (f (Step.done (d,e,j)))
def q88(A:zql):Vj->U3 (Step Vj zwb):=λ(a,b,c)=>ite (q (b < (↑(V a):Int))) (U1 (U1 (U1 (Zg a b) λd=>ite (q (d=32)) (f (a,b,g,c)) (U1 (Zg a b) λe=>f (a,b,q (e=10),c))) λ(d,e,i,j)=>ite i (f (y (d,U4 (e+1),j))) (U1 (Zg d e) λl=>ite (q (l=35)) (U1 (lpO (q87 A) (d,e,j)) λm=>f (y m)) (U1 (A (d,e)) λ(n,o)=>ite (q (o≠0)) (f (M (e,o))) (U1 (zo 40 j [n]) λp=>f (y (d,U4 (e+(↑n.T_.size:Int)),p)))))) λd=>F (λe=>f (Step.next e)) (λe=>f (Step.done (y e))) d) (f (Step.done (M (a,c))))
def qbs(A:zql)(x:Zr):U3 (Int×Int×Sl q9):=ite (q (16384 < (↑x.size:Int))) (f (0,10,O [] N)) (U1 (lpO (q88 A) (x,0,O [] N)) λa=>F (λ(b,c)=>f (b,c,O [] N)) (λ(b,c)=>U1 (zo 40 c [q9.mk 0 (lit []) 0 (↑(V b):Int)]) λd=>f (0,0,d)) a)
def q6z:zjN:=qbs q6q
theorem qih:q6z=P86.F:=by delta q6z;rw[qkg];kernel_rfl
def qbk(x:xn):U3 zV:=U1 (za x.2.2 x.2.1.1) λa=>U1 (za x.2.2 x.2.1.1) λb=>U1 (ite (q (x.2.1.2.2.1=0)) (ite (q (b.k_=2)) (U1 (za x.2.2 x.2.1.1) λc=>U1 (za x.2.2 x.2.1.1) λd=>f (q (d.T_=x.1),x.2)) (ite (q (b.k_=4)) (U1 (za x.2.2 x.2.1.1) λe=>U1 (za x.2.2 x.2.1.1) λi=>f (q (i.T_=x.1),x.2)) (f (N,x.2)))) (f (N,x.2))) λc=>f c
def q1t:xn->U3 zV:=qbk
theorem q7o:q1t=P87.F:=jO
def qax(A:yg)(x:xn):U3 zV:=U1 (A x) λa=>U1 (ite a.1 (f (a.1,(U4 (a.2.1.1+1),a.2.1.2),a.2.2)) (f a)) λb=>f b
def q10:xn->U3 zV:=qax q1t
theorem q1x:q10=P88.F:=by delta q10;rw[q7o];kernel_rfl
def q9q(x:Yo):U3 zG:=U1 (ite (q (x.2.1.2.2.1=0)) (U1 (za x.2.2 x.2.1.1) λa=>U1 (za x.2.2 x.2.1.1) λb=>f ((x.2.1.1,x.2.1.2.1,x.1,b.a_),x.2.2)) (f x.2)) λa=>f a
def q19:Yo->U3 zG:=q9q
theorem q5a:q19=P89.F:=jO
def q9s(A:WD)(x:zG):U3 Yn:=U1 (za x.2 x.1.1) λa=>U1 (za x.2 x.1.1) λb=>U1 (ite (q (x.1.2.2.1≠0)) (f (g,x.1,x.2,(0,lit [],0,0),b)) (f (q (b.k_≠1),x.1,x.2,(0,lit [],0,0),b))) λ((c,d,e,_,i):Bool×(Int×Int×Int×Int)×Sl q9×(Int×U0×Int×Int)×q9)=>ite c (U1 (A (20,d,e)) λj=>f ((0,lit [],0,0),j)) (f ((5,i.T_,0,i.a_),(U4 (d.1+1),d.2),e))
def q15:zG->U3 Yn:=q9s q19
theorem q3o:q15=P90.F:=by delta q15;rw[q5a];kernel_rfl
def q9r(A:yg)(B:WD)(x:xn):U3 zG:=U1 (A x) λ(a,b,c)=>U1 (ite (!a) (U1 (B (20,(b,c))) λd=>f d) (f (b,c))) λd=>f d
def q12:xn->U3 zG:=q9r q10 q19
theorem q34:q12=P91.F:=by delta q12;rw[q1x,q5a];kernel_rfl
def q9w(A:yg)(B:wn)(C:vh)(x:zG):U3 Zx:=U1 (za x.2 x.1.1) λa=>U1 (za x.2 x.1.1) λb=>U1 (za x.2 x.1.1) λc=>U1 (za x.2 x.1.1) λd=>U1 (A (lit [105,110,116],x)) λ(e,i,j)=>ite e (f (q6.mk 8 b.T_ 0 d.a_ (O [] N),(i,j))) (U1 (A (lit [111,119,110],(i,j))) λ(l,m,n)=>U1 (ite (!l) (U1 (B (lit [38],(m,n))) λo=>U1 (A (lit [109,117,116],o)) λ(p,r,s)=>U1 (ite p (f (r,s,(0,lit [],0,0),8,lit [38,109,117,116],0,d.a_)) (f (r,s,(0,lit [],0,0),8,b.T_,0,d.a_))) λ(t:zmw)=>f t) (f (m,n,(0,lit [],0,0),8,b.T_,0,d.a_))) λ((o,p,_,r,s,t,u):zmw)=>U1 (C (o,p)) λ(v,w,z)=>f (q6.mk r s t u (O [q6.mk v.1 v.2.1 v.2.2.1 v.2.2.2 (O [] N)] g),(w,z)))
def q3j:zG->U3 Zx:=q9w q10 q12 q15
theorem qjt:q3j=P92.F:=by delta q3j;rw[q1x,q34,q3o];kernel_rfl
def q89(A:WD)(x:zG):U3 Yo:=U1 (za x.2 x.1.1) λa=>U1 (za x.2 x.1.1) λb=>U1 (ite (q (x.1.2.2.1≠0)) (f (g,x.1,x.2,b)) (f (q (b.k_≠3),x.1,x.2,b))) λ(c,d,e,i)=>ite c (U1 (A (20,d,e)) λj=>f (0,j)) (f (i.n_,(U4 (d.1+1),d.2),e))
def q2k:zG->U3 Yo:=q89 q19
theorem q96:q2k=P93.F:=by delta q2k;rw[q5a];kernel_rfl
def q9t(A:yg)(B:zju)(x:Zx):U3 Zx:=U1 (A (lit [43],x.2)) λa=>ite a.1 (U1 (B a.2) λb=>f (q6.mk x.1.k_ x.1.T_ b.1 x.1.a_ x.1.K_,b.2)) (U1 (A (lit [45],a.2)) λc=>U1 (ite c.1 (U1 (B c.2) λd=>f (d.2.1,d.2.2,q6.mk x.1.k_ x.1.T_ (U4 (0 - d.1)) x.1.a_ x.1.K_,0,lit [],0,0)) (f (c.2.1,c.2.2,kr x.1,0,lit [],0,0))) λ(d:(Int×Int×Int×Int)×Sl q9×q6×Int×U0×Int×Int)=>f (kr d.2.2.1,d.1,d.2.1))
def q2c:Zx->U3 Zx:=q9t q10 q2k
theorem qgx:q2c=P94.F:=by delta q2c;rw[q1x,q96];kernel_rfl
def q9u(A:zju)(B:yg)(C:vh)(D:zzR)(x:zG):U3 Zx:=U1 (za x.2 x.1.1) λa=>U1 (za x.2 x.1.1) λb=>U1 (za x.2 x.1.1) λc=>U1 (za x.2 x.1.1) λd=>ite (q (d.k_=3)) (U1 (A x) λ(e,i,j)=>f (q6.mk 5 (lit []) e b.a_ (O [] N),(i,j))) (U1 (B (lit [45],x)) λ(l,m,n)=>ite l (U1 (A (m,n)) λ(o,p,r)=>f (q6.mk 5 (lit []) (U4 (0 - o)) b.a_ (O [] N),(p,r))) (U1 (C (m,n)) λ(s,t,u)=>U1 (D (q6.mk s.1 s.2.1 s.2.2.1 s.2.2.2 (O [] N),(t,u))) λ(v,w,z)=>f (kr v,(w,z))))
def q1z:zG->U3 Zx:=q9u q2k q10 q15 q2c
theorem q80:q1z=P95.F:=by delta q1z;rw[q96,q1x,q3o,qgx];kernel_rfl
def q7u(A:yg)(B:WD):Int×Ue×Sl q9×zcT->U3 (Step (Int×Ue×Sl q9×zcT) zvA):=λ(a,b,c,d)=>ite (q (a < Sl.len d)) (U1 (za d a) λe=>U1 (za d a) λi=>U1 (A (i,b,c)) λ(j,l,m)=>ite j (U1 (za d a) λn=>U1 (za d a) λo=>f (Step.done (y (o,(l,m))))) (f (Step.next (U4 (a+1),l,m,d)))) (f (Step.done (M (b,c))))
def qay(A:yg)(B:WD)(x:zG):U3 xn:=U1 (lpO (q7u A B) (0,x.1,x.2,O [lit [60],lit [60,61],lit [61,61]] g)) λa=>F (λb=>f b) (λb=>U1 (B (20,b)) λc=>f (lit [],c)) a
def q6r:zG->U3 xn:=qay q10 q19
theorem qkh:q6r=P96.F:=by delta q6r;rw[q1x,q5a];kernel_rfl
def q79(A:wF)(B:zG->U3 xn)(x:zG):U3 ZH:=U1 (A x) λ(a,b,c)=>U1 (B (b,c)) λ(d,e,i)=>U1 (A (e,i)) λ(j,l,m)=>f ((4,d,0,a.a_),l,m,O [kr a,kr j] g)
def q20:YF:=q79 q1z q6r
theorem qgy:q20=P97.F:=by delta q20;rw[q80,qkh];kernel_rfl
def q5v(A:wn)(B:yg)(C:wF):Ue×Sl q9×q6×Uj->U3 (Step (Ue×Sl q9×q6×Uj) zaH):=λ(a,b,_,c)=>U1 (B (lit [44],a,b)) λ(d,e,i)=>ite (!d) (f (Step.done (e,i,c))) (U1 (C (e,i)) λ(j,l,m)=>U1 (zo 64 c [kr j]) λn=>f (Step.next (l,m,kr j,n)))
def q9v(A:wn)(B:yg)(C:wF)(x:zG):U3 zaH:=U1 (A (lit [40],x)) λa=>U1 (B (lit [41],a)) λ(b,c,d)=>U1 (ite b (f (g,(c,d))) (f (q (c.2.2.1≠0),(c,d)))) λ(e,i,j)=>ite e (f (i,j,O [] N)) (U1 (C (i,j)) λ(l,m,n)=>U1 (lpO (q5v A B C) (m,n,kr l,O [kr l] g)) λ(o,p,r)=>U1 (A (lit [41],o,p)) λ(s,t)=>f (s,t,r))
def q3i:zG->U3 zaH:=q9v q12 q10 q1z
theorem qdw:q3i=P98.F:=by delta q3i;rw[q34,q1x,q80];kernel_rfl
def q9x(A:yg)(B:zju)(C:vh)(D:wF)(E:yg)(G:zu3)(H:wn)(I:zzR)(x:zG):U3 Zx:=U1 (za x.2 x.1.1) λa=>U1 (za x.2 x.1.1) λb=>U1 (A (lit [110,101,119],x)) λ(c,d,e)=>ite c (U1 (B (d,e)) λ(i,j,l)=>f (q6.mk 23 (lit []) i b.a_ (O [] N),(j,l))) (U1 (A (lit [97,114,114,97,121],(d,e))) λ(m,n,o)=>ite m (U1 (C (n,o)) λ(p,r,s)=>f (q6.mk 24 p.2.1 0 b.a_ (O [] N),(r,s))) (U1 (A (lit [38],(n,o))) λ(t,u,v)=>ite t (U1 (A (lit [109,117,116],(u,v))) λ(w,z,J)=>U1 (ite w (f (z,J,(0,lit [],0,0),27,lit [],0,b.a_)) (f (z,J,(0,lit [],0,0),26,lit [],0,b.a_))) λ((K,L,_,P,_,Q,R):zmw)=>U1 (C (K,L)) λ(S,T,U)=>f (q6.mk P S.2.1 Q R (O [] N),(T,U))) (U1 (za v u.1) λW=>U1 (za v u.1) λX=>ite (q (X.k_≠1)) (U1 (D (u,v)) λ(a1,a2,a3)=>f (kr a1,(a2,a3))) (U1 (C (u,v)) λ(a4,a5,a6)=>U1 (E (lit [40],(a5,a6))) λ(a7,a8,a9)=>ite a7 (U1 (G (a8,a9)) λ(b1,b2,b3)=>f (q6.mk 28 a4.2.1 a4.2.2.1 a4.2.2.2 b3,b1,b2)) (U1 (A (lit [91],(a8,a9))) λ(b4,b5,b6)=>ite b4 (U1 (D (b5,b6)) λ(b7,b8,b9)=>U1 (H (lit [93],(b8,b9))) λc1=>f (q6.mk 25 a4.2.1 a4.2.2.1 a4.2.2.2 (O [kr b7] g),c1)) (U1 (E (lit [43],(b5,b6))) λ(c2,c3,c4)=>U1 (E (lit [45],(c3,c4))) λ(c5,c6,c7)=>U1 (ite c2 (U1 (za c7 (U4 (c6.1+1))) λc8=>U1 (za c7 (U4 (c6.1+1))) λc9=>f (c5,q (c9.k_=1),c6,c7,(0,lit [],0,0),a4)) (ite c5 (U1 (za c7 (U4 (c6.1+1))) λd1=>U1 (za c7 (U4 (c6.1+1))) λk=>f (c5,q (k.k_=1),c6,c7,(0,lit [],0,0),a4)) (f (c5,N,c6,c7,(0,lit [],0,0),a4)))) λ((c8,c9,d1,k,d3,d4,d5,d6,d7):Bool×Bool×(Int×Int×Int×Int)×Sl q9×(Int×U0×Int×Int)×Int×U0×Int×Int)=>ite c9 (U1 (C ((U4 (d1.1+1),d1.2),k)) λ(h,d9,e1)=>U1 (ite c8 (f (d9,e1,d3,(22,lit [],0,d7),O [q6.mk d4 d5 d6 d7 (O [] N),q6.mk h.1 h.2.1 h.2.2.1 h.2.2.2 (O [] N)] g)) (f (d9,e1,d3,(21,lit [],0,d7),O [q6.mk d4 d5 d6 d7 (O [] N),q6.mk h.1 h.2.1 h.2.2.1 h.2.2.2 (O [] N)] g))) λ((e2,e3,_,e4,e5):xL)=>f (q6.mk e4.1 e4.2.1 e4.2.2.1 e4.2.2.2 e5,e2,e3)) (U1 (I (q6.mk d4 d5 d6 d7 (O [] N),d1,k)) λ(e6,e7,e8)=>f (kr e6,(e7,e8)))))))))
def q6e:zG->U3 Zx:=q9x q10 q2k q15 q1z q1t q3i q12 q2c
theorem qju:q6e=P99.F:=by delta q6e;rw[q1x,q96,q3o,q80,q7o,qdw,q34,qgx];kernel_rfl
def qcl(A:vh)(B:yg)(C:zu3)(D:yg)(E:wF)(G:wn)(H:wF)(x:zG):U3 ZH:=U1 (A x) λ(a,b,c)=>U1 (B (lit [40],(b,c))) λ(d,e,i)=>ite d (U1 (C (e,i)) λ(j,l,m)=>f ((20,lit [],0,a.2.2.2),j,l,O [q6.mk 28 a.2.1 a.2.2.1 a.2.2.2 m] g)) (U1 (D (lit [91],(e,i))) λ(n,o,p)=>ite n (U1 (E (o,p)) λ(r,s,t)=>U1 (G (lit [93],(s,t))) λu=>U1 (G (lit [61],u)) λv=>U1 (E v) λ(w,z,I)=>f ((11,a.2),z,I,O [kr r,kr w] g)) (U1 (G (lit [61],(o,p))) λJ=>U1 (H J) λ(K,L,P)=>f ((10,a.2),L,P,O [kr K] g)))
def q7a:YF:=qcl q15 q1t q3i q10 q1z q12 q6e
theorem qj5:q7a=zlj.F:=by delta q7a;rw[q3o,q7o,qdw,q1x,q80,q34,qju];kernel_rfl
def q50(A:WC)(B:WC)(x:zeF):U3 ZH:=U1 (A x.2.2) λ(a,b,c,d)=>U1 (B (b,c)) λ(e,i,j,l)=>U1 (zo 64 d [q6.mk e.1 e.2.1 e.2.2.1 e.2.2.2 l]) λm=>f ((x.1,a.2.1,a.2.2.1,x.2.1),i,j,m)
def q21(h:YF):zeF->U3 ZH:=q50 q20 h
theorem qf7(h:YF):@Eq ((zeF)->U3 ZH) (zgz h) (q21 h):=by delta q21;rw[qgy];kernel_rfl
def q7b(A:zeF->U3 ZH)(B:yg)(C:WC)(D:vh)(E:wn)(G:zju)(H:yg)(I:wF)(J:zu3)(K:WC)(x:zG):U3 ZH:=U1 (za x.2 x.1.1) λa=>U1 (za x.2 x.1.1) λb=>U1 (za x.2 x.1.1) λc=>U1 (za x.2 x.1.1) λd=>U1 (ite (q (d.k_=2)) (U1 (za x.2 x.1.1) λe=>U1 (za x.2 x.1.1) λi=>f (b.a_,i.T_,x.1,x.2,0,lit [],0,0)) (f (b.a_,lit [],x.1,x.2,0,lit [],0,0))) λ(e:Int×U0×(Int×Int×Int×Int)×Sl q9×Int×U0×Int×Int)=>U1 (ite (q (e.2.1=lit [105,102])) (U1 (A (15,e.1,(U4 (e.2.2.1.1+1),e.2.2.1.2),e.2.2.2.1)) λi=>U1 (B (lit [101,108,115,101],i.2.1,i.2.2.1)) λj=>U1 (ite j.1 (U1 (C j.2) λl=>f (l.2.1,l.2.2.1,e.2.2.2.2,i.1,l.1,i.2.2.2,l.2.2.2)) (f (j.2.1,j.2.2,e.2.2.2.2,i.1,(9,lit [],0,e.1),i.2.2.2,O [] N))) λ(l:(Int×Int×Int×Int)×Sl q9×(Int×U0×Int×Int)×(Int×U0×Int×Int)×(Int×U0×Int×Int)×Sl q6×Sl q6)=>U1 (zo 64 l.2.2.2.2.2.1 [q6.mk l.2.2.2.2.1.1 l.2.2.2.2.1.2.1 l.2.2.2.2.1.2.2.1 l.2.2.2.2.1.2.2.2 l.2.2.2.2.2.2]) λm=>f (y (l.1,l.2.1,l.2.2.2.1,m))) (ite (q (e.2.1=lit [119,104,105,108,101])) (U1 (A (16,e.1,(U4 (e.2.2.1.1+1),e.2.2.1.2),e.2.2.2.1)) λn=>f (y (n.2.1,n.2.2.1,n.1,n.2.2.2))) (U1 (ite (q (e.2.1=lit [102,114,101,101])) (U1 (D ((U4 (e.2.2.1.1+1),e.2.2.1.2),e.2.2.2.1)) λo=>f (o.2.1,o.2.2,e.2.2.2.2,(12,o.1.2.1,0,e.1),O [] N)) (U1 (ite (q (e.2.1=lit [108,111,99,107])) (f (e.2.1,e.2.1,q (e.2.1=lit [108,111,99,107]),e.2.2.1,e.2.2.2.1,e.2.2.2.2,0,lit [],0,e.1)) (f (e.2.1,e.2.1,q (e.2.1=lit [117,110,108,111,99,107]),e.2.2.1,e.2.2.2.1,e.2.2.2.2,0,lit [],0,e.1))) λ(p:U0×U0×Bool×(Int×Int×Int×Int)×Sl q9×(Int×U0×Int×Int)×Int×U0×Int×Int)=>U1 (ite p.2.2.1 (U1 (D ((U4 (p.2.2.2.1.1+1),p.2.2.2.1.2),p.2.2.2.2.1)) λr=>U1 (ite (q (p.1=lit [117,110,108,111,99,107])) (f (r.2.1,r.2.2,p.2.2.2.2.2.1,(14,p.2.2.2.2.2.2.2),r.1)) (f (r.2.1,r.2.2,p.2.2.2.2.2.1,(13,p.2.2.2.2.2.2.2),r.1))) λ(s:(Int×Int×Int×Int)×Sl q9×(Int×U0×Int×Int)×(Int×U0×Int×Int)×Int×U0×Int×Int)=>U1 (E (lit [91],s.1,s.2.1)) λt=>U1 (G t) λu=>U1 (E (lit [93],u.2)) λv=>f (v.1,v.2,s.2.2.1,(s.2.2.2.1.1,s.2.2.2.2.2.1,u.1,s.2.2.2.1.2.2.2),O [] N)) (U1 (ite (q (p.2.1=lit [114,101,116,117,114,110])) (U1 (H (lit [59],(U4 (p.2.2.2.1.1+1),p.2.2.2.1.2),p.2.2.2.2.1)) λw=>U1 (ite (!w.1) (U1 (I w.2) λz=>f (z.2.1,z.2.2,p.2.2.2.2.2.1,(17,p.2.2.2.2.2.2.2),O [kr z.1] g)) (f (w.2.1,w.2.2,p.2.2.2.2.2.1,(17,p.2.2.2.2.2.2.2),O [] N))) λ(z:xL)=>f z) (U1 (ite (q (p.2.1=lit [97,98,111,114,116])) (f ((U4 (p.2.2.2.1.1+1),p.2.2.2.1.2),p.2.2.2.2.1,p.2.2.2.2.2.1,(18,p.2.2.2.2.2.2.2),O [] N)) (U1 (ite (q (p.2.1=lit [102,111,114,107])) (U1 (D ((U4 (p.2.2.2.1.1+1),p.2.2.2.1.2),p.2.2.2.2.1)) λL=>U1 (J L.2) λP=>f (P.1,P.2.1,p.2.2.2.2.2.1,(19,L.1.2.1,p.2.2.2.2.2.2.2.2),P.2.2)) (U1 (K (p.2.2.2.1,p.2.2.2.2.1)) λQ=>f (Q.2.1,Q.2.2.1,p.2.2.2.2.2.1,Q.1,Q.2.2.2))) λ(L:xL)=>f L)) λ(L:xL)=>f L)) λ(w:xL)=>f w)) λ(r:xL)=>f r)) λ(o:xL)=>f (M o)))) λ(i:(Int×Int×Int×Int)×Sl q9×(Int×U0×Int×Int)×Sl q6⊕(Int×Int×Int×Int)×Sl q9×(Int×U0×Int×Int)×(Int×U0×Int×Int)×Sl q6)=>F (λj=>f (j.2.2.1,j.1,j.2.1,j.2.2.2)) (λj=>U1 (E (lit [59],j.1,j.2.1)) λl=>f (j.2.2.2.1,l.1,l.2,j.2.2.2.2)) i
def q36(h:YF):YF:=q7b (q21 h) q10 h q15 q12 q2k q1t q1z q3i q7a
theorem qgd(h:YF):@Eq YF (zgA h) (q36 h):=by delta q36;rw[<-qf7 h,q1x,q3o,q34,q96,q7o,q80,qdw,qj5];kernel_rfl
def q4h(A:yg)(B:WD)(C:wn)(D:yg)(E:WC):xL->U3 (Step xL xL):=λa=>ite (q (a.1.2.2.1=0)) (U1 (D (lit [125],a.1,a.2.1)) λ(b,c,d)=>ite b (f (Step.done (c,d,a.2.2))) (U1 (E (c,d)) λ(e,i,j,l)=>U1 (zo 64 a.2.2.2.2 [q6.mk e.1 e.2.1 e.2.2.1 e.2.2.2 l]) λm=>f (Step.next (i,j,a.2.2.1,a.2.2.2.1,m)))) (f (Step.done a))
def q2l(A:yg)(B:WD)(C:wn)(D:yg)(E:WC)(x:zG):U3 ZH:=U1 (za x.2 x.1.1) λa=>U1 (za x.2 x.1.1) λb=>U1 (A (lit [123],x)) λ(c,d,e)=>U1 (ite c (f (q (8<=d.2.1),d,e,(0,lit [],0,0),9,lit [],0,b.a_)) (f (N,d,e,(0,lit [],0,0),9,lit [],0,b.a_))) λ((i,j,l,m,n,o,p,r):Bool×(Int×Int×Int×Int)×Sl q9×(Int×U0×Int×Int)×Int×U0×Int×Int)=>U1 (ite i (U1 (B (21,j,l)) λ(s,t)=>f (s,t,(m,n,o,p,r))) (f (j,l,m,n,o,p,r))) λ((s,t,u,v,w,z,G):zmw)=>U1 (C (lit [123],s,t)) λ(H,I)=>U1 (lpO (q4h A B C D E) ((H.1,U4 (H.2.1+1),H.2.2),I,u,(v,w,z,G),O [] N)) λ(J,K,_,L,P)=>f (L,(J.1,U4 (J.2.1 - 1),J.2.2),K,P)
def q97(h:YF):YF:=q2l q1t q19 q12 q10 (q36 h)
theorem qii(h:YF):@Eq YF (zjf h) (q97 h):=by delta q97;rw[q7o,q5a,q34,q1x,<-qgd h];kernel_rfl
def q4g:Nat->zG->U3 ZH
 |0=>λ_=>Y
 |k+1=>q97 (q4g k)
theorem q98:∀k,@Eq YF (zcg k) (q4g k)
 |0=>rfl
 |k+1=>(qii (zcg k)).trans (congrArg q97 (q98 k))
def q5w:YF:=q4g 100000
theorem qj6:@Eq YF zyo q5w:=q98 100000
def qbl(A:vh)(B:wn)(C:yg)(D:wF)(E:yg)(G:WD)(H:WC):zaa->U3 (Step zaa xL):=λ(a,b,c,d,e,i)=>U1 (ite (!a) (f (a,q (b.2.2.1=0),(b,c,d,e,i))) (f (a,N,(b,c,d,e,i)))) λ((j,l,m,n,o,p,r):Bool×Bool×(Int×Int×Int×Int)×Sl q9×(Int×U0×Int×Int)×(Int×U0×Int×Int)×Sl q6)=>ite l (U1 (A (m,n)) λ(s,t,u)=>U1 (B (lit [58],(t,u))) λv=>U1 (D v) λ(w,z,I)=>U1 (zo 64 r [q6.mk 7 s.2.1 s.2.2.1 s.2.2.2 (O [kr w] g)]) λJ=>U1 (C (lit [44],(z,I))) λ(K,L,P)=>U1 (ite (!K) (U1 (B (lit [41],(L,P))) λ(Q,R)=>f (g,Q,R,o,p,J)) (f (j,L,P,o,p,J))) λ(Q:zaa)=>f (Step.next Q)) (f (Step.done (m,n,o,p,r)))
def qe8(A:vh)(B:wn)(C:yg)(D:wF)(E:yg)(G:WD)(H:WC)(x:Yo):U3 ZH:=U1 (A x.2) λa=>U1 (B (lit [40],a.2)) λb=>U1 (C (lit [41],b)) λc=>U1 (lpO (qbl A B C D E G H) (c.1,c.2.1,c.2.2,(0,lit [],0,0),(6,a.1.2.1,a.1.2.2.1,x.1),O [] N)) λd=>U1 (za d.2.1 d.1.1) λe=>U1 (za d.2.1 d.1.1) λi=>U1 (C (lit [45,62],d.1,d.2.1)) λj=>U1 (ite j.1 (U1 (E (lit [38],j.2)) λl=>U1 (ite l.1 (U1 (G (20,l.2)) λm=>f (m.1,m.2,d.2.2.1,d.2.2.2.1,(8,lit [],0,i.a_),d.2.2.2.2)) (f (l.2.1,l.2.2,d.2.2.1,d.2.2.2.1,(8,lit [],0,i.a_),d.2.2.2.2))) λ(m:(Int×Int×Int×Int)×Sl q9×(Int×U0×Int×Int)×(Int×U0×Int×Int)×(Int×U0×Int×Int)×Sl q6)=>U1 (D (m.1,m.2.1)) λn=>f (n.2.1,n.2.2,m.2.2.1,m.2.2.2.1,kr n.1,m.2.2.2.2.2)) (f (j.2.1,j.2.2,d.2.2.1,d.2.2.2.1,q6.mk 8 (lit []) 0 i.a_ (O [] N),d.2.2.2.2))) λ(l:(Int×Int×Int×Int)×Sl q9×(Int×U0×Int×Int)×(Int×U0×Int×Int)×q6×Sl q6)=>U1 (H (l.1,l.2.1)) λm=>U1 (zo 64 l.2.2.2.2.2 [kr l.2.2.2.2.1]) λn=>U1 (zo 64 n [q6.mk m.1.1 m.1.2.1 m.1.2.2.1 m.1.2.2.2 m.2.2.2]) λo=>f (l.2.2.2.1,m.2.1,m.2.2.1,o)
def q7c:Yo->U3 ZH:=qe8 q15 q12 q10 q3j q1t q19 q5w
theorem ql0:q7c=ztc.F:=by delta q7c;rw[q3o,q34,q1x,qjt,q7o,q5a,<-qj6];kernel_rfl
def q42(A:yg)(B:vh)(C:WD):Int×Ue×Sl q9×Ua×Ua×zcT->U3 (Step (Int×Ue×Sl q9×Ua×Ua×zcT) tA7):=λ(a,b,c,d,e,i)=>ite (q (a < Sl.len i)) (U1 (za i a) λj=>U1 (za i a) λl=>U1 (A (l,b,c)) λ(m,n,o)=>ite m (U1 (B (n,o)) λ(p,r,s)=>f (Step.done (y (r,s,e,O [q6.mk p.1 p.2.1 p.2.2.1 p.2.2.2 (O [] N)] g)))) (f (Step.next (U4 (a+1),n,o,(d,e,i))))) (f (Step.done (M (b,c,d,e))))
def q9y(A:yg)(B:vh)(C:WD)(x:zG):U3 Zx:=U1 (za x.2 x.1.1) λa=>U1 (za x.2 x.1.1) λb=>U1 (za x.2 x.1.1) λc=>U1 (za x.2 x.1.1) λd=>U1 (A (lit [111,119,110],x)) λ(e,i,j)=>ite e (f (q6.mk 2 b.T_ 0 d.a_ (O [] N),(i,j))) (U1 (A (lit [99,101,108,108],(i,j))) λ(l,m,n)=>ite l (f (q6.mk 2 b.T_ 0 d.a_ (O [] N),(m,n))) (U1 (lpO (q42 A B C) (0,m,n,(0,lit [],0,0),(2,b.T_,0,d.a_),O [lit [99,111,117,110,116,101,100],lit [108,111,99,107],lit [103,117,97,114,100]] g)) λo=>F (λ(p,r,s,t)=>f (q6.mk s.1 s.2.1 s.2.2.1 s.2.2.2 t,p,r)) (λ(p,r,_,s,t,u,v)=>U1 (C (20,p,r)) λw=>f (q6.mk s t u v (O [] N),w)) o))
def q4c:zG->U3 Zx:=q9y q10 q15 q19
theorem qjw:q4c=ztd.F:=by delta q4c;rw[q1x,q3o,q5a];kernel_rfl
def qcm(A:vh)(B:yg)(C:wn)(x:zG):U3 ZH:=U1 (A x) λa=>U1 (B (lit [91],a.2)) λb=>U1 (ite b.1 (U1 (A b.2) λc=>U1 (C (lit [93],c.2)) λd=>f (d.1,d.2,(0,lit [],0,0),(3,a.1.2),O [q6.mk c.1.1 c.1.2.1 c.1.2.2.1 c.1.2.2.2 (O [] N)] g)) (f (b.2.1,b.2.2,(0,lit [],0,0),(3,a.1.2),O [] N))) λ(c:xL)=>f (c.2.2.2.1,c.1,c.2.1,c.2.2.2.2)
def q43:YF:=qcm q15 q10 q12
theorem qj7:q43=zte.F:=by delta q43;rw[q3o,q1x,q34];kernel_rfl
def qdl(A:vh)(B:wF)(C:yg)(D:WC)(E:wn)(G:WC):zaa->U3 (Step zaa xL):=λ(a,b,c,d,e,i)=>ite a (U1 (D (b,c)) λ(j,l,m,n)=>U1 (zo 64 i [q6.mk j.1 j.2.1 j.2.2.1 j.2.2.2 n]) λo=>U1 (C (lit [44],l,m)) λ(p,r,s)=>U1 (ite (!p) (U1 (E (lit [125],(r,s))) λ(t,u)=>f (p,t,u,d,e,o)) (f (p,r,s,d,e,o))) λt=>f (Step.next t)) (f (Step.done (b,c,d,e,i)))
def qdm(A:vh)(B:wF)(C:yg)(D:WC)(E:wn)(G:WC):zaa->U3 (Step zaa xL):=λ(a,b,c,d,e,i)=>ite a (U1 (G (b,c)) λ(j,l,m,n)=>U1 (zo 64 i [q6.mk j.1 j.2.1 j.2.2.1 j.2.2.2 n]) λo=>U1 (C (lit [44],l,m)) λ(p,r,s)=>f (Step.next (p,r,s,d,e,o))) (f (Step.done (b,c,d,e,i)))
def qdn(A:vh)(B:wF)(C:yg)(D:WC)(E:wn)(G:WC)(x:Yo):U3 ZH:=U1 (A x.2) λ(a,b,c)=>U1 (B (b,c)) λ(d,e,i)=>U1 (C (lit [123],(e,i))) λ(j,l,m)=>U1 (lpO (qdl A B C D E G) (j,l,m,(0,lit [],0,0),(1,a.2.1,a.2.2.1,x.1),O [kr d] g)) λ(n,o,p,r,s)=>U1 (C (lit [119,104,101,114,101],n,o)) λ(t,u,v)=>U1 (lpO (qdm A B C D E G) (t,u,v,(p,r,s))) λ(w,z,_,H,I)=>U1 (E (lit [59],w,z)) λ(J,K)=>f (H,J,K,I)
def q6s:Yo->U3 ZH:=qdn q15 q4c q10 q43 q12 q20
theorem qki:q6s=ztf.F:=by delta q6s;rw[q3o,qjw,q1x,qj7,q34,qgy];kernel_rfl
def q7d(A:wc):Int×Int×q6->U3 (Step (Int×Int×q6) Int):=λ(a,b,c)=>ite (q (b < c.K_.len)) (U1 (za c.K_ b) λd=>U1 (A (kr d)) λe=>f (Step.next (U4 (a+e),U4 (b+1),kr c))) (f (Step.done a))
def qaj(A:wc)(x:q6):Uc:=U1 (lpO (q7d A) (1,0,kr x)) λa=>f a
def qak(h:wc):wc:=qaj h
theorem qj8(h:wc):@Eq wc (zjh h) (qak h):=jO
def q37:Nat->q6->U3 Int
 |0=>λ_=>Y
 |k+1=>qak (q37 k)
theorem qge:∀k,@Eq wc (zgB k) (q37 k)
 |0=>rfl
 |k+1=>(qj8 (zgB k)).trans (congrArg qak (qge k))
def qaz:wc:=q37 100000
theorem qjx:@Eq wc zyq qaz:=qge 100000
def q8q(A:zjN)(B:yg)(C:zpR)(D:wn)(E:zpR)(G:wc):zfW->U3 (Step zfW zfW):=λa=>U1 (ite (q (a.2.1.2.2.1=0)) (U1 (za a.2.2.2.1 a.2.1.1) λb=>U1 (za a.2.2.2.1 a.2.1.1) λc=>f (q (c.k_≠0),a)) (f (N,a))) λ(b,c,d,e,i,j)=>ite b (U1 (U1 (za i d.1) λl=>U1 (za i d.1) λm=>U1 (B (lit [102,110],d,i)) λ(n,o,p)=>ite n (U1 (C (m.a_,(o,p))) λ(r,s,t,u)=>U1 (zo 64 j [q6.mk r.1 r.2.1 r.2.2.1 r.2.2.2 u]) λv=>f (c,s,e,t,v)) (U1 (D (lit [116,121,112,101],(o,p))) λw=>U1 (ite (q (w.1.2.2.1=0)) (U1 (E (m.a_,w)) λ(z,H,I,J)=>U1 (zo 64 j [q6.mk z.1 z.2.1 z.2.2.1 z.2.2.2 J]) λK=>f (c,H,e,I,K)) (f (c,w.1,e,w.2,j))) λz=>f z)) λl=>f (Step.next l)) (f (Step.done (c,d,e,i,j)))
def qcn(A:zjN)(B:yg)(C:zpR)(D:wn)(E:zpR)(G:wc)(x:Zr):U3 (q6×zH):=U1 (A x) λ(a,b,c)=>ite (q (b≠0)) (f (q6.mk 0 (lit []) 0 0 (O [] N),a,b)) (U1 (lpO (q8q A B C D E G) ((0,lit [],0,0),(0,0,0,0),(0,lit [],0,0),c,O [] N)) λ(_,d,e,_,i)=>ite (q (d.2.2.1≠0)) (f (q6.mk 0 (lit []) 0 0 (O [] N),d.2.2.2,d.2.2.1)) (U1 (G (q6.mk e.1 e.2.1 e.2.2.1 e.2.2.2 i)) λj=>ite (q (4096 < j)) (f (q6.mk 0 (lit []) 0 0 (O [] N),0,22)) (f (q6.mk e.1 e.2.1 e.2.2.1 e.2.2.2 i,0,0))))
def q2s:zeL:=qcn q6z q10 q7c q12 q6s qaz
theorem qgf:q2s=zoW.F:=by delta q2s;rw[qih,q1x,ql0,q34,qki,<-qjx];kernel_rfl
def q7f:Int×Int×q6×Uj->U3 (Step (Int×Int×q6×Uj) Uj):=λ(a,b,c,d)=>ite (q (b < c.K_.len)) (U1 (za c.K_ b) λe=>U1 (ite (q (e.k_=a)) (U1 (za c.K_ b) λi=>U1 (zo 64 d [kr i]) λj=>f (a,b,kr c,j)) (f (a,b,kr c,d))) λ(i,j,l,m)=>f (Step.next (i,U4 (j+1),kr l,m))) (f (Step.done d))
def q9z(x:q6×Int):U3 Uj:=U1 (lpO q7f (x.2,0,kr x.1,O [] N)) λa=>f a
def q1h:zeR:=q9z
theorem qjy:q1h=zoX.F:=jO
def q5y:Ui×zz->U3 (Step (Ui×zz) zeW):=λ(a,b,c)=>ite (q (c < Sl.len a)) (U1 (za a c) λd=>ite (q (d.N_=b)) (f (Step.done (y c))) (f (Step.next (a,b,U4 (c+1))))) (f (Step.done (M ())))
def qdb(x:zj6):Uc:=U1 (lpO q5y (x.1,x.2,0)) λa=>F (λb=>f b) (λb=>f (-1)) a
def q1a:zj6->Uc:=qdb
theorem qdx:q1a=zhT.F:=jO
def q51:Uj×zz->U3 (Step (Uj×zz) zeW):=λ(a,b,c)=>ite (q (c < Sl.len a)) (U1 (U1 (za a c) λd=>ite (q (d.T_=b)) (U1 (za a c) λe=>f (a,b,c,q (e.K_.len=0))) (f (a,b,c,N))) λ(d,e,i,j)=>ite j (f (Step.done (y i))) (f (Step.next (d,e,U4 (i+1))))) (f (Step.done (M ())))
def qbu(x:zj7):Uc:=U1 (lpO q51 (x.1,x.2,0)) λa=>F (λb=>f b) (λb=>f (-1)) a
def q1f:zj7->Uc:=qbu
theorem qik:q1f=zoY.F:=jO
def q8s(x:zaJ):U3 (Sl qu):=U1 (ite (q (x.1=lit [60])) (f (x.1,x.2.1,x.2.2.1,x.2.2.2.1,x.2.2.2.2,O ([]++[qu.mk x.2.1 x.2.2.1 (U4 (U4 (x.2.2.2.2 - x.2.2.2.1) - 1))]) (N || ![qu.mk x.2.1 x.2.2.1 (U4 (U4 (x.2.2.2.2 - x.2.2.2.1) - 1))].isEmpty))) (f (x.1,x.2.1,x.2.2.1,x.2.2.2.1,x.2.2.2.2,O [] N))) λ(a,b,c,d,e,i)=>U1 (ite (q (a=lit [60,61])) (f (a,b,c,d,e,g,i)) (f (a,b,c,d,e,q (a=lit [61,61]),i))) λ(j,l,m,n,o,p,r)=>U1 (ite p (U1 (zo 24 r [qu.mk l m (U4 (o - n))]) λs=>f (j,l,m,n,o,s)) (f (j,l,m,n,o,r))) λ(s,t,u,v,w,z)=>U1 (ite (q (s=lit [61,61])) (U1 (zo 24 z [qu.mk u t (U4 (v - w))]) λA=>f A) (f z)) λA=>f A
def q1e:zaJ->U3 (Sl qu):=q8s
theorem qj9:q1e=zoZ.F:=jO
def q6f(A:zeR)(B:Vg)(C:zeN)(D:zeB):zpT->U3 (Step zpT zzv):=λ(a,b,c,d,e,i,j,l,m,n)=>ite (q (b < a)) (U1 (za e b) λo=>U1 (za e b) λp=>ite (q (p.T_=m.T_)) (f (Step.done (y (m.a_,30,c,l,n)))) (f (Step.next (a,U4 (b+1),c,d,e,i,kr j,l,kr m,n)))) (f (Step.done (M (a,c,d,e,i,kr j,l,kr m,n))))
def q56(A:zeR)(B:Vg)(C:zeN)(D:zeB):zpU->U3 (Step zpU zzA):=λa=>ite (q (a.1 < Sl.len a.2.2.2.1)) (U1 (U1 (za a.2.2.2.1 a.1) λb=>U1 (za a.2.2.2.1 a.1) λc=>U1 (lpO (q6f A B C D) (a.1,0,a.2.1,a.2.2.1,a.2.2.2.1,a.2.2.2.2.1,kr a.2.2.2.2.2.1,a.2.2.2.2.2.2.1,kr c,a.2.2.2.2.2.2.2)) λd=>F (λe=>f (y e)) (λe=>U1 (ite (q (0 < e.2.2.2.2.2.2.2.1.K_.len)) (U1 (za e.2.2.2.2.2.2.2.1.K_ 0) λi=>U1 (C (e.2.2.2.1,i.T_)) λj=>U1 (ite (q (e.2.2.2.2.2.1.T_≠lit [111,119,110])) (f (e.1,j,g,e.2.1,e.2.2.1,e.2.2.2.1,e.2.2.2.2.1,kr e.2.2.2.2.2.1,e.2.2.2.2.2.2.1,kr e.2.2.2.2.2.2.2.1,e.2.2.2.2.2.2.2.2)) (f (e.1,j,q (j < 0),e.2.1,e.2.2.1,e.2.2.2.1,e.2.2.2.2.1,kr e.2.2.2.2.2.1,e.2.2.2.2.2.2.1,kr e.2.2.2.2.2.2.2.1,e.2.2.2.2.2.2.2.2))) λl=>ite l.2.2.1 (f (y (l.2.2.2.2.2.2.2.2.2.1.a_,32,l.2.2.2.1,l.2.2.2.2.2.2.2.2.1,l.2.2.2.2.2.2.2.2.2.2))) (f (M (l.1,l.2.1,l.2.2.2.1,l.2.2.2.2.1,l.2.2.2.2.2.1,l.2.2.2.2.2.2.1,kr l.2.2.2.2.2.2.2.1,l.2.2.2.2.2.2.2.2.1,kr l.2.2.2.2.2.2.2.2.2.1,l.2.2.2.2.2.2.2.2.2.2)))) (f (M (e.1, -1,e.2.1,e.2.2.1,e.2.2.2.1,e.2.2.2.2.1,kr e.2.2.2.2.2.1,e.2.2.2.2.2.2.1,kr e.2.2.2.2.2.2.2.1,e.2.2.2.2.2.2.2.2)))) λi=>F (λj=>f (y j)) (λj=>U1 (zo 24 j.2.2.2.2.2.2.2.2.2 [qn.mk j.2.2.2.2.2.2.2.2.1.T_ j.2.1]) λl=>f (M (j.1,j.2.2.1,j.2.2.2.1,j.2.2.2.2.1,j.2.2.2.2.2.1,kr j.2.2.2.2.2.2.1,j.2.2.2.2.2.2.2.1,l))) i) d) λb=>F (λc=>f (Step.done (y c))) (λc=>f (Step.next (U4 (c.1+1),c.2.1,c.2.2.1,c.2.2.2.1,c.2.2.2.2.1,kr c.2.2.2.2.2.1,c.2.2.2.2.2.2))) b) (f (Step.done (M (a.2.1,a.2.2.1,a.2.2.2.1,a.2.2.2.2.1,kr a.2.2.2.2.2.1,a.2.2.2.2.2.2))))
def qb0(A:zeR)(B:Vg)(C:zeN)(D:zeB):zpS->U3 (Step zpS tA5):=λa=>ite (q (a.2.2.1 < 2)) (U1 (U1 (za a.2.2.2.2.2.2.1 a.2.1) λb=>U1 (za a.2.2.2.2.2.2.1 a.2.1) λc=>U1 (za c.K_ a.2.2.1) λd=>ite (q (d.T_=lit [])) (f (y a)) (U1 (C (a.2.2.2.2.2.1,d.T_)) λe=>U1 (ite (q (e < 0)) (f (a.1,a.2.1,a.2.2.1,e,g,a.2.2.2)) (f (a.1,a.2.1,a.2.2.1,e,q (e=a.1),a.2.2.2))) λi=>ite i.2.2.2.2.1 (U1 (za i.2.2.2.2.2.2.2.2.1 i.2.1) λj=>U1 (za i.2.2.2.2.2.2.2.2.1 i.2.1) λl=>f (M (l.a_,33,i.2.2.2.2.2.1,i.2.2.2.2.2.2.2.2.2.1,i.2.2.2.2.2.2.2.2.2.2.2))) (U1 (za i.2.2.2.2.2.2.2.2.2.2.1 i.2.2.1) λm=>U1 (za i.2.2.2.2.2.2.2.2.2.2.1 i.2.2.1) λn=>f (y (i.1,i.2.1,i.2.2.1,i.2.2.2.2.2.1,i.2.2.2.2.2.2.1,i.2.2.2.2.2.2.2.1,i.2.2.2.2.2.2.2.2.1,i.2.2.2.2.2.2.2.2.2.1,Sl.set i.2.2.2.2.2.2.2.2.2.2.1 i.2.2.1 (U4 (i.2.2.2.1+1)),i.2.2.2.2.2.2.2.2.2.2.2))))) λb=>F (λc=>f (Step.next (c.1,c.2.1,U4 (c.2.2.1+1),c.2.2.2))) (λc=>f (Step.done (y c))) b) (f (Step.done (M (a.1,a.2.1,a.2.2.2))))
def q6g(A:zeR)(B:Vg)(C:zeN)(D:zeB):Int×Int×Int×Ui×zr×Uj×Uj×zr×Sl qu×Uw->U3 (Step (Int×Int×Int×Ui×zr×Uj×Uj×zr×Sl qu×Uw) (Int×Int×Ui×zr×Uj×Uj×zr×Uw)):=λ(a,b,c,d,e,i,j,l,m,n,o)=>ite (q (c < Sl.len m)) (U1 (za m c) λp=>U1 (za m c) λr=>U1 (zo 24 o [r]) λs=>f (Step.next (a,b,U4 (c+1),d,e,i,j,l,m,n,s))) (f (Step.done (a,b,d,e,i,j,l,(n,o))))
def q4d(A:zeR)(B:Vg)(C:zeN)(D:zeB):Int×Int×Ui×zr×Uj×Uj×zr×Uw->U3 (Step (Int×Int×Ui×zr×Uj×Uj×zr×Uw) zzB):=λ(a,b,c,d,e,i,j,l,m)=>ite (q (b < Sl.len i)) (U1 (lpO (qb0 A B C D) (a,b,0,c,d,e,i,j,O [0,0] g,(l,m))) λn=>F (λo=>f (Step.done (y o))) (λ(o,p,r,s,t,u,v,w,z,E)=>U1 (za u p) λG=>U1 (za u p) λH=>U1 (za w 0) λI=>U1 (za w 0) λJ=>U1 (za w 1) λK=>U1 (za w 1) λL=>U1 (za u p) λP=>U1 (za u p) λQ=>U1 (za Q.K_ 0) λR=>U1 (za u p) λS=>U1 (za u p) λT=>U1 (za T.K_ 1) λU=>U1 (D (H.T_,J,L,R.n_,U.n_)) λW=>U1 (lpO (q6g A B C D) (o,p,0,r,s,t,u,v,W,(z,E))) λ(X,x,a2,a3,a4,a5,h,a7,k)=>f (Step.next (X,U4 (x+1),(a2,a3,a4,a5,h,a7,k)))) n) (f (Step.done (M (c,d,(j,l,m)))))
def qb1(A:zeR)(B:Vg)(C:zeN)(D:zeB)(x:wH):U3 (qd×Int×Int×Ui):=U1 (A (kr x.1,3)) λa=>U1 (A (kr x.1,4)) λb=>U1 (za x.1.K_ 0) λc=>U1 (B (x.2,x.1.T_)) λd=>ite (q (0<=d)) (f (qd.mk x.1.T_ 0 0 (O [] N) (O [] N),x.1.a_,30,x.2)) (ite (q (8 < a.len)) (f (qd.mk x.1.T_ 0 0 (O [] N) (O [] N),x.1.a_,22,x.2)) (U1 (lpO (q56 A B C D) (0,x.2,(lit [],0,0),a,b,kr c,(x.1.T_,0,0),O [] N)) λe=>F (λi=>f (qd.mk i.2.2.2.1.1 i.2.2.2.1.2.1 i.2.2.2.1.2.2 i.2.2.2.2 (O [] N),i.1,i.2.1,i.2.2.1)) (λi=>U1 (ite (q (i.2.2.2.2.1.T_=lit [99,101,108,108])) (f (y (-1,i.1,i.2.1,i.2.2.1,i.2.2.2.1,(i.2.2.2.2.2.1.1,1,i.2.2.2.2.2.1.2.2),i.2.2.2.2.2.2))) (U1 (ite (q (i.2.2.2.2.1.T_=lit [99,111,117,110,116,101,100])) (f (-1,i.2.2.2.2.1.T_,q (i.2.2.2.2.1.T_=lit [99,111,117,110,116,101,100]),i.1,i.2.1,i.2.2.1,i.2.2.2.1,kr i.2.2.2.2.1,i.2.2.2.2.2)) (f (-1,i.2.2.2.2.1.T_,q (i.2.2.2.2.1.T_=lit [108,111,99,107]),i.1,i.2.1,i.2.2.1,i.2.2.2.1,kr i.2.2.2.2.1,i.2.2.2.2.2))) λj=>U1 (ite j.2.2.1 (U1 (ite (q (j.2.2.2.2.2.2.2.1.T_=lit [108,111,99,107])) (f (j.2.2.2.1,j.2.2.2.2.1,j.2.2.2.2.2.1,j.2.2.2.2.2.2.1,kr j.2.2.2.2.2.2.2.1,(j.2.2.2.2.2.2.2.2.1.1,3,j.2.2.2.2.2.2.2.2.1.2.2),j.2.2.2.2.2.2.2.2.2)) (f (j.2.2.2.1,j.2.2.2.2.1,j.2.2.2.2.2.1,j.2.2.2.2.2.2.1,kr j.2.2.2.2.2.2.2.1,(j.2.2.2.2.2.2.2.2.1.1,2,j.2.2.2.2.2.2.2.2.1.2.2),j.2.2.2.2.2.2.2.2.2))) λl=>U1 (za l.2.2.2.2.1.K_ 0) λm=>U1 (C (l.2.2.1,m.T_)) λn=>ite (q (n < 0)) (f (y (l.2.2.2.2.1.a_,32,l.1,l.2.2.2.2.2))) (f (M (n,l.1,l.2.1,l.2.2.1,l.2.2.2.1,(l.2.2.2.2.2.1.1,l.2.2.2.2.2.1.2.1,n),l.2.2.2.2.2.2)))) (U1 (ite (q (j.2.1=lit [103,117,97,114,100])) (U1 (za j.2.2.2.2.2.2.2.1.K_ 0) λo=>U1 (B (j.2.2.2.1,o.T_)) λp=>ite (q (p < 0)) (f (y (j.2.2.2.2.2.2.2.1.a_,31,j.2.2.2.1,(j.2.2.2.2.2.2.2.2.1.1,4,p),j.2.2.2.2.2.2.2.2.2))) (U1 (za j.2.2.2.1 p) λr=>U1 (za j.2.2.2.1 p) λs=>ite (q (s.S_≠3)) (f (y (j.2.2.2.2.2.2.2.1.a_,31,j.2.2.2.1,(j.2.2.2.2.2.2.2.2.1.1,4,p),j.2.2.2.2.2.2.2.2.2))) (U1 (ite (q (0 < Sl.len j.2.2.2.2.2.1)) (f (j.1,g,j.2.2.2.1,j.2.2.2.2.1,j.2.2.2.2.2.1,j.2.2.2.2.2.2.1,kr j.2.2.2.2.2.2.2.1,(j.2.2.2.2.2.2.2.2.1.1,4,p),j.2.2.2.2.2.2.2.2.2)) (f (j.1,q (0 < Sl.len j.2.2.2.2.2.2.1),j.2.2.2.1,j.2.2.2.2.1,j.2.2.2.2.2.1,j.2.2.2.2.2.2.1,kr j.2.2.2.2.2.2.2.1,(j.2.2.2.2.2.2.2.2.1.1,4,p),j.2.2.2.2.2.2.2.2.2))) λt=>ite t.2.1 (f (y (t.2.2.2.2.2.2.1.a_,32,t.2.2.1,t.2.2.2.2.2.2.2))) (f (M (t.1,t.2.2.1,t.2.2.2.1,t.2.2.2.2.1,t.2.2.2.2.2.1,t.2.2.2.2.2.2.2)))))) (f (M (j.1,j.2.2.2.1,j.2.2.2.2.1,j.2.2.2.2.2.1,j.2.2.2.2.2.2.1,j.2.2.2.2.2.2.2.2)))) λo=>F (λp=>f (y p)) (λp=>f (M p)) o)) λl=>F (λm=>f (M m)) (λm=>f (y m)) l)) λj=>F (λl=>U1 (lpO (q4d A B C D) (l.1,0,l.2.1,l.2.2.1,l.2.2.2.1,l.2.2.2.2.1,l.2.2.2.2.2.1,l.2.2.2.2.2.2,O [] N)) λm=>F (λn=>f (qd.mk n.2.2.2.1.1 n.2.2.2.1.2.1 n.2.2.2.1.2.2 n.2.2.2.2.1 n.2.2.2.2.2,n.1,n.2.1,n.2.2.1)) (λn=>f (qd.mk n.2.2.1.1 n.2.2.1.2.1 n.2.2.1.2.2 n.2.2.2.1 n.2.2.2.2,0,0,n.1)) m) (λl=>f (qd.mk l.2.2.2.1.1 l.2.2.2.1.2.1 l.2.2.2.1.2.2 l.2.2.2.2 (O [] N),l.1,l.2.1,l.2.2.1)) j) e))
def q4j:wH->U3 (qd×Int×Int×Ui):=qb1 q1h q1a q1f q1e
theorem qkj:q4j=zth.F:=by delta q4j;rw[qjy,qdx,qik,qj9];kernel_rfl
def q5d(A:zvV):Int×wH->U3 (Step (Int×wH) (zH⊕Ui)):=λ(a,b,c)=>ite (q (a < b.K_.len)) (U1 (U1 (za b.K_ a) λd=>ite (q (d.k_≠1)) (f (y (a,kr b,c))) (U1 (za b.K_ a) λe=>U1 (A (kr e,c)) λ(i,j,l,m)=>ite (q (l≠0)) (f (M (j,l))) (U1 (zo 80 m [i]) λn=>f (y (a,kr b,n))))) λd=>F (λ(e,i,j)=>f (Step.next (U4 (e+1),kr i,j))) (λe=>f (Step.done (y e))) d) (f (Step.done (M c)))
def q8t(A:zvV)(x:q6):U3 (Int×Int×Ui):=U1 (lpO (q5d A) (0,kr x,O [] N)) λa=>F (λ(b,c)=>f (b,c,O [] N)) (λb=>f (0,0,b)) a
def q38:zjX:=q8t q4j
theorem qja:q38=zti.F:=by delta q38;rw[qkj];kernel_rfl
def qa0(A:Vg)(x:wH):U3 (qi×Bool):=U1 (ite (q (x.1.T_=lit [105,110,116])) (f (x.2,kr x.1,qi.mk (lit []) 0 0,qi.mk (lit []) 1 0)) (U1 (ite (q (x.1.T_=lit [111,119,110])) (f (x.2,kr x.1,qi.mk (lit []) 0 0,qi.mk (lit []) 2 0)) (U1 (ite (q (x.1.T_=lit [38])) (f (x.2,kr x.1,qi.mk (lit []) 0 0,qi.mk (lit []) 3 0)) (U1 (ite (q (x.1.T_=lit [38,109,117,116])) (f (x.2,kr x.1,qi.mk (lit []) 0 0,qi.mk (lit []) 4 0)) (f (x.2,kr x.1,qi.mk (lit []) 0 0,qi.mk (lit []) 0 0))) λ(a,b,c,d)=>f (a,kr b,(c,d)))) λ(a,b,c,d)=>f (a,kr b,(c,d)))) λ(a,b,c,d)=>f (a,kr b,(c,d)))) λ(a,b,c,d)=>U1 (ite (q (1 < d.M_)) (U1 (za b.K_ 0) λe=>U1 (A (a,e.T_)) λi=>ite (q (i < 0)) (f (y (N,qi.mk (lit []) 0 0))) (f (M (c,qi.mk d.N_ d.M_ i)))) (f (M (c,d)))) λe=>F (λ(i,j)=>f (j,i)) (λ(_,i)=>f (i,g)) e
def q2d:wH->U3 (qi×Bool):=qa0 q1a
theorem qjz:q2d=ztj.F:=by delta q2d;rw[qdx];kernel_rfl
def q6h(A:zjV):Ui×Int×Int×Int×q6×GZ×GZ×q6×Sl qi->U3 (Step (Ui×Int×Int×Int×q6×GZ×GZ×q6×Sl qi) zzu):=λ(a,b,c,d,e,i,j,l,m)=>ite (q (d < c)) (U1 (za e.K_ d) λn=>ite (q (n.T_=l.T_)) (f (Step.done (y (l.a_,30,lit [],lit [],0,0)))) (f (Step.next (a,b,c,U4 (d+1),kr e,i,j,kr l,m)))) (f (Step.done (M (a,b,c,kr e,i,j,kr l,m))))
def q6i(A:zjV):Ui×Int×Int×Int×q6×GZ×GZ×q6×qi×Sl qi->U3 (Step (Ui×Int×Int×Int×q6×GZ×GZ×q6×qi×Sl qi) tA8):=λ(a,b,c,d,e,i,j,l,m,n)=>ite (q (d < c)) (U1 (za n d) λo=>U1 (za n d) λp=>U1 (ite (q (1 < m.M_)) (ite (q (1 < p.M_)) (ite (q (m.t_=p.t_)) (U1 (za a m.t_) λr=>f (a,b,c,d,q (r.S_≠0),kr e,i,j,kr l,(m,n))) (f (a,b,c,d,N,kr e,i,j,kr l,(m,n)))) (f (a,b,c,d,N,kr e,i,j,kr l,(m,n)))) (f (a,b,c,d,N,kr e,i,j,kr l,(m,n)))) λ(r,s,t,u,v,w,z,B,C,D,E)=>ite v (U1 (za C.K_ 0) λG=>f (Step.done (y (G.a_,34,lit [],lit [],0,0)))) (f (Step.next (r,s,t,U4 (u+1),kr w,z,B,kr C,(D,E))))) (f (Step.done (M (a,b,c,kr e,i,j,kr l,(m,n)))))
def q6j(A:zjV):Ui×Int×Int×q6×GZ×GZ×Sl qi->U3 (Step (Ui×Int×Int×q6×GZ×GZ×Sl qi) zzy):=λ(a,b,c,d,e,i,j)=>ite (q (c < b)) (U1 (U1 (za d.K_ c) λl=>U1 (lpO (q6h A) (a,b,c,0,kr d,e,i,kr l,j)) λm=>F (λn=>f (y n)) (λ(n,o,p,r,s,t,u,v)=>U1 (za u.K_ 0) λw=>U1 (A (kr w,n)) λ(z,B)=>ite (!B) (U1 (za u.K_ 0) λC=>f (y (C.a_,31,lit [],lit [],0,0))) (U1 (lpO (q6i A) (n,o,p,0,kr r,s,t,kr u,z,v)) λD=>F (λE=>f (y E)) (λ(E,G,H,I,J,K,L,P,Q)=>U1 (zo 32 Q [qi.mk L.T_ P.M_ P.t_]) λR=>f (M (E,G,H,kr I,J,K,R))) D)) m) λl=>F (λm=>f (Step.done (y m))) (λ(m,n,o,p,r,s,t)=>f (Step.next (m,n,U4 (o+1),kr p,(r,s,t)))) l) (f (Step.done (M (a,b,kr d,(e,i,j)))))
def qb2(A:zjV)(x:wH):U3 (qj×zH):=ite (q (8 < U4 (x.1.K_.len - 2))) (f (qj.mk (lit []) (O [] N) (qi.mk (lit []) 0 0),x.1.a_,22)) (U1 (lpO (q6j A) (x.2,U4 (x.1.K_.len - 2),0,kr x.1,(lit [],lit [],0,0),(x.1.T_,lit [],0,0),O [] N)) λa=>F (λ(b,c,d,e,i,j)=>f (qj.mk d (O [] N) (qi.mk e i j),b,c)) (λ(b,c,d,_,e,i)=>U1 (za d.K_ c) λj=>U1 (A (kr j,b)) λ(l,m)=>ite (!m) (U1 (za d.K_ c) λn=>f (qj.mk (lit []) (O [] N) (qi.mk (lit []) 0 0),n.a_,31)) (f (qj.mk e.1 i l,0,0))) a)
def q4k:wH->U3 (qj×zH):=qb2 q2d
theorem qkk:q4k=ztk.F:=by delta q4k;rw[qjz];kernel_rfl
def q5z(A:zv7):Ui×Int×q6×Sl qj->U3 (Step (Ui×Int×q6×Sl qj) (zH⊕Sl qj)):=λ(a,b,c,d)=>ite (q (b < c.K_.len)) (U1 (U1 (za c.K_ b) λe=>ite (q (e.k_≠6)) (f (y (a,b,kr c,d))) (U1 (za c.K_ b) λi=>U1 (A (kr i,a)) λ(j,l,m)=>ite (q (m≠0)) (f (M (l,m))) (U1 (zo 72 d [j]) λn=>f (y (a,b,kr c,n))))) λe=>F (λ(i,j,l,m)=>f (Step.next (i,U4 (j+1),kr l,m))) (λi=>f (Step.done (y i))) e) (f (Step.done (M d)))
def qa1(A:zv7)(x:wH):U3 (Int×Int×Sl qj):=U1 (lpO (q5z A) (x.2,0,kr x.1,O [] N)) λa=>F (λ(b,c)=>f (b,c,O [] N)) (λb=>f (0,0,b)) a
def q2y:wH->U3 (Int×Int×Sl qj):=qa1 q4k
theorem qk0:q2y=ztl.F:=by delta q2y;rw[qkk];kernel_rfl
def q4u(A:zeK)(B:zjW)(C:zv1)(D:zeL)(E:zjX)(G:zv2):Int×Int×Uh×Int×Int×Sl qf×q6×Sl qj×(Um×Ui)×Uh×Uj->U3 (Step (Int×Int×Uh×Int×Int×Sl qf×q6×Sl qj×(Um×Ui)×Uh×Uj) (Int×Int×Sl qf×Sl qj×(Um×Ui)×Uh×Uj)):=λ(a,b,c,d,e,i,j,l,m,n,o)=>ite (q (e < d)) (U1 (za c e) λp=>U1 (ite (q (p.k_=6)) (U1 (zo 64 n [ke p]) λr=>U1 (za j.K_ e) λs=>U1 (zo 64 o [kr s]) λt=>f (a,b,c,d,e,i,kr j,l,m,r,t)) (f (a,b,c,d,e,i,kr j,(l,m,n,o)))) λ(r,s,t,u,v,w,z,H,I,J,K)=>f (Step.next (r,s,t,u,U4 (v+1),w,kr z,(H,I,J,K)))) (f (Step.done (a,b,i,(l,m,n,o))))
def q7x(A:zeK)(B:zjW)(C:zv1)(D:zeL)(E:zjX)(G:zv2)(x:Zr):U3 (q13×Bool):=U1 (A x) λ(a,_,b)=>ite (q (b≠0)) (f (q13.mk (O [] N) (O [] N) (O [] N) (O [] N) (O [] N) (O [] N),N)) (U1 (B (ke a)) λ(_,c,d)=>U1 (C (ke a,d)) λ(_,e,i)=>U1 (D x) λ(j,_,_)=>U1 (E (kr j)) λ(_,_,l)=>U1 (G (kr j,l)) λ(_,_,m)=>U1 (lpO (q4u A B C D E G) (c,e,a.K_,a.K_.len,0,i,kr j,m,(d,l),O [] N,O [] N)) λ(n,o,p,r,s,t,u)=>U1 (ite (q (n=0)) (ite (q (o=0)) (ite (q (Sl.len p=Sl.len t)) (f (q (Sl.len r=Sl.len t),s,t,p,u,r)) (f (N,s,t,p,u,r))) (f (N,s,t,p,u,r))) (f (N,s,t,p,u,r))) λ(v,w,z,H,I,J)=>f (q13.mk z w.1 H I w.2 J,v))
def q3f:zjZ:=q7x q6d q75 q7p q2s q38 q2y
theorem qi5:q3f=ztm.F:=by delta q3f;rw[<-qiz,<-qm2,qmf,qgf,qja,qk0];kernel_rfl
def qdc(x:zjH):U3 x7:=ite (!x.1) (f (y ((x.2.2.1.2.2,x.2.1),x.2.2))) (f (M x.2.2))
def q3k:zjH->U3 x7:=qdc
theorem qgz:q3k=zlo.F:=jO
def qbv(A:zuQ)(x:zqa):U3 x7:=U1 (A (x.2.1,x.2.2.1,(x.2.2.2.1.1,x.2.2.2.1.2.1,x.1.a_),x.2.2.2.2)) λa=>F (λb=>f (y b)) (λb=>f (M b)) a
def q29:zqa->U3 x7:=qbv q3k
theorem qfi:q29=zo0.F:=by delta q29;rw[qgz];kernel_rfl
def qeu(x:zkc):U3 Z6:=f (q (x.1.N_=x.2),x.2)
def q82:zkc->U3 Z6:=qeu
theorem qlh:q82=zo1.F:=jO
def q6u(A:zvY):Sl qh×Int×yD->U3 (Step (Sl qh×Int×yD) zaM):=λ(a,b,c,d)=>ite (q (c < b)) (U1 (za a c) λe=>U1 (A (e,d)) λ(i,j)=>ite i (f (Step.done (y (c,j)))) (f (Step.next (a,b,U4 (c+1),j)))) (f (Step.done (M d)))
def qei(A:zvY)(x:zj8):U3 yD:=U1 (lpO (q6u A) (x.1,Sl.len x.1,0,x.2)) λa=>F (λb=>f b) (λb=>f (-1,b)) a
def qcg:zj8->U3 yD:=qei q82
theorem ql1:qcg=ztn.F:=by delta qcg;rw[qlh];kernel_rfl
def qfw(A:zj8->U3 yD)(x:qe×U0):Uc:=U1 (A (x.1.V_,x.2)) λ(a,_)=>f a
def q1s:vw:=qfw qcg
theorem q81:q1s=zch.F:=by delta q1s;rw[ql1];kernel_rfl
def q4q(A:zmr)(B:vw)(C:zcN)(D:zuQ):Int×Uh×Int×Int×Us×Ux×q8×zz×zz×Sl qh->U3 (Step (Int×Uh×Int×Int×Us×Ux×q8×zz×zz×Sl qh) zzC):=λ(a,b,c,d,e,i,j,l,m,n)=>ite (q (d < c)) (U1 (U1 (za b d) λo=>U1 (za o.K_ 0) λp=>U1 (B (qe.mk m.1 m.2 n,o.T_)) λr=>U1 (A (ke o,q (r < 0),30,e,i)) λs=>F (λt=>f (y t)) (λt=>U1 (ite (q (p.T_=lit [105,110,116])) (U1 (A (ke p,g,34,t)) λu=>F (λv=>f (y v)) (λ(v,w)=>f (M (a,b,c,d,v,w,ke j,l,m,ke o,ke p,n))) u) (U1 (A (ke p,q (p.T_=lit [111,119,110]),34,t)) λv=>F (λw=>f (y w)) (λ(w,z)=>f (M (a,b,c,d,w,z,ke j,l,m,ke o,ke p,n))) v)) λu=>F (λv=>f (y v)) (λ(v,w,z,E,G,H,I,J,K,L,P,Q)=>U1 (ite (q (P.T_=lit [111,119,110])) (U1 (za P.K_ 0) λR=>U1 (C (G.2.1,R.T_)) λS=>U1 (D (q (0<=S),31,G,H)) λT=>F (λU=>f (y U)) (λ(U,W)=>f (M (v,w,z,E,U,W,ke I,J,K,qh.mk L.T_ 2 S,Q))) T) (f (M (v,w,z,E,G,H,ke I,J,K,qh.mk L.T_ 1 0,Q)))) λR=>F (λS=>f (y S)) (λ(S,T,U,W,X,x,a2,a3,a4,a5,h)=>U1 (zo 32 h [a5]) λk=>f (M (S,T,U,W,X,x,ke a2,a3,a4,k))) R) u) s) λo=>F (λp=>f (Step.done (y p))) (λ(p,r,s,t,u,v,w,z,E,G)=>f (Step.next (p,r,s,U4 (t+1),u,v,ke w,(z,E,G)))) o) (f (Step.done (M (a,e,i,ke j,(l,m,n)))))
def qa2(A:zmr)(B:vw)(C:zcN)(D:zuQ)(x:zqm):U3 zmv:=U1 (A (ke x.1,q (U4 (x.1.K_.len - 2)<=8),22,x.2)) λa=>F (λb=>f (y b)) (λ(b,c)=>U1 (z7 x.1.K_ 0 (U4 (x.1.K_.len - 2))) λd=>U1 (lpO (q4q A B C D) (U4 (x.1.K_.len - 2),d,d.len,0,b,c,ke x.1,(lit [],0),(x.1.T_,U4 (x.1.K_.len - 2)),O [] N)) λe=>F (λi=>f (y i)) (λ(i,j,l,m,_,n,o)=>U1 (za m.K_ i) λp=>U1 (za m.K_ i) λr=>U1 (A (ke p,q (r.T_=lit []),35,j,l)) λs=>F (λt=>f (y t)) (λ(t,u)=>f (M (n,t,u,o))) s) e) a
def q3l:zqm->U3 zmv:=qa2 q29 q1s q2i q3k
theorem qk1:q3l=zto.F:=by delta q3l;rw[qfi,q81,qch,qgz];kernel_rfl
def qbw(x:zjB):U3 zQ:=ite (!x.1) (f (y ((x.2.2.1.2.2.1,x.2.1),x.2.2))) (f (M x.2.2))
def q16:zjB->U3 zQ:=qbw
theorem q35:q16=Wt.F:=jO
def q8w(A:vw)(B:vg)(x:zqb):U3 vi:=U1 (za x.2.2 x.2.1.2.2.2) λa=>U1 (za x.2.2 x.2.1.2.2.2) λb=>U1 (A (qe.mk a.N_ a.P_ b.V_,x.1)) λc=>U1 (B (q (0<=c),31,x.2)) λd=>F (λe=>f (y e)) (λe=>U1 (za e.2 e.1.2.2.2) λi=>U1 (za e.2 e.1.2.2.2) λj=>U1 (za j.V_ c) λl=>U1 (za e.2 e.1.2.2.2) λm=>U1 (za m.V_ c) λn=>f (M (qh.mk (lit []) n.M_ n.t_,e))) d
def q4r:zqb->U3 vi:=q8w q1s q16
theorem qgg:q4r=zo2.F:=by delta q4r;rw[q81,q35];kernel_rfl
def qbx(x:qf×q8):U3 (Bool×q8):=f (q (x.1.N_=x.2.T_),ke x.2)
def q5h:zwd:=qbx
theorem qil:q5h=zo3.F:=jO
def q83(A:zwd):Sl qf×Int×Int×q8->U3 (Step (Sl qf×Int×Int×q8) (Int×q8⊕q8)):=λ(a,b,c,d)=>ite (q (c < b)) (U1 (za a c) λe=>U1 (A (e,ke d)) λ(i,j)=>ite i (f (Step.done (y (c,ke j)))) (f (Step.next (a,b,U4 (c+1),ke j)))) (f (Step.done (M (ke d))))
def qcx(A:zwd)(x:Sl qf×q8):U3 (Int×q8):=U1 (lpO (q83 A) (x.1,Sl.len x.1,0,ke x.2)) λa=>F (λ(b,c)=>f (b,ke c)) (λb=>f (-1,ke b)) a
def q8o:Sl qf×q8->U3 (Int×q8):=qcx q5h
theorem qlr:q8o=ztp.F:=by delta q8o;rw[qil];kernel_rfl
def qb4(A:vg)(B:zzw)(x:zqg):U3 zQ:=ite (q (x.1.T_=lit [])) (U1 (A (q (x.2.1.M_=1),40,x.2.2)) λa=>F (λb=>f (y b)) (λb=>f (M b)) a) (U1 (B (x.1.T_,x.2.2)) λb=>F (λc=>f (y c)) (λ(c,d,e)=>U1 (ite (q (x.2.1.M_=1)) (U1 (A (q (c.M_=1),40,(d,e))) λi=>F (λj=>f (y j)) (λj=>f (M j)) i) (U1 (ite (q (x.2.1.M_=3)) (f (q (c.M_=4),d,e,ke x.1,x.2.1,c)) (f (N,d,e,ke x.1,x.2.1,c))) λ(j,l,m,n,o,p)=>U1 (ite j (U1 (ite (q (n.n_=0)) (U1 (A (q (p.t_=o.t_),40,l,m)) λr=>F (λs=>f (y s)) (λs=>f (M s)) r) (U1 (A (N,40,l,m)) λs=>F (λt=>f (y t)) (λt=>f (M t)) s)) λr=>F (λs=>f (y s)) (λs=>f (M s)) r) (U1 (ite (q (n.n_=0)) (ite (q (p.M_=o.M_)) (U1 (A (q (p.t_=o.t_),40,l,m)) λs=>F (λt=>f (y t)) (λt=>f (M t)) s) (U1 (A (N,40,l,m)) λt=>F (λu=>f (y u)) (λu=>f (M u)) t)) (U1 (A (N,40,l,m)) λu=>F (λv=>f (y v)) (λv=>f (M v)) u)) λs=>F (λt=>f (y t)) (λt=>f (M t)) s)) λr=>F (λs=>f (y s)) (λs=>f (M s)) r)) λi=>F (λj=>f (y j)) (λj=>f (M j)) i) b)
def q1k:zqg->U3 zQ:=qb4 q16 q4r
theorem qel:q1k=zfF.F:=by delta q1k;rw[q35,qgg];kernel_rfl
def q7g(A:vg)(B:zfU):Sl qh×Uh×Int×Int×GW->U3 (Step (Sl qh×Uh×Int×Int×GW) zQ):=λ(a,b,c,d,e,i)=>ite (q (d < c)) (U1 (za b d) λj=>U1 (za a d) λl=>U1 (B (ke j,l,(e,i))) λm=>F (λn=>f (Step.done (y n))) (λn=>f (Step.next (a,b,c,U4 (d+1),n))) m) (f (Step.done (M (e,i))))
def qa3(A:vg)(B:zfU)(x:zjA):U3 zQ:=U1 (A (q (Sl.len x.1=Sl.len x.2.1),51,x.2.2)) λa=>F (λb=>f (y b)) (λb=>U1 (lpO (q7g A B) (x.2.1,x.1,Sl.len x.1,0,b)) λc=>F (λd=>f (y d)) (λd=>f (M d)) c) a
def q6k:zjA->U3 zQ:=qa3 q16 q1k
theorem qk2:q6k=ztq.F:=by delta q6k;rw[q35,qel];kernel_rfl
def qa4(A:Sl qf×q8->U3 (Int×q8))(B:vg)(C:zjA->U3 zQ)(x:zeH):U3 vi:=U1 (A (x.2.1.1,ke x.1)) λ(a,b)=>U1 (B (q (0<=a),31,x.2)) λc=>F (λd=>f (y d)) (λd=>U1 (za d.1.1 a) λe=>U1 (C (b.K_,e.P_,d)) λi=>F (λj=>f (y j)) (λj=>U1 (za j.1.1 a) λl=>f (M (l.R_,j))) i) c
def q26:zeH->U3 vi:=qa4 q8o q16 q6k
theorem qh0:q26=zhU.F:=by delta q26;rw[qlr,q35,qk2];kernel_rfl
def qa5(A:zzw)(B:vg)(C:zpP)(x:zeH):U3 zpV:=U1 (ite (q (x.1.k_=5)) (ite (q (x.1.T_=lit [])) (f (y (x.2.1,x.2.2,qh.mk (lit []) 1 0))) (U1 (A (x.1.T_,x.2)) λa=>F (λb=>f (M (y b))) (λ(b,c,d)=>U1 (ite (q (x.1.n_=0)) (U1 (B (g,40,(c,d))) λe=>F (λi=>f (y i)) (λ(i,j)=>f (M (i,j,qh.mk (lit []) 0 0,b))) e) (U1 (B (q (b.M_=1),40,(c,d))) λi=>F (λj=>f (y j)) (λ(j,l)=>f (M (j,l,qh.mk (lit []) 0 0,b))) i)) λe=>F (λi=>f (M (y i))) (λ(i,j,_,l)=>f (y (i,j,l))) e) a)) (U1 (ite (q (x.1.k_=21)) (f (x.1.k_,q (x.1.k_=21),x.2.1,x.2.2,ke x.1,qh.mk (lit []) 0 0,qh.mk (lit []) 1 0)) (f (x.1.k_,q (x.1.k_=22),x.2.1,x.2.2,ke x.1,qh.mk (lit []) 0 0,qh.mk (lit []) 1 0))) λ(b,c,d,e,i,j,l)=>U1 (ite c (U1 (U1 (za i.K_ 0) λm=>U1 (za i.K_ 1) λn=>U1 (A (m.T_,d,e)) λo=>F (λp=>f (y p)) (λ(p,r,s)=>U1 (A (n.T_,(r,s))) λt=>F (λu=>f (y u)) (λ(u,v,w)=>f (M (v,w,j,l,p,u))) t) o) λm=>F (λn=>f (y n)) (λ(n,o,p,r,s,t)=>U1 (ite (q (s.M_=1)) (U1 (B (q (t.M_=1),40,n,o)) λu=>F (λv=>f (y v)) (λ(v,w)=>f (M (v,w,p,r))) u) (U1 (B (N,40,n,o)) λv=>F (λw=>f (y w)) (λ(w,z)=>f (M (w,z,p,r))) v)) λu=>F (λv=>f (y v)) (λ(v,w,_,z)=>f (M (y (v,w,z)))) u) m) (U1 (ite (q (b=26)) (f (b,q (b=26),d,e,ke i,(j,l))) (f (b,q (b=27),d,e,ke i,(j,l)))) λ(n,o,p,r,s,t,u)=>U1 (ite o (U1 (A (s.T_,p,r)) λv=>F (λw=>f (y w)) (λ(w,z,D)=>U1 (B (q (w.M_=2),40,(z,D))) λE=>F (λG=>f (y G)) (λ(G,H)=>U1 (ite (q (s.k_=27)) (f (G,H,t,qh.mk w.N_ 4 w.t_)) (f (G,H,t,qh.mk w.N_ 3 w.t_))) λ(I,J,_,K)=>f (M (y (I,J,K)))) E) v) (U1 (ite (q (n=28)) (U1 (C (ke s,p,r)) λw=>F (λz=>f (y z)) (λ(z,D,E)=>U1 (B (q (z.M_≠0),35,(D,E))) λG=>F (λH=>f (y H)) (λ(H,I)=>f (M (y (H,I,z)))) G) w) (f (M (M (p,r,(t,u)))))) λw=>F (λz=>f (y z)) (λz=>F (λD=>f (M (y D))) (λD=>f (M (M D))) z) w)) λv=>F (λw=>f (y w)) (λw=>F (λz=>f (M (y z))) (λz=>f (M (M z))) w) v)) λm=>F (λn=>f (M (y n))) (λn=>F (λo=>f (y o)) (λo=>f (M (M o))) n) m)) λa=>F (λ(b,c,d)=>f (y (d,b,c))) (λb=>F (λc=>f (M c)) (λ(c,d,_,e)=>U1 (B (N,50,c,d)) λi=>F (λj=>f (M j)) (λj=>f (y (e,j))) i) b) a
def q2e:zeH->U3 zpV:=qa5 q4r q16 q26
theorem qk3:q2e=zlp.F:=by delta q2e;rw[qgg,q35,qh0];kernel_rfl
def qb5(A:vw)(B:vg)(x:zp8):U3 zQ:=U1 (za x.2.2.2 x.2.2.1.2.2.2) λa=>U1 (za x.2.2.2 x.2.2.1.2.2.2) λb=>U1 (A (qe.mk a.N_ a.P_ b.V_,x.1)) λc=>ite (q (0<=c)) (U1 (za x.2.2.2 x.2.2.1.2.2.2) λd=>U1 (za x.2.2.2 x.2.2.1.2.2.2) λe=>U1 (za e.V_ c) λi=>U1 (za x.2.2.2 x.2.2.1.2.2.2) λj=>U1 (za j.V_ c) λl=>U1 (B (q (l.N_=x.1) && (q (l.M_=x.2.1.M_) && (q (l.t_=x.2.1.t_) && g)),40,x.2.2)) λm=>F (λn=>f (y n)) (λn=>f (M n)) m) (U1 (za x.2.2.2 x.2.2.1.2.2.2) λn=>U1 (za x.2.2.2 x.2.2.1.2.2.2) λo=>U1 (zo 32 o.V_ [qh.mk x.1 x.2.1.M_ x.2.1.t_]) λp=>U1 (za x.2.2.2 x.2.2.1.2.2.2) λr=>bif q (x.2.2.1.2.2.2=x.2.2.1.2.2.2) then f (M (x.2.2.1,Sl.set x.2.2.2 x.2.2.1.2.2.2 (qe.mk r.N_ r.P_ p))) else Y)
def q3c:zp8->U3 zQ:=qb5 q1s q16
theorem qkl:q3c=zlq.F:=by delta q3c;rw[q81,q35];kernel_rfl
def qbh(x:qe×q8):Uk:=f (q (x.1.N_=x.2.T_))
def q52:qe×q8->Uk:=qbh
theorem qi6:q52=zo4.F:=jO
def q7h(A:qe×q8->Uk):Int×Int×Ux×q8->U3 (Step (Int×Int×Ux×q8) zwc):=λ(a,b,c,d)=>ite (q (b < a)) (U1 (za c b) λe=>U1 (za c b) λi=>U1 (za c b) λj=>U1 (A (qe.mk i.N_ i.P_ j.V_,ke d)) λl=>ite l (f (Step.done (y (b,c,ke d)))) (f (Step.next (a,U4 (b+1),c,ke d)))) (f (Step.done (M (c,ke d))))
def qc7(A:qe×q8->Uk)(x:Ux×q8):U3 (Int×Ux×q8):=U1 (lpO (q7h A) (Sl.len x.1,0,x.1,ke x.2)) λa=>F (λ(b,c,d)=>f (b,c,ke d)) (λ(b,c)=>f (-1,b,ke c)) a
def q46:zqi:=qc7 q52
theorem qli:q46=zlr.F:=by delta q46;rw[qi6];kernel_rfl
def q6n(A:vg)(B:zfU):(Int×zH)×Uh×Int×Int×GW->U3 (Step ((Int×zH)×Uh×Int×Int×GW) zQ):=λ(a,b,c,d,e,i)=>ite (q (d < c)) (U1 (za b d) λj=>U1 (za i a.1) λl=>U1 (z7 l.V_ a.2.1 a.2.2) λm=>U1 (za m d) λn=>U1 (za i a.1) λo=>U1 (za o.V_ (a.2.1+d)) λp=>U1 (B (ke j,p,(e,i))) λr=>F (λs=>f (Step.done (y s))) (λs=>f (Step.next (a,b,c,U4 (d+1),s))) r) (f (Step.done (M (e,i))))
def q8a(A:vg)(B:zfU)(x:zp2):U3 zQ:=U1 (za x.2.2.2 x.2.1.1) λa=>U1 (z7 a.V_ x.2.1.2.1 x.2.1.2.2) λb=>U1 (A (q (Sl.len x.1=x.2.1.2.2 - x.2.1.2.1),51,x.2.2)) λc=>F (λd=>f (y d)) (λd=>U1 (lpO (q6n A B) (x.2.1,x.1,Sl.len x.1,0,d)) λe=>F (λi=>f (y i)) (λi=>f (M i)) e) c
def q25:zp2->U3 zQ:=q8a q16 q1k
theorem qim:q25=zls.F:=by delta q25;rw[q35,qel];kernel_rfl
def q5i(A:zuO)(B:zuL)(C:zpP)(D:zqi)(E:vg)(G:tA9)(H:zfU)(I:zih):Uh×Int×Int×WE->U3 (Step (Uh×Int×Int×WE) zd3):=λ(a,b,c,d,e,i,j,l,m)=>ite (q (i < e)) (U1 (za d i) λn=>U1 (I (n.K_,j,l)) λo=>F (λp=>f (Step.done (y p))) (λ(p,r)=>f (Step.next (a,b,c,d,e,U4 (i+1),p,r,m))) o) (f (Step.done (M (a,b,c,(j,l,m)))))
def q2a(A:zuO)(B:zuL)(C:zpP)(D:zqi)(E:vg)(G:tA9)(H:zfU)(I:zih):WE->U3 (Step WE zQ):=λ(a,b,c,d,e,i)=>ite (q (c < b)) (U1 (za a c) λj=>U1 (ite (q (j.k_=10)) (U1 (U1 (za j.K_ 0) λl=>U1 (A (ke l,(d.1,d.2.1,j.a_,d.2.2.2),e)) λm=>F (λn=>U1 (B (j.T_,n)) λo=>F (λp=>f (y p)) (λ(p,r)=>f (M (a,b,c,p,r,i))) o) (λn=>f (y n)) m) λl=>F (λm=>f (y m)) (λm=>f (M m)) l) (U1 (ite (q (j.k_=20)) (U1 (za j.K_ 0) λm=>U1 (C (ke m,(d.1,d.2.1,j.a_,d.2.2.2),e)) λn=>F (λo=>f (y o)) (λ(_,o,p)=>f (M (a,b,c,o,p,i))) n) (U1 (ite (q (j.k_=19)) (U1 (D (e,ke j)) λ(o,p,r)=>U1 (E (q (0<=o),31,(d.1,d.2.1,j.a_,d.2.2.2),p)) λs=>F (λt=>f (y t)) (λt=>U1 (za t.2 o) λu=>U1 (za t.2 o) λv=>U1 (za t.2 o) λw=>U1 (za t.2 o) λz=>U1 (za t.2 o) λJ=>U1 (z7 J.V_ 0 z.P_) λK=>U1 (G (r.K_,(o,0,z.P_),t)) λL=>F (λP=>f (y P)) (λ(P,Q)=>f (M (a,b,c,P,Q,i))) L) s) (U1 (ite (q (j.k_=15)) (f (a,b,c,j.k_,q (j.k_=15),(d.1,d.2.1,j.a_,d.2.2.2),e,i,ke j)) (f (a,b,c,j.k_,q (j.k_=16),(d.1,d.2.1,j.a_,d.2.2.2),e,i,ke j))) λ(t,u,v,w,z,J,K,L,P)=>U1 (ite z (U1 (za P.K_ 0) λQ=>U1 (H (ke Q,L,J,K)) λR=>F (λS=>f (y S)) (λS=>U1 (za P.K_ 1) λT=>U1 (H (ke T,L,S)) λU=>F (λW=>f (y W)) (λ(W,X)=>U1 (z7 P.K_ 2 P.K_.len) λh=>U1 (lpO (q5i A B C D E G H I) (t,u,v,h,h.len,0,W,X,L)) λa2=>F (λa3=>f (y a3)) (λa3=>f (M a3)) a2) U) R) (U1 (ite (q (w=17)) (U1 (E (q (P.K_.len=0),35,J,K)) λS=>F (λT=>f (y T)) (λ(T,U)=>f (M (t,u,v,T,U,L))) S) (U1 (ite (q (w=18)) (f (y (t,u,v,J,K,L))) (U1 (E (N,50,J,K)) λT=>F (λU=>f (M U)) (λ(U,W)=>f (y (t,u,v,U,W,L))) T)) λT=>F (λU=>f (M U)) (λU=>f (y U)) T)) λS=>F (λT=>f (y T)) (λT=>f (M T)) S)) λQ=>F (λR=>f (y R)) (λR=>f (M R)) Q)) λo=>F (λp=>f (y p)) (λp=>f (M p)) o)) λm=>F (λn=>f (y n)) (λn=>f (M n)) m)) λl=>F (λm=>f (Step.done (y m))) (λ(m,n,o,p,r,s)=>f (Step.next (m,n,U4 (o+1),(p,r,s)))) l) (f (Step.done (M (d,e))))
def q72(A:zuO)(B:zuL)(C:zpP)(D:zqi)(E:vg)(G:tA9)(H:zfU)(I:zih)(x:zvW):U3 zQ:=U1 (lpO (q2a A B C D E G H I) (x.1,Sl.len x.1,0,x.2.1,x.2.2,qh.mk (lit []) 1 0)) λa=>F (λb=>f (y b)) (λb=>f (M b)) a
def q5l(h:zcE):zcE:=q72 q2e q3c q26 q46 q16 q25 q1k h
theorem qin(h:zcE):@Eq zcE (zji h) (q5l h):=by delta q5l;rw[qk3,qkl,qh0,qli,q35,qim,qel];kernel_rfl
def q2n:Nat->zvW->U3 zQ
 |0=>λ_=>Y
 |k+1=>q5l (q2n k)
theorem qfj:∀k,@Eq zcE (zgC k) (q2n k)
 |0=>rfl
 |k+1=>(qin (zgC k)).trans (congrArg q5l (qfj k))
def q44:zcE:=q2n 100000
theorem qjb:@Eq zcE zys q44:=qfj 100000
def qfs(x:q8):U3 q8:=ite (q (x.K_.len=0)) (f (q8.mk 0 (lit []) 0 0 (O [] N))) (U1 (za x.K_ 0) λa=>f (ke a))
def q7w:zkd:=qfs
theorem qma:q7w=zhV.F:=jO
def qhz(x:q8):U3 qz:=f (qz.mk x.T_ x.n_)
def qbd:zcS:=qhz
theorem qio:qbd=zhW.F:=jO
def qhc(A:zcS)(x:q8×Int):U3 qz:=ite (q (x.1.K_.len<=x.2)) (f (qz.mk (lit []) 0)) (U1 (za x.1.K_ x.2) λa=>U1 (A (ke a)) λb=>f b)
def q39:zqt:=qhc qbd
theorem qk4:q39=zci.F:=by delta q39;rw[qio];kernel_rfl
def qeq(A:zcS):Uh×Int×Int×Sl qz->U3 (Step (Uh×Int×Int×Sl qz) (Sl qz)):=λ(a,b,c,d)=>ite (q (c < b)) (U1 (za a c) λe=>U1 (A (ke e)) λi=>U1 (zo 24 d [i]) λj=>f (Step.next (a,b,U4 (c+1),j))) (f (Step.done d))
def qi0(A:zcS)(x:q8):U3 (Sl qz):=U1 (lpO (qeq A) (x.K_,x.K_.len,0,O [] N)) λa=>f a
def qco:zj5:=qi0 qbd
theorem qlo:qco=zhX.F:=by delta qco;rw[qio];kernel_rfl
def qcv(x:qm×Sl qm):U3 Vk:=U1 (zo 136 x.2 [x.1]) λa=>f (U4 (a.len - 1),a)
def q2w:qm×Sl qm->U3 Vk:=qcv
theorem qdy:q2w=VU.F:=jO
def qcw(A:zqt)(B:zj5)(C:zcS)(D:zhe)(x:zka):U3 (Sl qm):=U1 (ite (q (x.2.1.k_=21)) (f (x.2.1.k_,q (x.2.1.k_=21),x.2.2,ke x.2.1,0,x.1.a_,x.1.T_,lit [],lit [],0,lit [],0,0,N)) (f (x.2.1.k_,q (x.2.1.k_=22),x.2.2,ke x.2.1,0,x.1.a_,x.1.T_,lit [],lit [],0,lit [],0,0,N))) λa=>U1 (ite a.2.1 (U1 (A (ke a.2.2.2.1,0)) λb=>U1 (A (ke a.2.2.2.1,1)) λc=>f (a.2.2.1,(U4 (1+U4 (a.2.2.2.1.k_ - 21)),a.2.2.2.2.2.1,a.2.2.2.2.2.2.1,a.2.2.2.2.2.2.2.1,b.N_,b.n_,c.N_,c.n_,a.2.2.2.2.2.2.2.2.2.2.2.2),O [] N)) (U1 (ite (q (a.1=23)) (f (a.2.2.1,(3,a.2.2.2.2.2.1,a.2.2.2.2.2.2.1,a.2.2.2.2.2.2.2.1,lit [],a.2.2.2.1.n_,a.2.2.2.2.2.2.2.2.2.2),O [] N)) (U1 (ite (q (a.1=24)) (f (a.2.2.1,(4,a.2.2.2.2.2.1,a.2.2.2.2.2.2.1,a.2.2.2.2.2.2.2.1,a.2.2.2.1.T_,0,a.2.2.2.2.2.2.2.2.2.2),O [] N)) (U1 (ite (q (a.1=25)) (U1 (A (ke a.2.2.2.1,0)) λd=>f (a.2.2.1,(5,a.2.2.2.2.2.1,a.2.2.2.2.2.2.1,a.2.2.2.1.T_,d.N_,d.n_,a.2.2.2.2.2.2.2.2.2.2),O [] N)) (U1 (ite (q (a.1=28)) (U1 (B (ke a.2.2.2.1)) λe=>f (a.2.2.1,(12,a.2.2.2.2.2.1,a.2.2.2.2.2.2.1,a.2.2.2.1.T_,a.2.2.2.2.2.2.2.2),e)) (U1 (ite (q (a.1=26)) (f (q (a.1=26),a.2.2.1,ke a.2.2.2.1,a.2.2.2.2)) (f (q (a.1=27),a.2.2.1,ke a.2.2.2.1,a.2.2.2.2))) λi=>U1 (ite i.1 (f (i.2.1,i.2.2.2.1,i.2.2.2.2.1,i.2.2.2.2.2.1,i.2.2.2.2.2.2.1,i.2.2.1.T_,0,i.2.2.2.2.2.2.2.2.2)) (U1 (C (ke i.2.2.1)) λj=>f (i.2.1,i.2.2.2.1,i.2.2.2.2.1,i.2.2.2.2.2.1,i.2.2.2.2.2.2.1,j.N_,j.n_,i.2.2.2.2.2.2.2.2.2))) λj=>f (j.1,j.2,O [] N))) λe=>f e)) λd=>f d)) λd=>f d)) λd=>f d)) λb=>U1 (D (qm.mk b.2.1.1 b.2.1.2.1 b.2.1.2.2.1 b.2.1.2.2.2.1 (qz.mk b.2.1.2.2.2.2.1 b.2.1.2.2.2.2.2.1) (qz.mk b.2.1.2.2.2.2.2.2.1 b.2.1.2.2.2.2.2.2.2.1) b.2.2 b.2.1.2.2.2.2.2.2.2.2.1 b.2.1.2.2.2.2.2.2.2.2.2,b.1)) λc=>f c.2
def q77:zka->U3 (Sl qm):=qcw q39 qco qbd q2w
theorem qls:q77=zlt.F:=by delta q77;rw[qk4,qlo,qio,qdy];kernel_rfl
def q57(A:zqt)(B:zhe)(C:zeP)(x:q8×Sl qm):U3 (Sl qm):=ite (q (x.1.K_.len < 3)) (f x.2) (U1 (A (ke x.1,0)) λa=>U1 (A (ke x.1,1)) λb=>U1 (B (qm.mk 10 x.1.a_ x.1.T_ (lit []) a b (O [] N) 0 N,x.2)) λ(c,d)=>U1 (za x.1.K_ 2) λe=>U1 (C (ke e,d)) λi=>U1 (B (qm.mk 11 x.1.a_ (lit []) (lit []) (qz.mk (lit []) 0) (qz.mk (lit []) 0) (O [] N) c N,i)) λ(j,l)=>U1 (za l c) λm=>U1 (za l c) λn=>U1 (ite (q (x.1.k_=15)) (f (j,q (3 < x.1.K_.len),ke x.1,Sl.set l c (qm.mk n.O_ n.a_ n.X_ n.Y_ n.A_ n.B_ n.Q_ (Sl.len l) n.h_))) (f (j,N,ke x.1,Sl.set l c (qm.mk n.O_ n.a_ n.X_ n.Y_ n.A_ n.B_ n.Q_ (Sl.len l) n.h_)))) λ(o,p,r,s)=>U1 (ite p (U1 (za r.K_ 3) λt=>U1 (C (ke t,s)) λu=>U1 (za u o) λv=>U1 (za u o) λw=>f (u.set o (qm.mk w.O_ w.a_ w.X_ w.Y_ w.A_ w.B_ w.Q_ u.len w.h_))) (f s)) λt=>f t)
def q2q(h:yO):yO:=q57 q39 q2w h
theorem qh1(h:yO):@Eq yO (zgE h) (q2q h):=by delta q2q;rw[qk4,qdy];kernel_rfl
def q64(A:zkd)(B:zka->U3 (Sl qm))(C:zeP)(D:zqt)(E:zj5)(G:zhe)(x:q8×Sl qm):U3 (Sl qm):=U1 (ite (q (x.1.k_=10)) (U1 (A (ke x.1)) λa=>U1 (B (ke x.1,ke a,x.2)) λb=>f (y b)) (U1 (ite (q (x.1.k_=15)) (f (x.1.k_,q (x.1.k_=15),x.2,ke x.1,0,x.1.a_,lit [],x.1.T_,lit [],0,lit [],0,0,N)) (f (x.1.k_,q (x.1.k_=16),x.2,ke x.1,0,x.1.a_,lit [],x.1.T_,lit [],0,lit [],0,0,N))) λ(c:zzJ)=>ite c.2.1 (U1 (C (ke c.2.2.2.1,c.2.2.1)) λd=>f (y d)) (U1 (ite (q (c.1=11)) (U1 (D (ke c.2.2.2.1,0)) λe=>U1 (D (ke c.2.2.2.1,1)) λi=>f (c.2.2.1,(6,c.2.2.2.2.2.1,c.2.2.2.2.2.2.1,c.2.2.2.2.2.2.2.1,e.N_,e.n_,i.N_,i.n_,c.2.2.2.2.2.2.2.2.2.2.2.2),O [] N)) (U1 (ite (q (c.1=12)) (f (c.2.2.1,(7,c.2.2.2.2.2),O [] N)) (U1 (ite (q (c.1=13)) (f (c.2.2.1,(8,c.2.2.2.2.2.1,c.2.2.2.2.2.2.1,c.2.2.2.2.2.2.2.1,lit [],c.2.2.2.1.n_,c.2.2.2.2.2.2.2.2.2.2),O [] N)) (U1 (ite (q (c.1=14)) (f (c.2.2.1,(9,c.2.2.2.2.2.1,c.2.2.2.2.2.2.1,c.2.2.2.2.2.2.2.1,lit [],c.2.2.2.1.n_,c.2.2.2.2.2.2.2.2.2.2),O [] N)) (U1 (ite (q (c.1=20)) (U1 (A (ke c.2.2.2.1)) λj=>U1 (A (ke c.2.2.2.1)) λl=>U1 (E (ke l)) λm=>f (c.2.2.1,(12,c.2.2.2.2.2.1,c.2.2.2.2.2.2.1,j.T_,c.2.2.2.2.2.2.2.2),m)) (U1 (ite (q (c.1=19)) (U1 (E (ke c.2.2.2.1)) λn=>f (c.2.2.1,(13,c.2.2.2.2.2),n)) (U1 (ite (q (c.1=17)) (U1 (D (ke c.2.2.2.1,0)) λo=>f (c.2.2.1,14,c.2.2.2.2.2.1,c.2.2.2.2.2.2.1,lit [],o.N_,o.n_,c.2.2.2.2.2.2.2.2.2.2.1,c.2.2.2.2.2.2.2.2.2.2.2.1,c.2.2.2.2.2.2.2.2.2.2.2.2.1,q (0 < c.2.2.2.1.K_.len))) (f (c.2.2.1,15,c.2.2.2.2.2.1,c.2.2.2.2.2.2.1,lit [],c.2.2.2.2.2.2.2.2))) λ(o:zzO)=>f (o.1,o.2,O [] N))) λ(n:vT)=>f n)) λ(j:vT)=>f j)) λ(j:vT)=>f j)) λ(j:vT)=>f j)) λ(j:vT)=>f j)) λ(e:vT)=>f (M e)))) λ(a:Sl qm⊕Sl qm×(Int×Int×U0×U0×U0×Int×U0×Int×Int×Bool)×Sl qz)=>F (λb=>f b) (λb=>U1 (G (qm.mk b.2.1.1 b.2.1.2.1 b.2.1.2.2.1 b.2.1.2.2.2.1 (qz.mk b.2.1.2.2.2.2.1 b.2.1.2.2.2.2.2.1) (qz.mk b.2.1.2.2.2.2.2.2.1 b.2.1.2.2.2.2.2.2.2.1) b.2.2 b.2.1.2.2.2.2.2.2.2.2.1 b.2.1.2.2.2.2.2.2.2.2.2,b.1)) λc=>f c.2) a
def q28(h:yO):yO:=q64 q7w q77 (q2q h) q39 qco q2w
theorem qhe(h:yO):@Eq yO (zgF h) (q28 h):=by delta q28;rw[qma,qls,<-qh1 h,qk4,qlo,qdy];kernel_rfl
def q8i(A:zeP):Uh×Int×Vk->U3 (Step (Uh×Int×Vk) (Sl qm)):=λ(a,b,c,d)=>ite (q (c < b)) (U1 (za a c) λe=>U1 (A (ke e,d)) λi=>f (Step.next (a,b,U4 (c+1),i))) (f (Step.done d))
def q8m(A:zeP)(x:q8×Sl qm):U3 (Sl qm):=U1 (lpO (q8i A) (x.1.K_,x.1.K_.len,0,x.2)) λa=>f a
def q6y(h:yO):yO:=q8m (q28 h)
theorem qkm(h:yO):@Eq yO (zjj h) (q6y h):=by delta q6y;rw[<-qhe h];kernel_rfl
def q2u:Nat->(q8×Sl qm)->U3 (Sl qm)
 |0=>λ_=>Y
 |k+1=>q6y (q2u k)
theorem qbr:∀k,@Eq yO (zcj k) (q2u k)
 |0=>rfl
 |k+1=>(qkm (zcj k)).trans (congrArg q6y (qbr k))
def q9g:yO:=q2u 100000
theorem ql2:@Eq yO zyy q9g:=qbr 100000
def qe3(A:zeP)(B:zhe):zg8->U3 (Step zg8 (U0×U0×zcT×Sl qm)):=λa=>ite (q (a.2.2.1 < a.2.1)) (U1 (za a.1 a.2.2.1) λb=>U1 (ite (q (b.k_=7)) (U1 (zo 16 a.2.2.2.2.2.1 [b.T_]) λc=>f (a.1,a.2.1,a.2.2.1,a.2.2.2.1,a.2.2.2.2.1,c,a.2.2.2.2.2.2)) (U1 (ite (q (b.k_=9)) (U1 (A (ke b,a.2.2.2.2.2.2)) λd=>U1 (B (qm.mk 14 b.a_ (lit []) (lit []) (qz.mk (lit []) 0) (qz.mk (lit []) 0) (O [] N) 0 N,d)) λ(_,e)=>f (a.1,a.2.1,a.2.2.1,a.2.2.2.1,a.2.2.2.2.1,a.2.2.2.2.2.1,e)) (f a)) λd=>f d)) λ(c,d,e,i,j,l,m)=>f (Step.next (c,d,U4 (e+1),(i,j,l,m)))) (f (Step.done a.2.2.2))
def qft(A:zeP)(B:zhe)(x:q8):U3 q1m:=ite (q (x.k_≠6)) (f (q1m.mk (lit []) (O [] N) (O [] N))) (U1 (lpO (qe3 A B) (x.K_,x.K_.len,0,lit [],x.T_,O [] N,O [] N)) λ(_,a,b,c)=>f (q1m.mk a b c))
def q5b:zcR:=qft q9g q2w
theorem ql3:q5b=zo6.F:=by delta q5b;rw[<-ql2,qdy];kernel_rfl
def qba(A:vg)(x:zp6):U3 zQ:=U1 (A (x.2.1,x.2.2.1,(x.2.2.2.1.1,x.2.2.2.1.2.1,x.1.a_,x.2.2.2.1.2.2.2),x.2.2.2.2)) λa=>F (λb=>f (y b)) (λb=>f (M b)) a
def q3w:zp6->U3 zQ:=qba q16
theorem qi4:q3w=ztt.F:=by delta q3w;rw[q35];kernel_rfl
def qdu(x:zjY):U3 Yp:=f (x.1.1,x.1.2,x.2.2.2)
def q6v:zjY->U3 Yp:=qdu
theorem qko:@Eq ((zjY)->U3 Yp) ztw q6v:=jO
def qcr(x:Yp):U3 Yp:=f x
def q61:Yp->U3 Yp:=qcr
theorem qjc:@Eq ((Yp)->U3 Yp) ztz q61:=jO
def q7i(A:zmr)(B:zuM)(C:zp4)(D:zih)(E:zcR)(G:zuK)(H:zqd):Uh×Int×Int×q8×Int×Int×GX->U3 (Step (Uh×Int×Int×q8×Int×Int×GX) zjw):=λ(a,b,c,d,e,i,j,l)=>ite (q (c < b)) (U1 (U1 (za a c) λm=>U1 (A (ke m,q (m.k_=6),50,(j,l))) λn=>F (λ(o,_,_)=>f (y (o,ke d,e,i))) (λo=>U1 (yh (U1 (B (ke m,o)) λp=>F (λ(r,_,_)=>f (y (r,ke d,e,i))) (λ(r,s,t,u)=>U1 (zo 48 t [qe.mk r.1 r.2 u]) λv=>f (M (a,b,c,ke d,e,i,s,v))) p) (U1 (B (ke m,o)) λp=>F (λ(r,_,_)=>f (y (r,ke d,e,i))) (λ(r,s,t,u)=>yh (U1 (zo 48 t [qe.mk r.1 r.2 u]) λv=>f (M (a,b,c,ke d,e,i,s,v))) (U1 (zo 48 t [qe.mk r.1 r.2 u]) λv=>f (M (a,b,c,ke d,e,i,s,v)))) p)) λp=>F (λ(r,s,t,u)=>f (y (r,ke s,(t,u)))) (λ(r,s,t,u,v,w,z,I)=>f (M (r,s,t,ke u,(v,w,z,I)))) p) n) λm=>F (λ(n,o,p,r)=>f (Step.done (y (n,ke o,(p,r))))) (λ(n,o,p,r,s,t,u,v)=>f (Step.next (n,o,U4 (p+1),ke r,(s,t,u,v)))) m) (f (Step.done (M (ke d,(e,i,j,l)))))
def q7j(A:zmr)(B:zuM)(C:zp4)(D:zih)(E:zcR)(G:zuK)(H:zqd):Uh×Int×Int×q8×Int×Int×GX->U3 (Step (Uh×Int×Int×q8×Int×Int×GX) zjw):=λ(a,b,c,d,e,i,j,l)=>ite (q (c < b)) (U1 (U1 (za a c) λm=>U1 (za l c) λn=>U1 (za m.K_ (U4 (m.K_.len - 1))) λo=>U1 (D (o.K_,(j.1,j.2.1,j.2.2,c),l)) λp=>F (λ(r,_,_)=>f (y (r,ke d,e,i))) (λr=>U1 (U1 (za r.2 r.1.2.2.2) λs=>U1 (za r.2 r.1.2.2.2) λt=>ite (q (t.V_.len<=64)) (U1 (E (ke m)) λu=>U1 (G (ke m,q (u.L_.len<=512),22,r)) λv=>F (λ(w,_,_)=>f (y (w,ke d,e,i))) (λw=>f (M (a,b,c,ke d,e,i,w))) v) (U1 (G (ke m,N,22,r)) λw=>F (λ(z,_,_)=>f (y (z,ke d,e,i))) (λz=>f (M (a,b,c,ke d,e,i,z))) w)) λs=>F (λ(t,u,v,w)=>f (y (t,ke u,(v,w)))) (λ(t,u,v,w,z,I,J,K)=>f (M (t,u,v,ke w,(z,I,J,K)))) s) p) λm=>F (λ(n,o,p,r)=>f (Step.done (y (n,ke o,(p,r))))) (λ(n,o,p,r,s,t,u,v)=>f (Step.next (n,o,U4 (p+1),ke r,s,t,(u.1,u.2.1,u.2.2.1),v))) m) (f (Step.done (M (ke d,(e,i,j,l)))))
def qez(A:zmr)(B:zuM)(C:zp4)(D:zih)(E:zcR)(G:zuK)(H:zqd)(x:zqu):U3 Yp:=U1 (lpO (q7i A B C D E G H) (x.1.K_,x.1.K_.len,0,ke x.1,0,0,(x.2.1,x.2.2,0),O [] N)) λa=>F (λ(b,_,c,d)=>U1 (C (b,c,d,O [] N)) λ(e,i,_)=>f (e,i,O [] N)) (λ(b,c,d,e,i)=>U1 (lpO (q7j A B C D E G H) (b.K_,b.K_.len,0,ke b,(c,d,e,i))) λj=>F (λ(l,_,m,n)=>U1 (C (l,m,n,O [] N)) λ(o,p,_)=>f (o,p,O [] N)) (λ(_,_,_,_,l)=>U1 (H (0,0,l)) λm=>f m) j) a
def q85:zqu->U3 Yp:=qez q29 q3l q6v q44 q5b q3w q61
theorem qm4:@Eq ((zqu)->U3 Yp) zyE q85:=by delta q85;rw[qfi,qk1,<-qko,<-qjb,ql3,qi4,<-qjc];kernel_rfl
def qab(x:zjD):U3 ZC:=U1 (ite (q (x.2.2.1.2.2.2=0)) (f ((x.2.2.1.1,x.2.2.1.2.1,x.1,x.2.1),x.2.2.2)) (f x.2.2)) λa=>f a
def q1b:zjD->U3 ZC:=qab
theorem qdz:q1b=zdH.F:=jO
def q62:U0×Int×zz×Sl qi->U3 (Step (U0×Int×zz×Sl qi) zvK):=λ(a,b,c,d)=>ite (q (b < Sl.len d)) (U1 (za d b) λe=>U1 (za d b) λi=>ite (q (i.N_=a)) (f (Step.done (y (b,c,d)))) (f (Step.next (a,U4 (b+1),(c,d))))) (f (Step.done (M (c,d))))
def qac(x:zjP):U3 zeM:=U1 (lpO q62 (x.1,0,x.2)) λa=>F (λb=>f b) (λb=>f (-1,b)) a
def q4e:zjP->U3 zeM:=qac
theorem qk5:q4e=zo7.F:=jO
def q63(A:zd5)(B:zvx)(C:Vg):Int×Int×Un×Uy×q6×zz×zz×Sl qi->U3 (Step (Int×Int×Un×Uy×q6×zz×zz×Sl qi) (Int×Un×Uy×q6×zz×zz×Sl qi)):=λ(a,b,c,d,e,i,j,l)=>ite (q (b < a)) (U1 (za e.K_ b) λm=>U1 (za m.K_ 0) λn=>U1 (B (m.T_,(j,l))) λ(o,p,r)=>U1 (ite (q (0<=o)) (U1 (A (m.a_,30,c,d)) λ(s,t)=>f (a,b,s,t,kr e,i,p,kr m,kr n,r)) (f (a,b,c,d,kr e,i,p,kr m,kr n,r))) λ(s,t,u,v,w,z,D,E,G,H)=>U1 (ite (q (G.T_=lit [38])) (f (s,t,g,u,v,kr w,z,D,kr G,qi.mk E.T_ 1 0,H)) (f (s,t,q (G.T_=lit [38,109,117,116]),u,v,kr w,z,D,kr G,qi.mk E.T_ 1 0,H))) λ(I,J,K,L,P,Q,R,S,T,U,W)=>U1 (ite K (U1 (A (T.a_,34,L,P)) λ(X,k)=>f (I,J,X,k,kr Q,R,S,kr T,(U,W))) (f (I,J,L,P,kr Q,R,S,kr T,(U,W)))) λ(X,k,a2,a3,a4,a5,a6,a7,a8,a9)=>U1 (ite (q (a7.T_=lit [111,119,110])) (U1 (za a7.K_ 0) λb1=>U1 (C (a2.2.1,b1.T_)) λb2=>U1 (ite (q (b2 < 0)) (U1 (A (a7.a_,31,a2,a3)) λ(h,x)=>f (X,k,h,x,kr a4,a5,a6,qi.mk a8.N_ 2 b2,a9)) (f (X,k,a2,a3,kr a4,a5,a6,qi.mk a8.N_ 2 b2,a9))) λ(h,x,b5,b6,b7,b8,b9,c1,c2)=>f (h,x,b5,b6,kr b7,(b8,b9,c1,c2))) (f (X,k,a2,a3,kr a4,a5,a6,(a8,a9)))) λ(b1,b2,h,x,b5,b6,b7,b8,b9)=>U1 (zo 32 b9 [b8]) λc1=>f (Step.next (b1,U4 (b2+1),h,x,kr b5,b6,b7,c1))) (f (Step.done (a,c,d,kr e,(i,j,l))))
def qad(A:zd5)(B:zvx)(C:Vg)(x:zhc):U3 (zz×Un×Uy×Sl qi):=ite (q (8 < U4 (x.1.K_.len - 2))) (U1 (A (x.1.a_,22,x.2)) λ(a,b)=>f ((x.1.T_,U4 (x.1.K_.len - 2)),a,b,O [] N)) (U1 (lpO (q63 A B C) (U4 (x.1.K_.len - 2),0,x.2.1,x.2.2,kr x.1,(lit [],0),(x.1.T_,U4 (x.1.K_.len - 2)),O [] N)) λ(c,d,e,i,j,l,m)=>U1 (za i.K_ c) λn=>U1 (ite (q (n.T_≠lit [])) (U1 (za i.K_ c) λo=>U1 (A (o.a_,35,d,e)) λ(p,r)=>f (p,r,(j,l,m))) (f (d,e,(j,l,m)))) λ(o,p,_,r,s)=>f (r,o,p,s))
def q4f:zhc->U3 (zz×Un×Uy×Sl qi):=qad q1b q4e q1a
theorem qk6:q4f=ztD.F:=by delta q4f;rw[qdz,qk5,qdx];kernel_rfl
def q53:Int×U0×Z7->U3 (Step (Int×U0×Z7) zeU):=λ(a,b,c,d)=>U1 (za d a) λe=>U1 (za d a) λi=>ite (q (c < i.V_.len)) (U1 (za d a) λj=>U1 (za d a) λl=>U1 (za l.V_ c) λm=>U1 (za d a) λn=>U1 (za n.V_ c) λo=>ite (q (o.N_=b)) (f (Step.done (y (c,d)))) (f (Step.next (a,b,U4 (c+1),d)))) (f (Step.done (M d)))
def q8b(x:zcP):U3 Z7:=U1 (lpO q53 (x.1,x.2.1,0,x.2.2)) λa=>F (λb=>f b) (λb=>f (-1,b)) a
def q2o:zcP->U3 Z7:=q8b
theorem qfk:q2o=zly.F:=jO
def qa6(A:zqe)(x:zcP):U3 (qi×Z7):=U1 (A x) λ(a,b)=>ite (q (a < 0)) (f (qi.mk (lit []) 0 0,31,b)) (U1 (za b x.1) λc=>U1 (za b x.1) λd=>U1 (za d.V_ a) λe=>U1 (za b x.1) λi=>U1 (za i.V_ a) λj=>U1 (za b x.1) λl=>U1 (za b x.1) λm=>U1 (za m.V_ a) λn=>U1 (za b x.1) λo=>U1 (za o.V_ a) λp=>f (qi.mk (lit []) j.M_ p.t_,0,b))
def q58:zcP->U3 (qi×Z7):=qa6 q2o
theorem qh2:q58=zo8.F:=by delta q58;rw[qfk];kernel_rfl
def qa7(A:zvM)(x:zqs):U3 Z7:=U1 (ite (q (x.2.1.T_=lit [])) (ite (q (x.2.2.1.M_=1)) (f (y (0,x.2.2.2))) (f (y (40,x.2.2.2)))) (f (M (x.1,x.2.2.2,kr x.2.1,x.2.2.1)))) λa=>F (λb=>f b) (λ(b,c,d,e)=>U1 (A (b,d.T_,c)) λ(i,j,l)=>ite (q (j≠0)) (f (j,l)) (U1 (ite (q (e.M_=1)) (ite (q (i.M_=1)) (f (y (0,l))) (f (y (40,l)))) (f (M (l,kr d,e,i)))) λm=>F (λn=>f n) (λ(n,o,p,r)=>U1 (ite (q (p.M_=3)) (f (q (r.M_=4),n,kr o,(p,r))) (f (N,n,kr o,(p,r)))) λ(s,t,u,v,w)=>U1 (ite (q (u.n_≠0)) (f (g,t)) (ite (q (w.t_≠v.t_)) (f (g,t)) (ite (q (w.M_≠v.M_)) (f (!s,t)) (f (N,t))))) λ(z,B)=>ite z (f (40,B)) (f (0,B))) m)) a
def q1p:zqs->U3 Z7:=qa7 q58
theorem qe0:q1p=zlz.F:=by delta q1p;rw[qh2];kernel_rfl
def q7k(A:zeD):Int×Uj×Sl qi×Z7->U3 (Step (Int×Uj×Sl qi×Z7) zeU):=λ(a,b,c,d,e)=>ite (q (d < Sl.len b)) (U1 (za b d) λi=>U1 (za c d) λj=>U1 (A (a,kr i,j,e)) λl=>ite (q (l.1≠0)) (f (Step.done (y l))) (f (Step.next (a,b,c,U4 (d+1),l.2)))) (f (Step.done (M e)))
def qa8(A:zeD)(x:zqp):U3 Z7:=ite (q (Sl.len x.2.1≠Sl.len x.2.2.1)) (f (51,x.2.2.2)) (U1 (lpO (q7k A) (x.1,x.2.1,x.2.2.1,0,x.2.2.2)) λa=>F (λb=>f b) (λb=>f (0,b)) a)
def q3m:zqp->U3 Z7:=qa8 q1p
theorem qk7:q3m=ztE.F:=by delta q3m;rw[qe0];kernel_rfl
def q4s(A:zvO):Int×Int×Un×Uy×q6×qi->U3 (Step (Int×Int×Un×Uy×q6×qi) zzP):=λ(a,b,c,d,e,i)=>ite (q (b < Sl.len c.1)) (U1 (za c.1 b) λj=>ite (q (j.N_=e.T_)) (U1 (za c.1 b) λl=>U1 (A (a,e.K_,l.P_,d)) λ(m,n)=>U1 (za c.1 b) λo=>f (Step.done (y (m,c,n,o.R_)))) (f (Step.next (a,U4 (b+1),c,d,kr e,i)))) (f (Step.done (M (c,d,i))))
def qa9(A:zvO)(x:xm):U3 (qi×vu):=U1 (lpO (q4s A) (x.1,0,x.2.2.1,x.2.2.2,kr x.2.1,qi.mk (lit []) 0 0)) λa=>F (λ(b,c,d,e)=>f (e,b,c,d)) (λ(b,c,_)=>f (qi.mk (lit []) 0 0,31,b,c)) a
def q2z:xm->U3 (qi×vu):=qa9 q3m
theorem qh3:q2z=zo9.F:=by delta q2z;rw[qk7];kernel_rfl
def qaa(A:zvM)(B:zmu)(x:xm):U3 (qi×vu):=U1 (ite (q (x.2.1.k_=5)) (ite (q (x.2.1.T_=lit [])) (f (y (0,x.2.2.1,x.2.2.2,qi.mk (lit []) 1 0))) (U1 (A (x.1,x.2.1.T_,x.2.2.2)) λ(a,b,c)=>U1 (ite (q (b=0)) (ite (q (x.2.1.n_≠0)) (f (b,q (a.M_≠1),x.2.2.1,c,qi.mk (lit []) 0 0,a)) (f (b,N,x.2.2.1,c,qi.mk (lit []) 0 0,a))) (f (b,N,x.2.2.1,c,qi.mk (lit []) 0 0,a))) λ(d,e,i,j,l,m)=>U1 (ite e (f (40,(i,j,l,m))) (f (d,(i,j,l,m)))) λ(n,o,p,_,r)=>f (y (n,o,p,r)))) (U1 (ite (q (x.2.1.k_=21)) (f (x.1,x.2.1.k_,q (x.2.1.k_=21),x.2.2.1,x.2.2.2,kr x.2.1,qi.mk (lit []) 0 0,qi.mk (lit []) 1 0)) (f (x.1,x.2.1.k_,q (x.2.1.k_=22),x.2.2.1,x.2.2.2,kr x.2.1,qi.mk (lit []) 0 0,qi.mk (lit []) 1 0))) λ(s,t,u,v,w,z,C,D)=>U1 (ite u (U1 (za z.K_ 0) λE=>U1 (A (s,E.T_,w)) λ(G,H,I)=>ite (q (H≠0)) (f (y (H,v,I,G))) (U1 (za z.K_ 1) λJ=>U1 (A (s,J.T_,I)) λ(K,L,P)=>ite (q (L≠0)) (f (y (L,v,P,K))) (U1 (ite (q (G.M_≠1)) (f (g,v,P,C,D,G)) (f (q (K.M_≠1),v,P,C,D,G))) λ(Q,R,S,_,T,U)=>ite Q (f (y (40,R,S,U))) (f (y (0,R,S,T)))))) (U1 (ite (q (t=26)) (f (s,t,q (t=26),v,w,kr z,(C,D))) (f (s,t,q (t=27),v,w,kr z,(C,D)))) λ(W,X,a1,a2,a3,a4,a5,a6)=>U1 (ite a1 (U1 (A (W,a4.T_,a3)) λ(h,k,a9)=>ite (q (k≠0)) (f (y (k,a2,a9,h))) (ite (q (h.M_≠2)) (f (y (40,a2,a9,h))) (U1 (ite (q (a4.k_=27)) (f (a2,a9,a5,qi.mk h.N_ 4 h.t_)) (f (a2,a9,a5,qi.mk h.N_ 3 h.t_))) λ(b1,b2,_,b3)=>f (y (0,b1,b2,b3))))) (ite (q (X=28)) (U1 (B (W,kr a4,a2,a3)) λ(b4,b5,b6,b7)=>U1 (ite (q (b5=0)) (f (b5,q (b4.M_=0),b6,b7,a5,b4)) (f (b5,N,b6,b7,a5,b4))) λ(b8,b9,c1,c2,c3,c4)=>U1 (ite b9 (f (35,(c1,c2,c3,c4))) (f (b8,(c1,c2,c3,c4)))) λ(c5,c6,c7,_,c8)=>f (y (c5,c6,c7,c8))) (f (M (a2,a3,(a5,a6)))))) λh=>F (λk=>f (y k)) (λk=>f (M k)) h)) λE=>F (λG=>f (y G)) (λG=>f (M G)) E)) λa=>F (λ(b,c,d,e)=>f (e,b,c,d)) (λ(b,c,_,d)=>f (d,50,b,c)) a
def q3n:xm->U3 (qi×vu):=qaa q58 q2z
theorem qk8:q3n=ztF.F:=by delta q3n;rw[qh2,qh3];kernel_rfl
def q49(A:zeD):Int×Uj×(Int×zH)×Z7->U3 (Step (Int×Uj×(Int×zH)×Z7) zeU):=λ(a,b,c,d,e)=>ite (q (d < Sl.len b)) (U1 (za b d) λi=>U1 (za e c.1) λj=>U1 (z7 j.V_ c.2.1 c.2.2) λl=>U1 (za l d) λm=>U1 (za e c.1) λn=>U1 (za n.V_ (c.2.1+d)) λo=>U1 (A (a,kr i,o,e)) λp=>ite (q (p.1≠0)) (f (Step.done (y p))) (f (Step.next (a,b,c,U4 (d+1),p.2)))) (f (Step.done (M e)))
def q8c(A:zeD)(x:zqh):U3 Z7:=U1 (za x.2.2.2 x.2.2.1.1) λa=>U1 (z7 a.V_ x.2.2.1.2.1 x.2.2.1.2.2) λb=>ite (q (Sl.len x.2.1≠x.2.2.1.2.2 - x.2.2.1.2.1)) (f (51,x.2.2.2)) (U1 (lpO (q49 A) (x.1,x.2.1,x.2.2.1,0,x.2.2.2)) λc=>F (λd=>f d) (λd=>f (0,d)) c)
def q30:zqh->U3 Z7:=q8c q1p
theorem qip:q30=ztG.F:=by delta q30;rw[qe0];kernel_rfl
def q59(A:zmu)(B:zqe)(C:zmu)(D:zvF)(E:zeD):Int×Int×Un×Uy×q6->U3 (Step (Int×Int×Un×Uy×q6) zcI):=λ(a,b,c,d,e)=>ite (q (b < Sl.len d)) (U1 (za d b) λi=>U1 (za d b) λj=>ite (q (j.N_=e.T_)) (U1 (za d b) λl=>U1 (za d b) λm=>U1 (za d b) λn=>U1 (za d b) λo=>U1 (za d b) λp=>U1 (z7 p.V_ 0 o.P_) λr=>U1 (D (a,e.K_,(b,0,o.P_),d)) λ(s,t)=>f (Step.done (y (s,c,t)))) (f (Step.next (a,U4 (b+1),c,d,kr e)))) (f (Step.done (M (c,d))))
def q31(A:zmu)(B:zqe)(C:zmu)(D:zvF)(E:zeD)(x:xm):U3 vu:=U1 (ite (q (x.2.1.k_=10)) (U1 (za x.2.1.K_ 0) λa=>U1 (A (x.1,kr a,x.2.2)) λ(b,c,d,e)=>ite (q (c≠0)) (f (y (c,d,e))) (U1 (B (x.1,x.2.1.T_,e)) λ(i,j)=>ite (q (i < 0)) (U1 (za j x.1) λl=>U1 (za j x.1) λm=>U1 (zo 32 m.V_ [qi.mk x.2.1.T_ b.M_ b.t_]) λn=>U1 (za j x.1) λo=>bif q (x.1=x.1) then f (y (0,d,Sl.set j x.1 (qg.mk o.N_ o.P_ n))) else Y) (U1 (za j x.1) λp=>U1 (za j x.1) λr=>U1 (za r.V_ i) λs=>U1 (za j x.1) λt=>U1 (za t.V_ i) λu=>ite (!(q (u.N_=x.2.1.T_) && (q (u.M_=b.M_) && (q (u.t_=b.t_) && g)))) (f (y (40,d,j))) (f (y (0,d,j)))))) (U1 (ite (q (x.2.1.k_=20)) (U1 (za x.2.1.K_ 0) λv=>U1 (C (x.1,kr v,x.2.2)) λ(_,w,z,G)=>f (y (w,z,G))) (U1 (ite (q (x.2.1.k_=19)) (U1 (lpO (q59 A B C D E) (x.1,0,x.2.2.1,x.2.2.2,kr x.2.1)) λH=>F (λI=>f (y I)) (λI=>f (y (31,I))) H) (U1 (ite (q (x.2.1.k_=15)) (f (x.1,x.2.1.k_,q (x.2.1.k_=15),x.2.2.1,x.2.2.2,kr x.2.1,qi.mk (lit []) 1 0)) (f (x.1,x.2.1.k_,q (x.2.1.k_=16),x.2.2.1,x.2.2.2,kr x.2.1,qi.mk (lit []) 1 0))) λ(I,J,K,L,P,Q,R)=>U1 (ite K (U1 (za Q.K_ 0) λS=>U1 (E (I,kr S,R,P)) λ(T,U)=>ite (q (T≠0)) (f (y (T,L,U))) (U1 (za Q.K_ 1) λW=>U1 (E (I,kr W,R,U)) λ(X,h)=>f (y (X,L,h)))) (U1 (ite (q (J=17)) (ite (q (0 < Q.K_.len)) (f (y (35,L,P))) (f (y (0,L,P)))) (ite (q (J=18)) (f (y (0,L,P))) (f (M (L,P))))) λa2=>F (λa3=>f (y a3)) (λa3=>f (M a3)) a2)) λS=>F (λT=>f (y T)) (λT=>f (M T)) S)) λH=>F (λI=>f (y I)) (λI=>f (M I)) H)) λv=>F (λw=>f (y w)) (λw=>f (M w)) v)) λa=>F (λb=>f b) (λb=>f (50,b)) a
def q1l:xm->U3 vu:=q31 q3n q2o q2z q30 q1p
theorem qkp:q1l=zlA.F:=by delta q1l;rw[qk8,qfk,qh3,qip,qe0];kernel_rfl
def q5j(A:zuX)(B:zd5)(C:zij):Int×Uj×Int×Int×Un×Uy×q6->U3 (Step (Int×Uj×Int×Int×Un×Uy×q6) zez):=λ(a,b,c,d,e,i,j)=>ite (q (d < j.K_.len)) (U1 (za j.K_ d) λl=>U1 (C (a,l.K_,e,i)) λ(m,n)=>f (Step.next (a,b,c,U4 (d+1),m,n,kr j))) (f (Step.done (a,b,c,e,i)))
def q3r(A:zuX)(B:zd5)(C:zij):zez->U3 (Step zez zvC):=λ(a,b,c,d,e)=>U1 (ite (q (c < Sl.len b)) (f (a,b,c,q (d.2.2.2=0),(d,e))) (f (a,b,c,N,(d,e)))) λ(i,j,l,m,n,o)=>ite m (U1 (za j l) λp=>U1 (A (i,kr p,(n,o))) λr=>ite (q (r.1≠0)) (U1 (B (p.a_,r)) λs=>f (Step.done (y s))) (U1 (ite (q (p.k_=15)) (f (i,j,l,g,r.2.1,r.2.2,kr p)) (f (i,j,l,q (p.k_=16),r.2.1,r.2.2,kr p))) λ(t,u,v,w,z,D,E)=>U1 (ite w (U1 (lpO (q5j A B C) (t,u,v,2,z,D,kr E)) λG=>f G) (f (t,u,v,z,D))) λ(G,H,I,J,K)=>f (Step.next (G,H,U4 (I+1),(J,K))))) (f (Step.done (M (n,o))))
def q73(A:zuX)(B:zd5)(C:zij)(x:zvP):U3 ZC:=U1 (lpO (q3r A B C) (x.1,x.2.1,0,x.2.2)) λa=>F (λb=>f b) (λb=>f b) a
def q5m(h:zcG):zcG:=q73 q1l q1b h
theorem qiq(h:zcG):@Eq zcG (zjl h) (q5m h):=by delta q5m;rw[qkp,qdz];kernel_rfl
def q32:Nat->zvP->U3 ZC
 |0=>λ_=>Y
 |k+1=>q5m (q32 k)
theorem qfl:∀k,@Eq zcG (zgG k) (q32 k)
 |0=>rfl
 |k+1=>(qiq (zgG k)).trans (congrArg q5m (qfl k))
def q4t:zcG:=q32 100000
theorem qjd:@Eq zcG zyG q4t:=qfl 100000
def qej(x:q6):U3 qp:=f (qp.mk x.T_ x.n_)
def q23:WI:=qej
theorem qci:q23=zck.F:=jO
def q71(A:WI):Uj×Int×Sl qp->U3 (Step (Uj×Int×Sl qp) (Sl qp)):=λ(a,b,c)=>ite (q (b < Sl.len a)) (U1 (za a b) λd=>U1 (A (kr d)) λe=>U1 (zo 24 c [e]) λi=>f (Step.next (a,U4 (b+1),i))) (f (Step.done c))
def qcs(A:WI)(x:Uj):U3 (Sl qp):=U1 (lpO (q71 A) (x,0,O [] N)) λa=>f a
def q60:Uj->U3 (Sl qp):=qcs q23
theorem qgh:q60=zpb.F:=by delta q60;rw[qci];kernel_rfl
def qb3(A:WI)(B:Uj->U3 (Sl qp))(x:q6):U3 zpW:=U1 (za x.K_ 0) λa=>U1 (ite (q (a.k_=26)) (f (a.k_,q (a.k_=26),(0,0,lit [],lit [],lit [],0,lit [],0,0,N),kr a,0,x.a_,x.T_,lit [],a.T_,a.n_,lit [],0,0,N)) (f (a.k_,q (a.k_=27),(0,0,lit [],lit [],lit [],0,lit [],0,0,N),kr a,0,x.a_,x.T_,lit [],a.T_,a.n_,lit [],0,0,N))) λ((b,c,d,e,i,j,l,m,n,o,p,r,s,t):Int×Bool×(Int×Int×U0×U0×U0×Int×U0×Int×Int×Bool)×q6×Int×Int×U0×U0×U0×Int×U0×Int×Int×Bool)=>U1 (ite c (f (d,(i,j,l,m,e.T_,0,(p,r,s,t)),O [] N)) (U1 (ite (q (b=21)) (U1 (za e.K_ 0) λu=>U1 (A (kr u)) λv=>U1 (za e.K_ 1) λw=>U1 (A (kr w)) λz=>f (d,(1,j,l,m,v.N_,v.n_,z.N_,z.n_,(s,t)),O [] N)) (U1 (ite (q (b=22)) (U1 (za e.K_ 0) λC=>U1 (A (kr C)) λD=>U1 (za e.K_ 1) λE=>U1 (A (kr E)) λG=>f (d,(2,j,l,m,D.N_,D.n_,G.N_,G.n_,(s,t)),O [] N)) (U1 (ite (q (b=23)) (f (d,(3,j,l,m,lit [],e.n_,(p,r,s,t)),O [] N)) (U1 (ite (q (b=24)) (f (d,(4,j,l,m,e.T_,0,(p,r,s,t)),O [] N)) (U1 (ite (q (b=25)) (U1 (za e.K_ 0) λH=>U1 (A (kr H)) λI=>f (d,(5,j,l,e.T_,I.N_,I.n_,(p,r,s,t)),O [] N)) (U1 (ite (q (b=28)) (U1 (B e.K_) λJ=>f (d,(12,j,l,e.T_,lit [],0,(p,r,s,t)),J)) (f (d,(i,j,l,m,n,o,p,r,s,t),O [] N))) λ(J:tA2)=>f J)) λ(H:tA2)=>f H)) λ(H:tA2)=>f H)) λ(H:tA2)=>f H)) λ(C:tA2)=>f C)) λ(u:tA2)=>f u)) λ((_,u,v):tA2)=>f (u,v)
def q6t:zcF:=qb3 q23 q60
theorem qkq:q6t=ztI.F:=by delta q6t;rw[qci,qgh];kernel_rfl
def q8u(A:zcF)(B:WI)(C:Uj->U3 (Sl qp))(x:q6):U3 zpW:=ite (q (x.k_=10)) (U1 (A (kr x)) λa=>f a) (U1 (ite (q (x.k_=11)) (U1 (za x.K_ 0) λb=>U1 (B (kr b)) λc=>U1 (za x.K_ 1) λd=>U1 (B (kr d)) λe=>f ((0,0,lit [],lit [],lit [],0,lit [],0,0,N),(6,x.a_,lit [],x.T_,c.N_,c.n_,e.N_,e.n_,0,N),O [] N)) (U1 (ite (q (x.k_=12)) (f ((0,0,lit [],lit [],lit [],0,lit [],0,0,N),(7,x.a_,lit [],x.T_,lit [],0,lit [],0,0,N),O [] N)) (U1 (ite (q (x.k_=13)) (f ((0,0,lit [],lit [],lit [],0,lit [],0,0,N),(8,x.a_,lit [],x.T_,lit [],x.n_,lit [],0,0,N),O [] N)) (U1 (ite (q (x.k_=14)) (f ((0,0,lit [],lit [],lit [],0,lit [],0,0,N),(9,x.a_,lit [],x.T_,lit [],x.n_,lit [],0,0,N),O [] N)) (U1 (ite (q (x.k_=20)) (U1 (za x.K_ 0) λi=>U1 (za x.K_ 0) λj=>U1 (C j.K_) λl=>f ((0,0,lit [],lit [],lit [],0,lit [],0,0,N),(12,x.a_,lit [],i.T_,lit [],0,lit [],0,0,N),l)) (U1 (ite (q (x.k_=19)) (U1 (C x.K_) λm=>f ((0,0,lit [],lit [],lit [],0,lit [],0,0,N),(13,x.a_,lit [],x.T_,lit [],0,lit [],0,0,N),m)) (U1 (ite (q (x.k_=17)) (U1 (ite (q (0 < x.K_.len)) (U1 (za x.K_ 0) λn=>U1 (B (kr n)) λo=>f ((0,0,lit [],lit [],lit [],0,lit [],0,0,N),14,x.a_,lit [],lit [],o.N_,o.n_,lit [],0,0,g)) (f ((0,0,lit [],lit [],lit [],0,lit [],0,0,N),14,x.a_,lit [],lit [],lit [],0,lit [],0,0,N))) λ(n:tA6)=>f n) (U1 (ite (q (x.k_=18)) (f ((0,0,lit [],lit [],lit [],0,lit [],0,0,N),15,x.a_,lit [],lit [],lit [],0,lit [],0,0,N)) (f ((0,0,lit [],lit [],lit [],0,lit [],0,0,N),0,x.a_,lit [],x.T_,lit [],0,lit [],0,0,N))) λ(o:tA6)=>f o)) λ(n:tA6)=>f (n.1,n.2,O [] N))) λ(m:tA2)=>f m)) λ(i:tA2)=>f i)) λ(i:tA2)=>f i)) λ(i:tA2)=>f i)) λ(i:tA2)=>f i)) λ(b:tA2)=>f b.2)
def q27:zcF:=q8u q6t q23 q60
theorem qje:q27=zlB.F:=by delta q27;rw[qkq,qci,qgh];kernel_rfl
def q5e(A:zcF)(B:WI)(C:zeS):Int×Int×Int×Int×Int×q6×Sl qq×q6×Sl qq->U3 (Step (Int×Int×Int×Int×Int×q6×Sl qq×q6×Sl qq) (Int×Int×Int×Int×q6×Sl qq×q6)):=λ(a,b,c,d,e,i,j,l,m)=>ite (q (e < Sl.len m)) (U1 (za m e) λn=>U1 (za m e) λo=>U1 (zo 136 j [o]) λp=>f (Step.next (a,b,c,d,U4 (e+1),kr i,p,kr l,m))) (f (Step.done (a,b,c,d,kr i,j,kr l)))
def q5f(A:zcF)(B:WI)(C:zeS):Int×Int×Int×q6×Sl qq×Sl qq->U3 (Step (Int×Int×Int×q6×Sl qq×Sl qq) (Int×Int×q6×Sl qq)):=λ(a,b,c,d,e,i)=>ite (q (c < Sl.len i)) (U1 (za i c) λj=>U1 (za i c) λl=>U1 (zo 136 e [l]) λm=>f (Step.next (a,b,U4 (c+1),kr d,m,i))) (f (Step.done (a,b,kr d,e)))
def q3q(A:zcF)(B:WI)(C:zeS):Int×Int×q6×Sl qq->U3 (Step (Int×Int×q6×Sl qq) (Sl qq)):=λ(a,b,c,d)=>ite (q (b < c.K_.len)) (U1 (U1 (za c.K_ b) λe=>U1 (ite (q (e.k_≠15)) (f (a,b,U4 (a+Sl.len d),q (e.k_≠16),kr c,d,kr e)) (f (a,b,U4 (a+Sl.len d),N,kr c,d,kr e))) λ(i,j,l,m,n,o,p)=>ite m (U1 (A (kr p)) λ(r,s)=>U1 (zo 136 o [qq.mk r.1 r.2.1 r.2.2.1 r.2.2.2.1 (qp.mk r.2.2.2.2.1 r.2.2.2.2.2.1) (qp.mk r.2.2.2.2.2.2.1 r.2.2.2.2.2.2.2.1) s r.2.2.2.2.2.2.2.2.1 r.2.2.2.2.2.2.2.2.2]) λt=>f (i,j,kr n,t)) (U1 (za p.K_ 0) λu=>U1 (B (kr u)) λv=>U1 (za p.K_ 1) λw=>U1 (B (kr w)) λz=>U1 (za p.K_ 2) λD=>U1 (C (kr D,U4 (l+1))) λE=>U1 (zo 136 o [qq.mk 10 p.a_ p.T_ (lit []) v z (O [] N) (U4 (U4 (U4 (l+1)+E.len)+1)) N]) λG=>U1 (lpO (q5e A B C) (i,j,l,U4 (U4 (l+1)+E.len),0,kr n,G,kr p,E)) λ(H,I,J,K,L,P,Q)=>ite (q (Q.k_=16)) (U1 (zo 136 P [qq.mk 11 Q.a_ (lit []) (lit []) (qp.mk (lit []) 0) (qp.mk (lit []) 0) (O [] N) J N]) λR=>f (H,I,kr L,R)) (U1 (za Q.K_ 3) λS=>U1 (C (kr S,U4 (K+1))) λT=>U1 (zo 136 P [qq.mk 11 Q.a_ (lit []) (lit []) (qp.mk (lit []) 0) (qp.mk (lit []) 0) (O [] N) (U4 (U4 (K+1)+T.len)) N]) λU=>U1 (lpO (q5f A B C) (H,I,0,kr L,U,T)) λ(W,X,h,a2)=>f (W,X,kr h,a2)))) λ(e,i,j,l)=>f (Step.next (e,U4 (i+1),kr j,l))) (f (Step.done d))
def q74(A:zcF)(B:WI)(C:zeS)(x:q6×Int):U3 (Sl qq):=U1 (lpO (q3q A B C) (x.2,0,kr x.1,O [] N)) λa=>f a
def q5n(h:Vi):Vi:=q74 q27 q23 h
theorem qir(h:Vi):@Eq Vi (zjm h) (q5n h):=by delta q5n;rw[qje,qci];kernel_rfl
def q2m:Nat->(q6×Int)->U3 (Sl qq)
 |0=>λ_=>Y
 |k+1=>q5n (q2m k)
theorem qfm:∀k,@Eq Vi (zgH k) (q2m k)
 |0=>rfl
 |k+1=>(qir (zgH k)).trans (congrArg q5n (qfm k))
def q4p:Vi:=q2m 100000
theorem qjf:@Eq Vi zyI q4p:=qfm 100000
def q5g(A:zeS):Int×Int×q6×U0×U0×zcT->U3 (Step (Int×Int×q6×U0×U0×zcT) (Int×q6×U0×U0×zcT)):=λ(a,b,c,d,e,i)=>ite (q (b < U4 (a - 1))) (U1 (za c.K_ b) λj=>U1 (zo 16 i [j.T_]) λl=>f (Step.next (a,U4 (b+1),kr c,d,e,l))) (f (Step.done (a,kr c,(d,e,i))))
def q8v(A:zeS)(x:q6):U3 (U0×zcT×Sl qq):=U1 (lpO (q5g A) (U4 (x.K_.len - 1),0,kr x,lit [],x.T_,O [] N)) λ(a,b,_,c,d)=>U1 (za b.K_ a) λe=>U1 (A (kr e,0)) λi=>U1 (za b.K_ a) λj=>U1 (zo 136 i [qq.mk 14 j.a_ (lit []) (lit []) (qp.mk (lit []) 0) (qp.mk (lit []) 0) (O [] N) 0 N]) λl=>f (c,d,l)
def q2j:zcK:=q8v q4p
theorem qgi:q2j=zpd.F:=by delta q2j;rw[<-qjf];kernel_rfl
def q3s(A:zd5)(B:zuV)(C:zij)(D:zcK):xm->U3 (Step xm zhc):=λ(a,b,c,d)=>U1 (ite (q (a < b.K_.len)) (f (a,q (c.2.2.2=0),kr b,(c,d))) (f (a,N,kr b,(c,d)))) λ(e,i,j,l,m)=>ite i (U1 (za j.K_ e) λn=>ite (q (n.k_≠6)) (U1 (za j.K_ e) λo=>U1 (A (o.a_,50,(l,m))) λp=>f (Step.done (kr j,p))) (U1 (za j.K_ e) λr=>U1 (B (kr r,(l,m))) λ(s,t,u,v)=>U1 (zo 48 u [qg.mk s.1 s.2 v]) λw=>f (Step.next (U4 (e+1),kr j,t,w)))) (f (Step.done (kr j,(l,m))))
def q3t(A:zd5)(B:zuV)(C:zij)(D:zcK):xm->U3 (Step xm ZC):=λ(a,b,c,d)=>U1 (ite (q (a < b.K_.len)) (f (a,q (c.2.2.2=0),kr b,(c,d))) (f (a,N,kr b,(c,d)))) λ(e,i,j,l,m)=>ite i (U1 (za j.K_ e) λn=>U1 (za m e) λo=>U1 (za n.K_ (U4 (n.K_.len - 1))) λp=>U1 (C (e,p.K_,(l,m))) λ(r,s)=>U1 (D (kr n)) λ(_,_,t)=>U1 (U1 (za s e) λu=>U1 (za s e) λv=>U1 (za s e) λw=>ite (q (64 < w.V_.len)) (f (e,g,kr j,r,kr n,s)) (f (e,q (512 < Sl.len t),kr j,r,kr n,s))) λ(u,v,w,z,E,G)=>U1 (ite v (U1 (A (E.a_,22,z,G)) λH=>f (u,kr w,H)) (f (u,kr w,z,G))) λ(H,I,J,K)=>f (Step.next (U4 (H+1),kr I,(J,K)))) (f (Step.done (l,m)))
def q8x(A:zd5)(B:zuV)(C:zij)(D:zcK)(x:zqv):U3 ZC:=U1 (lpO (q3s A B C D) (0,kr x.1,(x.2.1,x.2.2,0,0),O [] N)) λ(a,b,c)=>U1 (lpO (q3t A B C D) (0,kr a,(b,c))) λd=>U1 (ite (q (d.1.2.2.2≠0)) (f (d.1,O [] N)) (f d)) λe=>f e
def q45:zqv->U3 ZC:=q8x q1b q4f q4t q2j
theorem qjg:q45=ztK.F:=by delta q45;rw[qdz,qk6,<-qjd,qgi];kernel_rfl
def q54(A:zjZ)(B:zeK)(C:zeL)(D:zvR)(E:zvE)(G:zcR)(H:zcK):Int×Uh×Int×Int×q13×q6×Ux×Un×Uy×Sl q1m×Sl q1n->U3 (Step (Int×Uh×Int×Int×q13×q6×Ux×Un×Uy×Sl q1m×Sl q1n) (Int×q13×Ux×Un×Uy×Sl q1m×Sl q1n)):=λ(a,b,c,d,e,i,j,l,m,n,o)=>ite (q (d < c)) (U1 (za b d) λp=>U1 (ite (q (p.k_=6)) (U1 (G (ke p)) λr=>U1 (zo 64 n [r]) λs=>U1 (za i.K_ d) λt=>U1 (H (kr t)) λ(u,v,w)=>U1 (zo 64 o [q1n.mk u v w]) λz=>f (a,b,c,d,e,kr i,j,l,m,s,z)) (f (a,b,c,d,e,kr i,(j,l,m,n,o)))) λ(r,s,t,u,v,w,z,I,J,K,L)=>f (Step.next (r,s,t,U4 (u+1),v,kr w,(z,I,J,K,L)))) (f (Step.done (a,e,(j,l,m,n,o))))
def q8d(A:zjZ)(B:zeK)(C:zeL)(D:zvR)(E:zvE)(G:zcR)(H:zcK)(x:xq):U3 (q13×q1w×Bool):=U1 (A x.1) λ(a,b)=>U1 (B x.2) λ(c,_,d)=>U1 (ite (!b) (f (x.2,g,a,ke c)) (f (x.2,q (d≠0),a,ke c))) λ(e,i,j,l)=>ite i (f (j,q1w.mk (O [] N) (O [] N) (O [] N) (O [] N),N)) (U1 (C e) λ(m,_,_)=>U1 (D (ke l,j.s_,j.I_)) λ(_,n,o)=>U1 (E (kr m,j.q_,j.j_)) λ(p,r)=>U1 (lpO (q54 A B C D E G H) (n,l.K_,l.K_.len,0,j,kr m,o,p,r,O [] N,O [] N)) λ(s,t,u,v,w,z,I)=>U1 (ite (q (s=0)) (ite (q (v.2.2.2=0)) (ite (q (Sl.len u=Sl.len z)) (f (q (Sl.len w=Sl.len u),t,u,z,w,I)) (f (N,t,u,z,w,I))) (f (N,t,u,z,w,I))) (f (N,t,u,z,w,I))) λ(J,K,L,P,Q,R)=>f (K,q1w.mk L P Q R,J))
def q3u:xq->U3 (q13×q1w×Bool):=q8d q3f q6d q2s q85 q45 q5b q2j
theorem qis:q3u=ztL.F:=by delta q3u;rw[qi5,<-qiz,qgf,<-qm4,qjg,ql3,qgi];kernel_rfl
def q5k(A:zvQ):Int×Int×q13×q1w×Sl ql×Sl q18->U3 (Step (Int×Int×q13×q1w×Sl ql×Sl q18) (Sl ql×Sl q18)):=λ(a,b,c,d,e,i)=>ite (q (b < a)) (U1 (za d.w_ b) λj=>U1 (za d.J_ b) λl=>U1 (zo 184 e [ql.mk j l c.s_ d.J_ c.I_]) λm=>U1 (za d.g_ b) λn=>U1 (za d.r_ b) λo=>U1 (zo 8 i [q18.mk n o c.q_ d.r_ c.j_]) λp=>f (Step.next (a,U4 (b+1),c,d,m,p))) (f (Step.done (e,i)))
def q8y(A:zvQ)(x:xq):U3 (Bool×Sl ql×Sl q18):=U1 (A x) λ(a,b,c)=>ite (!c) (f (N,O [] N,O [] N)) (U1 (lpO (q5k A) (b.J_.len,0,a,b,O [] N,O [] N)) λd=>f (g,d))
def q2t:xq->U3 (Bool×Sl ql×Sl q18):=q8y q3u
theorem qgj:q2t=zpe.F:=by delta q2t;rw[qis];kernel_rfl
def qbn(x:ql×Int):U3 (qm×Bool):=U1 (ite (q (x.2 < 0)) (f (x.2,g,x.1,0,0,lit [],lit [],lit [],0,lit [],0,0,N)) (f (x.2,q (x.1.c_.L_.len<=x.2),x.1,0,0,lit [],lit [],lit [],0,lit [],0,0,N))) λ((a,b,c,_,_,_,_,_,_,_,_,_,_):Int×Bool×ql×Int×Int×U0×U0×U0×Int×U0×Int×Int×Bool)=>ite b (f (qm.mk 0 0 (lit []) (lit []) (qz.mk (lit []) 0) (qz.mk (lit []) 0) (O [] N) 0 N,N)) (U1 (za c.c_.L_ a) λd=>f (d,g))
def q1u:zcO:=qbn
theorem q9m:q1u=zdI.F:=jO
def qc8(A:zcO)(x:ql×Int):U3 Uf:=U1 (A x) λ(a,b)=>U1 (ite (!b) (f (x.2,g,a)) (ite (q (a.O_=14)) (f (x.2,g,a)) (f (x.2,q (a.O_=15),a)))) λ(c,d,e)=>U1 (ite d (f (y (O [] N))) (U1 (ite (q (e.O_=11)) (f (y (O [e.H_] g))) (U1 (ite (q (e.O_=10)) (f (c,q (e.H_≠U4 (c+1)),e)) (f (c,N,e))) λ(i,j,l)=>ite j (f (y (O [U4 (i+1),l.H_] g))) (f (M i)))) λi=>F (λj=>f (y j)) (λj=>f (M j)) i)) λi=>F (λj=>f j) (λj=>f (O [U4 (j+1)] g)) i
def q1o:yZ:=qc8 q1u
theorem qhr:q1o=zpf.F:=by delta q1o;rw[q9m];kernel_rfl
def qcd(x:yc):U3 YK:=U1 (zo 8 x.2.2.1 [x.1]) λa=>f (x.2.1,x.2.2.2,a)
def qat:yc->U3 YK:=qcd
theorem qlk:qat=zpg.F:=jO
def q3h(x:yd):U3 yc:=f (Sl.len x.2.1,x)
def q1g:yd->U3 yc:=q3h
theorem qe1:q1g=zfG.F:=jO
def qcc(x:Xs):U3 WF:=U1 (za x.2.2.2.1 x.1) λa=>U1 (za x.2.2.2.1 x.1) λb=>U1 (za x.2.2.2.1 x.2.1) λc=>U1 (za x.2.2.2.1 x.2.1) λd=>f (q (U4 (x.2.2.1 * b) < U4 (x.2.2.1 * d)),x.2.2)
def q2g:Xs->U3 WF:=qcc
theorem qhs:q2g=zlC.F:=jO
def qcb(x:Xs):U3 yd:=U1 (za x.2.2.2.1 x.2.1) λa=>U1 (za x.2.2.2.1 x.2.1) λb=>U1 (za x.2.2.2.1 x.1) λc=>U1 (za x.2.2.2.1 x.1) λd=>U1 (za x.2.2.2.1 x.1) λe=>U1 (za x.2.2.2.1 x.1) λi=>U1 (za (Sl.set x.2.2.2.1 x.1 b) x.2.1) λj=>U1 (za (Sl.set x.2.2.2.1 x.1 b) x.2.1) λl=>f (x.2.2.1,(Sl.set x.2.2.2.1 x.1 b).set x.2.1 d,x.2.2.2.2)
def q22:Xs->U3 yd:=qcb
theorem qf8:q22=zhY.F:=jO
def q6l(A:zms)(B:zmt):yc->U3 (Step yc yd):=λ(a,b,c,d,e)=>U1 (ite (q (U4 ((U4 (a - 1)).tdiv 2)=a)) (f (a,U4 ((U4 (a - 1)).tdiv 2),g,(b,c,d,e))) (U1 (A (a,U4 ((U4 (a - 1)).tdiv 2),(b,c,d,e))) λ(i,j,l,m,n)=>f (a,U4 ((U4 (a - 1)).tdiv 2), !i,(j,l,m,n)))) λ(i,j,l,m,n,o,p)=>ite l (f (Step.done (m,n,o,p))) (U1 (B (j,i,(m,n,o,p))) λr=>f (Step.next (j,r)))
def qb6(A:zms)(B:zmt)(x:yc):U3 yd:=U1 (lpO (q6l A B) x) λa=>f a
def q8l:yc->U3 yd:=qb6 q2g q22
theorem qkr:q8l=ztM.F:=by delta q8l;rw[qhs,qf8];kernel_rfl
def q90(A:wP)(B:zd4)(C:yc->U3 yd)(x:yc):U3 YK:=U1 (A x) λ(a,b,c)=>U1 (B (a,c,b)) λ(d,e,i,j,l)=>U1 (C (U4 (d - 1),(e,i,j,l))) λ(m,n,o,p)=>f (m,(o,p),n)
def q7m:yc->U3 YK:=q90 qat q1g q8l
theorem qjh:q7m=ztN.F:=by delta q7m;rw[qlk,qe1,qkr];kernel_rfl
def qcz(A:wP)(x:yc):U3 YK:=U1 (ite (!ZB x.1 N x.2.2.2.2.xs) (U1 (A (x.1,x.2.1,x.2.2.1,x.2.2.2.1,O (yA x.1 g x.2.2.2.2.xs) g)) λa=>f a) (f (x.2.1,x.2.2.2,x.2.2.1))) λa=>f a
def q1c:yc->U3 YK:=qcz q7m
theorem qe2:q1c=zhZ.F:=by delta q1c;rw[qjh];kernel_rfl
def q4i(A:zms)(B:zmt):zjy->U3 (Step zjy Xs):=λ(a,b,c,d,e,i,j)=>U1 (U1 (ite (q (b<=U4 (U4 (2 * c)+1))) (f (a,b,c,U4 (U4 (2 * c)+1),g,(d,e,i,j))) (f (a,b,c,U4 (U4 (2 * c)+1),q (U4 (U4 (2 * c)+1) < 0),(d,e,i,j)))) λ(l,m,n,o,p,r,s,t,u)=>ite p (f (y (l,n,(r,s,t,u)))) (U1 (ite (q (U4 (o+1) < m)) (U1 (A (U4 (o+1),o,(r,s,t,u))) λv=>f (l,m,n,o,U4 (o+1),v)) (f (l,m,n,o,U4 (o+1),N,(r,s,t,u)))) λ(v,w,z,C,D,E,G,H,I,J)=>U1 (ite E (f (v,w,z,D,(G,H,I,J))) (f (v,w,z,C,(G,H,I,J)))) λ(K,L,P,Q,R,S,T,U)=>U1 (A (Q,P,(R,S,T,U))) λ(W,X,h,a2,a3)=>ite (!W) (f (y (K,P,(X,h,a2,a3)))) (U1 (B (P,Q,(X,h,a2,a3))) λa4=>f (M (K,L,Q,a4))))) λl=>F (λm=>f (Step.done m)) (λm=>f (Step.next m)) l
def q8z(A:zms)(B:zmt)(x:Xs):U3 WF:=U1 (lpO (q4i A B) (x.1,x.2.1,x.1,x.2.2)) λ(a,b,c,d,e,i)=>f (q (a < b),(c,d,e,i))
def q7l:Xs->U3 WF:=q8z q2g q22
theorem qji:q7l=ztO.F:=by delta q7l;rw[qhs,qf8];kernel_rfl
def qcy(x:yd):U3 vt:=U1 (za x.2.1 (U4 (Sl.len x.2.1 - 1))) λa=>U1 (za x.2.1 (U4 (Sl.len x.2.1 - 1))) λb=>U1 (z7 x.2.1 0 (U4 (Sl.len x.2.1 - 1))) λc=>f (b,x.1,x.2.2,c)
def qbf:yd->U3 vt:=qcy
theorem qlt:qbf=zph.F:=jO
def qag(A:zd4)(B:zmt)(C:zms)(D:zfV)(x:yd):U3 vt:=U1 (A x) λ(a,b,c,d,e)=>U1 (B (0,U4 (a - 1),(b,c,d,e))) λi=>U1 (C (0,U4 (a - 1),i)) λ(_,j,l,m,n)=>U1 (D (j,l,m,n)) λo=>f o
def q1q:yd->U3 vt:=qag q1g q22 q7l qbf
theorem qh4:q1q=zpi.F:=by delta q1q;rw[qe1,qf8,qji,qlt];kernel_rfl
def qbo(A:zcO)(B:vw)(x:ql×Int):Uc:=U1 (A x) λ(a,b)=>U1 (ite b (ite (q (a.O_<=5)) (f (g,x.1,a)) (ite (q (a.O_=12)) (f (q (a.X_≠lit []),x.1,a)) (f (N,x.1,a)))) (f (N,x.1,a))) λ(c,d,e)=>ite c (U1 (B (d.F_,e.X_)) λi=>f i) (f (-1))
def q1v:zeT:=qbo q1u q1s
theorem qhf:q1v=zpj.F:=by delta q1v;rw[q9m,q81];kernel_rfl
def qby:zjT->U3 (Step zjT zcT):=λa=>ite (q (a.2.1 < a.1)) (U1 (za a.2.2.2 a.2.1) λb=>U1 (za a.2.2.2 a.2.1) λc=>U1 (ite (q (c.N_≠lit [])) (U1 (zo 16 a.2.2.1 [c.N_]) λd=>f (a.1,a.2.1,d,a.2.2.2)) (f a)) λ(d,e,i,j)=>f (Step.next (d,U4 (e+1),(i,j)))) (f (Step.done a.2.2.1))
def qfu(x:qm):U3 zcT:=U1 (ite (q (x.O_=5)) (f (q (x.O_=5),x)) (U1 (ite (q (x.O_=6)) (f (q (x.O_=6),x)) (U1 (ite (q (x.O_=7)) (f (q (x.O_=7),x)) (U1 (ite (q (x.O_=8)) (f (q (x.O_=8),x)) (f (q (x.O_=9),x))) λa=>f a)) λa=>f a)) λa=>f a)) λ(a,b)=>U1 (ite a (f (b,O ([]++[b.Y_]) (N || ![b.Y_].isEmpty))) (f (b,O [] N))) λ(c,d)=>U1 (zo 24 (O [c.A_,c.B_] g) c.Q_.xs) λe=>U1 (lpO qby (e.len,0,d,e)) λi=>f i
def q9h:zhh:=qfu
theorem qmb:q9h=zpk.F:=jO
def q6w(A:zcO)(B:zhh)(C:vw):Int×Int×ql×Uf×zcT->U3 (Step (Int×Int×ql×Uf×zcT) Uf):=λ(a,b,c,d,e)=>ite (q (b < a)) (U1 (za e b) λi=>U1 (za e b) λj=>U1 (C (c.F_,j)) λl=>U1 (zo 8 d [l]) λm=>f (Step.next (a,U4 (b+1),c,m,e))) (f (Step.done d))
def qbp(A:zcO)(B:zhh)(C:vw)(x:ql×Int):U3 Uf:=U1 (A x) λ(a,b)=>U1 (ite b (U1 (B a) λc=>U1 (lpO (q6w A B C) (c.len,0,x.1,O [] N,c)) λd=>f d) (f (O [] N))) λc=>f c
def q1j:yZ:=qbp q1u q9h q1s
theorem qhg:q1j=zpl.F:=by delta q1j;rw[q9m,qmb,q81];kernel_rfl
def q4y(A:zeT)(B:yZ)(C:wP):Int×Int×Int×Int×ql×Uf×GY×zaQ×zaQ×Sl Uf×Uf->U3 (Step (Int×Int×Int×Int×ql×Uf×GY×zaQ×zaQ×Sl Uf×Uf) zii):=λ(a,b,c,d,e,i,j,l,m,n,o)=>ite (q (c < b)) (U1 (za o c) λp=>U1 (za o c) λr=>U1 (za l a) λs=>U1 (za l a) λt=>U1 (za l a) λu=>U1 (za u r) λv=>U1 (za l a) λw=>U1 (za w r) λz=>f (Step.next (a,b,U4 (c+1),d,e,i,j,Sl.set l a (w.set r g),(m,n,o)))) (f (Step.done (a,d,e,i,j,l,m,n)))
def q68(A:zeT)(B:yZ)(C:wP):Int×Int×Int×Int×Int×Int×Int×Int×zil->U3 (Step (Int×Int×Int×Int×Int×Int×Int×Int×zil) (Int×Int×Int×Int×zil)):=λ(a,b,c,d,e,i,j,l,m,n,o,p,r,s,t)=>ite (q (l < j)) (U1 (za p i) λu=>U1 (za u l) λv=>U1 (za p i) λw=>U1 (za w l) λz=>U1 (ite z (U1 (za r b) λD=>U1 (za r b) λE=>U1 (za r b) λG=>U1 (za G l) λH=>U1 (za r b) λI=>U1 (za I l) λJ=>f (a,b,l,c,d,e,i,j,l, !J,(m,n,o,p,r,s,t))) (f (a,b,l,c,d,e,i,j,l,N,(m,n,o,p,r,s,t)))) λ(D,E,G,H,I,J,K,L,P,Q,R,S,T,U,W,X,a1)=>U1 (ite Q (U1 (za W E) λa2=>U1 (za W E) λa3=>U1 (za W E) λa4=>U1 (za a4 G) λa5=>U1 (za W E) λh=>U1 (za h G) λa7=>U1 (C (E,R,a1,T)) λ(k,a9,x)=>f (D,E,H,I,J,K,L,P,k,S,a9,U,Sl.set W E (h.set G g),X,x)) (f (D,E,H,I,J,K,L,P,(R,S,T,U,W,X,a1)))) λ(a2,a3,a4,a5,h,a7,k,a9,x,b2,b3,b4,b5,b6,b7)=>f (Step.next (a2,a3,a4,a5,h,a7,k,U4 (a9+1),(x,b2,b3,b4,b5,b6,b7)))) (f (Step.done (a,c,d,e,(m,n,o,p,r,s,t))))
def q4z(A:zeT)(B:yZ)(C:wP):Int×Int×Int×Int×zil->U3 (Step (Int×Int×Int×Int×zil) zil):=λ(a,b,c,d,e,i,j,l,m,n,o)=>ite (q (d < c)) (U1 (za n b) λp=>U1 (za p d) λr=>U1 (za n b) λs=>U1 (za s d) λt=>U1 (za l a) λu=>U1 (za l a) λv=>U1 (za l a) λw=>U1 (lpO (q68 A B C) (a,t,b,c,d,a,w.len,0,(e,i,j,l,m,n,o))) λ(z,D,E,G,H,I,J,K,L,P,Q)=>f (Step.next (z,D,E,U4 (G+1),(H,I,J,K,L,P,Q)))) (f (Step.done (e,i,j,l,m,n,o)))
def qce(A:zeT)(B:yZ)(C:wP)(x:zii):U3 zil:=U1 (za x.2.2.2.2.2.1 x.1) λa=>U1 (za x.2.2.2.2.2.1 x.1) λb=>U1 (za x.2.2.2.2.2.2.1 x.1) λc=>U1 (za x.2.2.2.2.2.2.1 x.1) λd=>U1 (za x.2.2.2.2.2.1 x.1) λe=>U1 (za x.2.2.2.2.2.2.1 x.1) λi=>U1 (A (x.2.2.1,x.1)) λj=>U1 (ite (q (0<=j)) (U1 (za (Sl.set x.2.2.2.2.2.1 x.1 (O (Z e.xs.length i.xs++qb i.xs.length e.xs) e.nn)) x.1) λl=>U1 (za (Sl.set x.2.2.2.2.2.1 x.1 (O (Z e.xs.length i.xs++qb i.xs.length e.xs) e.nn)) x.1) λm=>U1 (za (Sl.set x.2.2.2.2.2.1 x.1 (O (Z e.xs.length i.xs++qb i.xs.length e.xs) e.nn)) x.1) λn=>U1 (za n j) λo=>U1 (za (Sl.set x.2.2.2.2.2.1 x.1 (O (Z e.xs.length i.xs++qb i.xs.length e.xs) e.nn)) x.1) λp=>U1 (za p j) λr=>f (x.1,x.2.1,x.2.2.1,x.2.2.2.1,x.2.2.2.2.1,(Sl.set x.2.2.2.2.2.1 x.1 (O (Z e.xs.length i.xs++qb i.xs.length e.xs) e.nn)).set x.1 (p.set j N),x.2.2.2.2.2.2)) (f (x.1,x.2.1,x.2.2.1,x.2.2.2.1,x.2.2.2.2.1,Sl.set x.2.2.2.2.2.1 x.1 (O (Z e.xs.length i.xs++qb i.xs.length e.xs) e.nn),x.2.2.2.2.2.2))) λ(l,m,n,o,p,r,s,t)=>U1 (B (n,l)) λu=>U1 (lpO (q4y A B C) (l,u.len,0,m,n,o,p,r,s,t,u)) λ(v,w,z,D,E,G,H,I)=>U1 (za I v) λJ=>U1 (za I v) λK=>U1 (za I v) λL=>U1 (lpO (q4z A B C) (v,v,L.len,0,w,z,E,G,H,I,D)) λP=>f P
def q47:zii->U3 zil:=qce q1v q1j q1c
theorem qll:q47=ztP.F:=by delta q47;rw[qhf,qhg,qe2];kernel_rfl
def q4m(A:wP)(B:zd4)(C:zfV)(D:tA1):Uf×Int×Int×zmx->U3 (Step (Uf×Int×Int×zmx) zmx):=λ(a,b,c,d,e,i,j,l,m,n,o)=>ite (q (c < b)) (U1 (za a c) λp=>U1 (A (p,(l,m,n,o))) λ(r,s,t)=>f (Step.next (a,b,U4 (c+1),d,e,i,j,r,t,s))) (f (Step.done (d,e,i,j,l,m,n,o)))
def q3d(A:wP)(B:zd4)(C:zfV)(D:tA1):zmx->U3 (Step zmx zeC):=λ(a,b,c,d,e,i,j,l)=>U1 (B (e,i,j,l)) λ(m,n,o,p,r)=>ite (q (0 < m)) (U1 (C (n,o,p,r)) λ(s,t,u,v)=>U1 (D (s,t,a,v,(u.1,O (yB s u.2.xs) g),b,c,d)) λ(w,z,E,G,H,I,J)=>f (Step.next (z,G,H,I,w,J,E))) (f (Step.done (a,b,c,d)))
def qbq(A:wP)(B:zd4)(C:zfV)(D:tA1)(x:zp3):U3 zeC:=U1 (ite x.1 (f (x.2.1,x.2.2.1,x.2.2.2.1,x.2.2.2.2.1,x.2.2.2.2.2, -1,lit [],O [] g)) (f (x.2.1,x.2.2.1,x.2.2.2.1,x.2.2.2.2.1,x.2.2.2.2.2,1,lit [],O [] g))) λ(a,b,c,d,e,i,j,l)=>U1 (lpO (q4m A B C D) (a,Sl.len a,0,b,c,d,e,i,O [] N,(j,l))) λm=>U1 (lpO (q3d A B C D) m) λn=>f n
def q3v:zp3->U3 zeC:=qbq q1c q1g q1q q47
theorem ql4:q3v=ztQ.F:=by delta q3v;rw[qe2,qe1,qh4,qll];kernel_rfl
def q9k(A:yZ)(B:zuU):Int×Int×Int×Int×Int×ql×Uf×Uf×zaQ×zaQ×Sl Uf->U3 (Step (Int×Int×Int×Int×Int×ql×Uf×Uf×zaQ×zaQ×Sl Uf) (Int×Int×ql×Uf×zaQ×zaQ×Sl Uf)):=λ(a,b,c,d,e,i,j,l,m,n,o)=>ite (q (e < d)) (U1 (za l e) λp=>U1 (za l e) λr=>U1 (za o r) λs=>U1 (za o r) λt=>U1 (za o r) λu=>U1 (zo 8 u [a]) λv=>U1 (za o r) λw=>U1 (za o r) λz=>bif q (r=r) then f (Step.next (a,b,c,d,U4 (e+1),i,j,l,m,n,Sl.set o r v)) else Y) (f (Step.done (b,c,i,j,(m,n,o))))
def q9l(A:yZ)(B:zuU):Int×Int×ql×Uf×zaQ×zaQ×Sl Uf->U3 (Step (Int×Int×ql×Uf×zaQ×zaQ×Sl Uf) (ql×Uf×zaQ×zaQ×Sl Uf)):=λ(a,b,c,d,e,i,j)=>ite (q (b < a)) (U1 (yh (U1 (Z3 1 c.F_.V_.len N) λl=>U1 (za e b) λm=>yh (U1 (Z3 1 c.F_.V_.len N) λn=>U1 (za e b) λo=>U1 (za i b) λp=>U1 (za i b) λr=>f (b,a,b,c,d,Sl.set e b l,Sl.set i b n,j)) (U1 (za e b) λn=>U1 (Z3 1 c.F_.V_.len N) λo=>U1 (za i b) λp=>U1 (za i b) λr=>f (b,a,b,c,d,Sl.set e b l,Sl.set i b o,j))) (U1 (Z3 1 c.F_.V_.len N) λl=>U1 (Z3 1 c.F_.V_.len N) λm=>U1 (za e b) λn=>U1 (za e b) λo=>U1 (za i b) λp=>U1 (za i b) λr=>f (b,a,b,c,d,Sl.set e b m,Sl.set i b l,j))) λ(l,m,n,o,p,r,s,t)=>U1 (zo 8 p [l]) λu=>U1 (A (o,l)) λv=>U1 (lpO (q9k A B) (l,m,n,v.len,0,o,u,v,(r,s,t))) λ(w,z,C,D,E,G,H)=>f (Step.next (w,U4 (z+1),(C,D,E,G,H)))) (f (Step.done (c,d,e,i,j)))
def qgo(A:yZ)(B:zuU)(x:ql):U3 (zaQ×zaQ):=U1 (yh (U1 (Z3 24 x.c_.L_.len (O [] N)) λa=>yh (U1 (Z3 24 x.c_.L_.len (O [] N)) λb=>f (x.c_.L_.len,x,a,b)) (U1 (Z3 24 x.c_.L_.len (O [] N)) λb=>f (x.c_.L_.len,x,a,b))) (U1 (Z3 24 x.c_.L_.len (O [] N)) λa=>U1 (Z3 24 x.c_.L_.len (O [] N)) λb=>f (x.c_.L_.len,x,b,a))) λ(a,b,c,d)=>U1 (Z3 24 a (O [] N)) λe=>U1 (lpO (q9l A B) (a,0,b,O [] N,c,d,e)) λ(i,j,l,m,n)=>U1 (B (g,j,i,(l,m,n))) λ(_,o,p,_)=>f (o,p)
def q7q:zeG:=qgo q1o q3v
theorem qlp:q7q=zpm.F:=by delta q7q;rw[qhr,ql4];kernel_rfl
def qct(A:zjz)(B:zeG)(x:Unit):Uk:=U1 (A (lit [],lit [102,110,32,109,97,105,110,40,41,32,123,32,105,32,61,32,49,59,32,106,32,61,32,105,59,32,105,32,61,32,50,59,32,107,32,61,32,105,59,32,125])) λ(a,b,_)=>ite (!a) (f N) (U1 (za b 0) λc=>U1 (za b 0) λd=>U1 (B d) λ(e,i)=>U1 (ite (q (Sl.len e=5)) (ite (q (Sl.len i=5)) (U1 (za e 1) λj=>U1 (za e 1) λl=>U1 (za e 1) λm=>U1 (za m 0) λn=>U1 (za e 1) λo=>U1 (za o 0) λp=>ite p (U1 (za e 2) λr=>U1 (za e 2) λs=>U1 (za e 2) λt=>U1 (za t 0) λu=>U1 (za e 2) λv=>U1 (za v 0) λw=>ite (!w) (U1 (za e 3) λz=>U1 (za e 3) λC=>U1 (za e 3) λD=>U1 (za D 0) λE=>U1 (za e 3) λG=>U1 (za G 0) λH=>ite H (U1 (za i 0) λI=>U1 (za i 0) λJ=>U1 (za i 0) λK=>U1 (za K 0) λL=>U1 (za i 0) λP=>U1 (za P 0) λQ=>ite Q (U1 (za i 1) λR=>U1 (za i 1) λS=>U1 (za i 1) λT=>U1 (za T 0) λU=>U1 (za i 1) λW=>U1 (za W 0) λX=>f !X) (f N)) (f N)) (f N)) (f N)) (f N)) (f N)) λj=>f j)
def q3a:zhl:=qct q2t q7q
theorem qjj:q3a=ztR.F:=by delta q3a;rw[qgj,qlp];kernel_rfl
def qb7(x:Uu):U3 Uu:=ite (!x.nn) (f (O [] N)) (U1 (zo 1 (O [] g) x.xs) λa=>f a)
def q2b:zhi:=qb7
theorem qev:q2b=zlD.F:=jO
def qec(A:zcO)(B:vw)(x:ql×Int):U3 (qh×qh×Int×Bool):=U1 (A x) λ(a,b)=>U1 (ite (!b) (f (g,x.1,qh.mk (lit []) 0 0,qh.mk (lit []) 0 0,a)) (ite (q (a.O_≠0)) (f (g,x.1,qh.mk (lit []) 0 0,qh.mk (lit []) 0 0,a)) (ite (q (a.A_.N_=lit [])) (f (g,x.1,qh.mk (lit []) 0 0,qh.mk (lit []) 0 0,a)) (f (q (a.A_.n_≠0),x.1,qh.mk (lit []) 0 0,qh.mk (lit []) 0 0,a))))) λ(c,d,e,i,j)=>ite c (f (e,i, -1,N)) (U1 (B (d.F_,j.A_.N_)) λl=>U1 (za d.F_.V_ l) λm=>U1 (B (d.F_,j.X_)) λn=>U1 (za d.F_.V_ n) λo=>f (o,m,l,g))
def q66:zv0:=qec q1u q1s
theorem ql5:q66=ztS.F:=by delta q66;rw[q9m,q81];kernel_rfl
def qe9(x:ql×qh):Uk:=U1 (ite (q (x.2.M_=2)) (U1 (za x.1.W_ x.2.t_) λa=>f (q (a.S_≠3))) (f N)) λa=>f a
def q65:ql×qh->Uk:=qe9
theorem ql6:q65=zpn.F:=jO
def qfn(x:qf×qm):U3 Xw:=f (q (x.1.N_=x.2.Y_),x.2)
def qae:qf×qm->U3 Xw:=qfn
theorem qjk:qae=zpo.F:=jO
def q8j(A:zwe):Sl qf×Int×Int×qm->U3 (Step (Sl qf×Int×Int×qm) zkf):=λ(a,b,c,d)=>ite (q (c < b)) (U1 (za a c) λe=>U1 (A (e,d)) λ(i,j)=>ite i (f (Step.done (y (c,j)))) (f (Step.next (a,b,U4 (c+1),j)))) (f (Step.done (M d)))
def qea(A:zwe)(x:Sl qf×qm):U3 (Int×qm):=U1 (lpO (q8j A) (x.1,Sl.len x.1,0,x.2)) λa=>F (λb=>f b) (λb=>f (-1,b)) a
def qc9:Sl qf×qm->U3 (Int×qm):=qea qae
theorem ql7:qc9=ztT.F:=by delta qc9;rw[qjk];kernel_rfl
def qfo(x:qe×qm):U3 Xw:=f (q (x.1.N_=x.2.Y_),x.2)
def qaf:qe×qm->U3 Xw:=qfo
theorem qjl:qaf=zpp.F:=jO
def q8k(A:zwf):Ux×Int×Int×qm->U3 (Step (Ux×Int×Int×qm) zkf):=λ(a,b,c,d)=>ite (q (c < b)) (U1 (za a c) λe=>U1 (A (e,d)) λ(i,j)=>ite i (f (Step.done (y (c,j)))) (f (Step.next (a,b,U4 (c+1),j)))) (f (Step.done (M d)))
def qeb(A:zwf)(x:Ux×qm):U3 (Int×qm):=U1 (lpO (q8k A) (x.1,Sl.len x.1,0,x.2)) λa=>F (λb=>f b) (λb=>f (-1,b)) a
def qca:Ux×qm->U3 (Int×qm):=qeb qaf
theorem ql8:qca=ztU.F:=by delta qca;rw[qjl];kernel_rfl
def qdo(A:Sl qf×qm->U3 (Int×qm))(B:Ux×qm->U3 (Int×qm))(x:ql×qm):U3 (Sl qh):=U1 (ite (q (x.2.O_=12)) (U1 (A (x.1.G_,x.2)) λ(a,_)=>ite (q (0<=a)) (U1 (za x.1.G_ a) λb=>f (y b.P_)) (f (M ()))) (U1 (ite (q (x.2.O_=13)) (U1 (B (x.1.f_,x.2)) λ(c,_)=>ite (q (0<=c)) (U1 (za x.1.f_ c) λd=>U1 (za x.1.f_ c) λe=>U1 (z7 d.V_ 0 e.P_) λi=>f (y i)) (f (M ()))) (f (M ()))) λc=>F (λd=>f (y d)) (λd=>f (M ())) c)) λa=>F (λb=>f b) (λb=>f (O [] N)) a
def q4l:ql×qm->U3 (Sl qh):=qdo qc9 qca
theorem qks:q4l=ztV.F:=by delta q4l;rw[ql7,ql8];kernel_rfl
def q6x(A:zv0)(B:ql×qh->Uk)(C:zcO)(D:ql×qm->U3 (Sl qh))(E:vw):zjQ->U3 (Step zjQ Uf):=λa=>ite (q (a.2.2.1 < a.2.1)) (U1 (za a.1 a.2.2.1) λb=>U1 (B (a.2.2.2.1,b)) λc=>U1 (ite c (U1 (za a.2.2.2.2.1.Q_ a.2.2.1) λd=>U1 (E (a.2.2.2.1.F_,d.N_)) λe=>U1 (zo 8 a.2.2.2.2.2 [e]) λi=>f (a.1,a.2.1,a.2.2.1,a.2.2.2.1,a.2.2.2.2.1,i)) (f a)) λ(d,e,i,j,l,m)=>f (Step.next (d,e,U4 (i+1),(j,l,m)))) (f (Step.done a.2.2.2.2.2))
def qed(A:zv0)(B:ql×qh->Uk)(C:zcO)(D:ql×qm->U3 (Sl qh))(E:vw)(x:ql×Int):U3 Uf:=U1 (A x) λ(a,b,c,d)=>U1 (ite d (U1 (ite (q (a.M_=b.M_)) (U1 (B (x.1,b)) λe=>ite e (f (c,g)) (f (c,q (b.M_=4)))) (f (c,N))) λ(e,i)=>ite i (f (y (O [e] g))) (f (y (O [] N)))) (f (M (x.2,x.1)))) λe=>F (λi=>f i) (λ(i,j)=>U1 (C (j,i)) λ(l,_)=>U1 (D (j,l)) λm=>U1 (lpO (q6x A B C D E) (m,m.len,0,j,l,O [] N)) λn=>f n) e
def q24:yZ:=qed q66 q65 q1u q4l q1s
theorem qhh:q24=zpq.F:=by delta q24;rw[ql5,ql6,q9m,qks,q81];kernel_rfl
def q7y(A:zhi)(B:yZ)(C:zeT):Int×Int×Int×ql×Uu×Uf->U3 (Step (Int×Int×Int×ql×Uu×Uf) (Int×ql×Uu)):=λ(a,b,c,d,e,i)=>ite (q (c < b)) (U1 (za i c) λj=>U1 (za i c) λl=>U1 (za e l) λm=>U1 (za e l) λn=>f (Step.next (a,b,U4 (c+1),d,Sl.set e l N,i))) (f (Step.done (a,d,e)))
def qdp(A:zhi)(B:yZ)(C:zeT)(x:zqw):U3 Uu:=U1 (A x.2.2) λa=>U1 (B (x.1,x.2.1)) λb=>U1 (lpO (q7y A B C) (x.2.1,b.len,0,x.1,a,b)) λ(c,d,e)=>U1 (C (d,c)) λi=>U1 (ite (q (0<=i)) (U1 (za e i) λj=>U1 (za e i) λl=>f (Sl.set e i g)) (f e)) λj=>f j
def q5r:zqw->U3 Uu:=qdp q2b q24 q1v
theorem qkt:q5r=ztW.F:=by delta q5r;rw[qev,qhh,qhf];kernel_rfl
def q4v(A:zqj)(B:yZ)(C:zhi)(D:wP):Int×Int×Int×zik->U3 (Step (Int×Int×Int×zik) zik):=λ(a,b,c,d,e,i,j,l,m,n,o,p)=>ite (q (e < d)) (U1 (U1 (za m a) λr=>U1 (za m a) λs=>U1 (za m a) λt=>U1 (za t e) λu=>U1 (za m a) λv=>U1 (za v e) λw=>ite w (U1 (za n e) λz=>U1 (za n e) λE=>f (a,e,b,c,d,e, !E,(i,j,l,m,n,o,p))) (f (a,e,b,c,d,e,N,(i,j,l,m,n,o,p)))) λ(r,s,t,u,v,w,z,E,G,H,I,J,K,L)=>U1 (ite z (U1 (za I r) λP=>U1 (za I r) λQ=>U1 (za I r) λR=>U1 (za R s) λS=>U1 (za I r) λT=>U1 (za T s) λU=>U1 (D (r,E,L,H)) λ(W,X,h)=>f (r,t,u,v,w,W,G,X,Sl.set I r (T.set s N),J,K,h)) (f (r,t,u,v,w,(E,G,H,I,J,K,L)))) λ(P,Q,R,S,T,U,W,X,h,a2,a3,a4)=>f (Step.next (P,Q,R,S,U4 (T+1),(U,W,X,h,a2,a3,a4)))) (f (Step.done (b,c,(i,j,l,m,n,o,p))))
def q3x(A:zqj)(B:yZ)(C:zhi)(D:wP):zik->U3 (Step zik zey):=λ(a,b,c,d,e,i,j,l,m)=>ite (q (b < a)) (U1 (U1 (za l b) λn=>U1 (za l b) λo=>U1 (za i o) λp=>U1 (za i o) λr=>U1 (za i o) λs=>ite (!s.nn) (U1 (C j) λt=>U1 (za i o) λu=>U1 (za i o) λv=>U1 (D (o,c,m,e)) λ(w,z,E)=>f (a,b,w,d,z,Sl.set i o t,j,l,E)) (U1 (lpO (q4v A B C D) (o,a,b,Sl.len j,0,(c,d,e,i,j,l,m))) λG=>f G)) λ(n,o,p,r,s,t,u,v,w)=>f (Step.next (n,U4 (o+1),(p,r,s,t,u,v,w)))) (f (Step.done (c,d,e,i,m)))
def qbg(A:zqj)(B:yZ)(C:zhi)(D:wP)(x:zp0):U3 zey:=U1 (za x.2.2.2.2.2 x.1) λa=>U1 (za x.2.2.2.2.2 x.1) λb=>U1 (za x.2.2.2.2.2 x.1) λc=>U1 (A (x.2.2.1,x.1,c)) λd=>U1 (B (x.2.2.1,x.1)) λe=>U1 (lpO (q3x A B C D) (e.len,0,x.2.1,x.2.2.1,x.2.2.2.2.1,x.2.2.2.2.2,d,e,x.2.2.2.1)) λi=>f i
def q3g:zp0->U3 zey:=qbg q5r q1o q2b q1c
theorem qi7:q3g=ztX.F:=by delta q3g;rw[qkt,qhr,qev,qe2];kernel_rfl
def q5s(A:wP)(B:zd4)(C:zfV)(D:zuN):Uf×Int×Int×zg9->U3 (Step (Uf×Int×Int×zg9) zg9):=λ(a,b,c,d,e,i,j,l,m)=>ite (q (c < b)) (U1 (za a c) λn=>U1 (A (n,(i,j,l,m))) λ(o,p,r)=>f (Step.next (a,b,U4 (c+1),d,e,o,r,p))) (f (Step.done (d,e,i,j,l,m)))
def q3y(A:wP)(B:zd4)(C:zfV)(D:zuN):zg9->U3 (Step zg9 zaO):=λ(a,b,c,d,e,i)=>U1 (B (c,d,e,i)) λ(j,l,m,n,o)=>ite (q (0 < j)) (U1 (C (l,m,n,o)) λ(p,r,s,t)=>U1 (D (p,r,a,t,(s.1,O (yB p s.2.xs) g),b)) λ(u,v,w,z,E)=>f (Step.next (v,z,u,E,w))) (f (Step.done (a,b)))
def qee(A:wP)(B:zd4)(C:zfV)(D:zuN)(x:zqn):U3 zaO:=U1 (ite x.1 (f (x.2.1,x.2.2.1,x.2.2.2, -1,lit [],O [] g)) (f (x.2.1,x.2.2.1,x.2.2.2,1,lit [],O [] g))) λ(a,b,c,d,e,i)=>U1 (lpO (q5s A B C D) (a,Sl.len a,0,b,c,d,O [] N,(e,i))) λj=>U1 (lpO (q3y A B C D) j) λl=>f l
def q9j:zqn->U3 zaO:=qee q1c q1g q1q q3g
theorem ql9:q9j=ztY.F:=by delta q9j;rw[qe2,qe1,qh4,qi7];kernel_rfl
def q9i(A:zvG):zaL->U3 (Step zaL zaO):=λ(a,b,c,d)=>ite (q (b < a)) (U1 (za d 0) λe=>U1 (za d 0) λi=>U1 (za d 0) λj=>U1 (za j b) λl=>U1 (za d 0) λm=>U1 (za m b) λn=>f (Step.next (a,U4 (b+1),c,Sl.set d 0 (m.set b g)))) (f (Step.done (c,d)))
def qer(A:zvG)(x:ql):U3 zaQ:=U1 (Z3 24 x.c_.L_.len (O [] N)) λa=>ite (q (a.len=0)) (f (O [] N)) (U1 (Z3 1 x.F_.V_.len N) λb=>U1 (za a 0) λc=>U1 (za a 0) λd=>U1 (lpO (q9i A) (x.F_.P_,0,x,a.set 0 b)) λe=>U1 (A (N,O [0] g,e)) λ(_,i)=>f i)
def q4n:zeQ:=qer q9j
theorem qlm:q4n=ztZ.F:=by delta q4n;rw[ql9];kernel_rfl
def q5t(A:zeQ)(B:yZ)(C:yZ):Int×Int×Int×Int×Int×Int×ql×zaQ×(U0×Sl zH)×Uf->U3 (Step (Int×Int×Int×Int×Int×Int×ql×zaQ×(U0×Sl zH)×Uf) zvy):=λ(a,b,c,d,e,i,j,l,m,n)=>ite (q (i < e)) (U1 (za n i) λo=>U1 (za n i) λp=>U1 (za l b) λr=>U1 (za r p) λs=>U1 (za l b) λt=>U1 (za t p) λu=>ite (!u) (U1 (za j.c_.L_ a) λv=>f (Step.done (y (v.a_,52)))) (f (Step.next (a,b,c,d,e,U4 (i+1),j,l,(m.1,O (yA p (U4 (ZB p 0 m.2.xs+1)) m.2.xs) g),n)))) (f (Step.done (M (a,c,d,j,m,l))))
def q5u(A:zeQ)(B:yZ)(C:yZ):Int×Int×Int×Int×Int×ql×(U0×Sl zH)×zaQ×Uf->U3 (Step (Int×Int×Int×Int×Int×ql×(U0×Sl zH)×zaQ×Uf) zvZ):=λ(a,b,c,d,e,i,j,l,m)=>ite (q (e < d)) (U1 (za m e) λn=>U1 (za m e) λo=>ite (q (1 < ZB o 0 j.2.xs)) (U1 (za i.c_.L_ a) λp=>f (Step.done (y (p.a_,52)))) (f (Step.next (a,b,c,d,U4 (e+1),(i,j,l,m))))) (f (Step.done (M (b,c,i,l))))
def q3z(A:zeQ)(B:yZ)(C:yZ):zaL->U3 (Step zaL Yq):=λa=>ite (q (a.2.1 < a.1)) (U1 (U1 (za a.2.2.2 a.2.1) λb=>U1 (za a.2.2.2 a.2.1) λc=>U1 (za a.2.2.2 a.2.1) λd=>ite (!d.nn) (f (y a)) (U1 (B (a.2.2.1,a.2.1)) λe=>U1 (lpO (q5t A B C) (a.2.1,a.2.1,a.1,a.2.1,e.len,0,a.2.2.1,a.2.2.2,(lit [],O [] g),e)) λi=>F (λj=>f (M j)) (λ(j,l,m,n,o,p)=>U1 (C (n,j)) λr=>U1 (lpO (q5u A B C) (j,l,m,r.len,0,n,o,p,r)) λs=>F (λt=>f (M t)) (λt=>f (y t)) s) i)) λb=>F (λ(c,d,e,i)=>f (Step.next (c,U4 (d+1),(e,i)))) (λc=>f (Step.done (y c))) b) (f (Step.done (M ())))
def qef(A:zeQ)(B:yZ)(C:yZ)(x:ql):U3 zH:=U1 (A x) λa=>U1 (lpO (q3z A B C) (a.len,0,x,a)) λb=>F (λc=>f c) (λc=>f (0,0)) b
def q67:zhk:=qef q4n q1j q24
theorem qla:q67=zt0.F:=by delta q67;rw[qlm,qhg,qhh];kernel_rfl
def q4a(A:zjz)(B:zhl)(C:zhk)(D:zeG):Int×Int×Int×Int×Int×ql×Sl ql×zaQ->U3 (Step (Int×Int×Int×Int×Int×ql×Sl ql×zaQ) (Bool⊕zhm)):=λ(a,b,c,d,e,i,j,l)=>ite (q (e < d)) (U1 (za l c) λm=>U1 (za m e) λn=>U1 (za l c) λo=>U1 (za o e) λp=>U1 (ite p (f (a,b,c,d,e,q (i.F_.P_<=e),(i,j,l))) (f (a,b,c,d,e,N,(i,j,l)))) λ(r,s,t,u,v,w,z,E,G)=>ite w (f (Step.done (y N))) (f (Step.next (r,s,t,u,U4 (v+1),(z,E,G))))) (f (Step.done (M (a,b,j))))
def q3e(A:zjz)(B:zhl)(C:zhk)(D:zeG):zhm->U3 (Step zhm (Bool⊕Unit)):=λa=>ite (q (a.2.1 < a.1)) (U1 (U1 (za a.2.2 a.2.1) λb=>U1 (za a.2.2 a.2.1) λc=>U1 (C c) λ(_,d)=>ite (q (d≠0)) (f (y a)) (U1 (D c) λ(e,_)=>U1 (za e 0) λi=>U1 (za e 0) λj=>U1 (za e 0) λl=>U1 (lpO (q4a A B C D) (a.1,a.2.1,0,l.len,0,c,a.2.2,e)) λm=>F (λn=>f (M n)) (λn=>f (y n)) m)) λb=>F (λ(c,d,e)=>f (Step.next (c,U4 (d+1),e))) (λc=>f (Step.done (y c))) b) (f (Step.done (M ())))
def qas(A:zjz)(B:zhl)(C:zhk)(D:zeG)(x:xq):Uk:=U1 (A x) λ(a,b,_)=>U1 (U1 (B ()) λc=>ite (!c) (f (g,b)) (f (!a,b))) λ(c,d)=>ite c (U1 (B ()) λe=>f e) (U1 (lpO (q3e A B C D) (Sl.len d,0,d)) λi=>F (λj=>f j) (λj=>f g) i)
def qb8:xq->Uk:=qas q2t q3a q67 q7q
theorem qhu:qb8=zfH.F:=by delta qb8;rw[qgj,qjj,qla,qlp];kernel_rfl
end
end Go.Px
