/- Part S1. -/
import Derived.Test.YtnkjgenigoecjaaGreatDoorCh
set_option linter.unusedVariables false
set_option linter.unusedSimpArgs false
namespace Go.Px
open Bool renaming true->g,false->N
open _root_.ByteArray renaming size->V
open Decidable renaming decide->q
open _root_.Option renaming some->f,none->W
open Sl renaming mk->O
open Sum renaming inl->y,elim->F,inr->M
open Go.Proofs
set_option maxRecDepth 100000
set_option maxHeartbeats 4000000
noncomputable section
abbrev ke(a:q8):=q8.mk a.k_ a.T_ a.n_ a.a_ a.K_
abbrev kr(a:q6):=q6.mk a.k_ a.T_ a.n_ a.a_ a.K_
abbrev zQ:=Int×Int
abbrev zS:=U5×zQ
abbrev GU:=Int×zS
abbrev X9:=q7×GU×GU
abbrev GW:=Sl q8
abbrev xi:=q7×GU×GU×GW
abbrev tA0:=zQ×X9⊕xi⊕X9
abbrev we:=Int×Bool
abbrev GP:=Int×Int×U5×U5×U5×Int×U5×Int×we
abbrev zjr:=GP×Sl qp
abbrev tA1:=GP×zjr
abbrev Uh:=Sl qa
abbrev GV:=zS×Sl qt×Sl qw
abbrev zql:=Uh×q8×GW×GW×GV
abbrev za4:=zQ×GV⊕GV
abbrev tA2:=zql->U7 za4
abbrev Ub:=Sl qd
abbrev Uc:=Sl qn×Sl qu
abbrev GZ:=Sl q6
abbrev Uf:=Sl Int
abbrev Uj:=Int×Int×Ub×zS×GZ×GZ×zS×Uf×Uc
abbrev tA4:=Int×Int×Ub×zS×Uc⊕Uj
abbrev tA5:=GP×GP
abbrev GX:=Int×Int×zQ
abbrev Uu:=Sl q9
abbrev zmL:=GX×Uu×GU×GU
abbrev tA6:=GX×Uu×GU×GZ⊕zmL
abbrev GR:=U5×zS
abbrev Up:=Int×Int×GR
abbrev Uy:=Sl qi
abbrev Uk:=Int×Int×q6×GR×GR×q6×qi×Uy
abbrev tA7:=Up⊕Ub×Uk
abbrev Uz:=Sl qe
abbrev GQ:=(Sl qf×Uh×zQ)×Uz
abbrev zqo:=GW×(Int×zQ)×GQ
abbrev zC:=zQ×GQ⊕GQ
abbrev Um:=U7 zC
abbrev tA8:=zqo->Um
abbrev zqw:=q8×GW×GV
abbrev tA9:=zqw->U7 za4
abbrev Uo:=Int×Int×q6×GR×GR×q6×Uy
abbrev zAq:=Up⊕Ub×Uo
abbrev zjC:=Bool×Int×GQ
abbrev zqt:=q8×zjC
abbrev zvn:=zqt->Um
abbrev Ux:=Int×Int×Ub×zS×Sl qn
abbrev Ui:=Int×Ub×zS×GZ×GZ×q6×zS×q6×Sl qn
abbrev zAr:=Ux⊕Ui
abbrev zqC:=U5×GQ
abbrev va:=zQ×GQ⊕qh×GQ
abbrev zAs:=zqC->U7 va
abbrev zqy:=U5×qh×GQ
abbrev zvo:=zqy->Um
abbrev Uv:=Sl qf×Uh×Int
abbrev GS:=Uv×Uz
abbrev zqX:=q8×GS
abbrev zX:=U5×Int
abbrev zmI:=zQ×GS⊕zX×Uv×Uz×Sl qh
abbrev zvp:=zqX->U7 zmI
abbrev U1:=Int×q8×GR×GR×Sl qh
abbrev zAt:=Up⊕Uh×U1
abbrev zAu:=Up⊕Ub×Int×q6×GR×GR×Uy
abbrev W8:=zjC->Um
abbrev Ud:=U5×Sl we
abbrev Us:=Sl Bool
abbrev GY:=Sl Us
abbrev zqk:=Int×Int×ql×Uf×Ud×GY
abbrev zey:=Int×ql×Ud×GY×Uf
abbrev zvq:=zqk->U7 zey
abbrev zqH:=q8×qh×GQ
abbrev zfV:=zqH->Um
abbrev zeF:=q8×GQ
abbrev zpX:=zeF->U7 va
abbrev zp9:=qh×GQ⊕zQ×GQ
abbrev zvr:=zeF->U7 zp9
abbrev zwT:=GW×GQ
abbrev zcD:=zwT->Um
abbrev Uq:=Ub×zS×GZ×GZ×q6×zS×Sl qn
abbrev zAw:=Ux⊕Uq
abbrev zAx:=Int×Int×Ub×zS×Uc⊕Ub×zS×zS×Uc
abbrev zjI:=Bool×Int×GS
abbrev zqB:=q8×zjI
abbrev x6:=zQ×GS⊕GS
abbrev zmE:=zqB->U7 x6
abbrev Ug:=Int×Uv×Uz×q8×zX×zX×Sl qh
abbrev zAy:=zQ×GS⊕Ug
abbrev zvt:=zjI->U7 x6
abbrev ze:=zQ×q7
abbrev zvu:=ze⊕q7×GU×GW⊕X9
abbrev xj:=GU×Int×Int×GW
abbrev zaz:=zQ×xj
abbrev zAB:=zaz->U7 xj
abbrev zvv:=Ub×Int×Uk
abbrev zvx:=Uh×Int×GW×Int×U1
abbrev zD:=GX×Uu
abbrev Yk:=Int×zD
abbrev zaF:=GX×Uu×GZ
abbrev ZG:=GU×zaF
abbrev zpZ:=Yk->U7 ZG
abbrev zvy:=Ub×Int×Uo
abbrev YB:=zD->U7 ZG
abbrev zcT:=Sl U5
abbrev zvz:=Int×GX×Uu×GU×GU×zcT
abbrev zp0:=Int×Uj
abbrev zAD:=zaz⊕xj
abbrev zvA:=Int×Int×Int×Ub×zS×GZ×GZ×zS×Sl qu×Uc
abbrev GT:=Sl qj×Ub×zQ
abbrev Ur:=Sl qg
abbrev ZA:=GT×Ur
abbrev zha:=q6×ZA
abbrev zjz:=zX×GT×Ur×Uy
abbrev zvB:=zha->U7 zjz
abbrev yb:=Int×Uf×Ud
abbrev yn:=Int×yb
abbrev Xs:=Int×yn
abbrev Wy:=Bool×yb
abbrev zmF:=Xs->U7 Wy
abbrev zij:=Int×Int×Int×ql×Ud×GY×Us×Uf×Uf
abbrev zp1:=Int×Int×Int×zij
abbrev Uw:=zS×Sl qt×Sl qw×q8×zQ
abbrev zAE:=zQ×GV⊕Uw
abbrev Wx:=GW×Int×Int×(Sl qf×Uh×zQ)×Uz×qh
abbrev zd3:=zQ×GQ⊕Wx
abbrev zAF:=xj->U7 xj
abbrev xK:=GX×Uu×GU×GU×GZ
abbrev V7:=Bool×xK
abbrev zp2:=Int×GW×Int×Ug
abbrev zAG:=Int×Bool×Sl qm×q8×GP
abbrev zmG:=Xs->U7 yb
abbrev U3:=q8×zS×GW×zS×Sl qt
abbrev zp3:=Uh×GW×GW×Int×Int×U3
abbrev Yj:=GU×zD
abbrev W9:=zD->U7 Yj
abbrev zp4:=Ub×Int×Int×q6×GR×GR×Uy
abbrev zcE:=q6->U7 zjr
abbrev xk:=Int×zha
abbrev vk:=Int×ZA
abbrev v7:=qi×vk
abbrev zmH:=xk->U7 v7
abbrev xl:=Int×Ud×Uf
abbrev zd4:=yn->U7 xl
abbrev v6:=Int×xl
abbrev zp5:=yb->U7 v6
abbrev zfW:=GU×GX×GU×Uu×GZ
abbrev zp6:=Int×Ui
abbrev zmJ:=yb->U7 yn
abbrev zAJ:=ze⊕q7×GU×GW⊕q7×q8×GU
abbrev zmK:=Int×Int×Ub×zS×GZ×GZ×zS×Uc
abbrev vL:=Sl qm×GP×Sl qz
abbrev zAN:=Int×GT×Ur×q6×zX×zX×Uy
abbrev zvD:=Int×zAN
abbrev zvE:=xk->U7 vk
abbrev zAL:=zQ⊕Uh×GW×U3
abbrev zwI:=Int×GZ×ZA
abbrev zcF:=zwI->U7 ZA
abbrev Un:=Uz×GT×Ur×Sl q1j×Sl q1k
abbrev zp7:=Int×GW×Int×Int×q13×q6×Un
abbrev zjE:=Int×vk
abbrev zd5:=zjE->U7 ZA
abbrev zvH:=ze⊕q7×q8⊕X9
abbrev zcG:=ze⊕xi
abbrev zvI:=GW×GW×Int×Int×zS×GV
abbrev xm:=U5×zD
abbrev zU:=Bool×zD
abbrev ye:=xm->U7 zU
abbrev Ue:=U5×Sl zQ
abbrev zvJ:=Int×Int×Int×Int×Int×Int×ql×GY×Ue×Uf
abbrev zp8:=Int×Uq
abbrev vZ:=Int×Int×Int×Int×Int×Int×Int×ql×Ue×Sl ql×Uf
abbrev zwb:=Sl qm×GP
abbrev zjy:=Bool×X9
abbrev zjs:=U5×Int×zjy
abbrev zwc:=Int×GT×Ur×qi⊕GT×Ur×qi
abbrev zqc:=Int×Int×Int×Int×Int×ql×Ue×GY×Uf
abbrev xh:=xm->U7 zD
abbrev zg4:=GW×GW×Int×Int×Uw
abbrev Zv:=q6×zD
abbrev zwe:=Zv->U7 Zv
abbrev U0:=Sl qj×(Uh×Ub)×GW×GZ
abbrev zjt:=Int×Int×GW×Int×Int×Sl qf×q6×U0
abbrev zg6:=ql×GY×yb
abbrev zqd:=Uf×Int×Int×zg6
abbrev zqe:=zD->U7 zaF
abbrev Ut:=Int×q7
abbrev yu:=q7×GW
abbrev Zj:=ze⊕GU×yu
abbrev zju:=Ut->U7 Zj
abbrev Ww:=Yk->U7 zD
abbrev zjv:=zD->U7 Yk
abbrev zqf:=GW×Int×Int×Wx
abbrev zjQ:=U5×zX×Uy
abbrev zeK:=Int×zX×Uy
abbrev zwh:=zjQ->U7 zeK
abbrev wE:=zD->U7 Zv
abbrev zcH:=vk⊕ZA
abbrev zwi:=zQ⊕Int×Int×Int×ql×Ue×GY
abbrev zex:=Bool⊕Int×Int×Int×Int×Int×ql×Ue×Sl ql
abbrev zwj:=zQ⊕zS×GV
abbrev zwk:=xm⊕zD
abbrev zjx:=zQ×q8×zQ⊕q8×Int×Int×GS
abbrev ZQ:=q7->U7 Zj
abbrev zwv:=GU×yu⊕ze
abbrev zqg:=q7->U7 zwv
abbrev zqh:=(Int×zQ)×GW×Int×Int×GQ
abbrev zg7:=zQ⊕GV
abbrev zwl:=Uh×q8->U7 zg7
abbrev zwm:=ZA⊕ZA
abbrev zwn:=Int×q13×Un
abbrev Z4:=ze⊕GU×q7
abbrev wF:=q7->U7 Z4
abbrev zay:=GW×Int×Int×q8×Int×Int×GS
abbrev zqz:=Int×Int×GT×Ur×q6
abbrev zqm:=Int×GZ×zqz
abbrev zrm:=q6×Sl qj×Ub
abbrev zwr:=zrm->U7 ZA
abbrev zwS:=U5×U5×zcT×Sl qm
abbrev zg5:=GW×Int×Int×zwS
abbrev zqn:=Sl qh×GW×Int×Int×GQ
abbrev zqM:=Int×GZ×(Int×zQ)×Ur
abbrev Z6:=Int×Ur
abbrev U4:=U7 Z6
abbrev zwt:=zqM->U4
abbrev zaN:=ql×GY
abbrev zqZ:=Bool×Uf×zaN
abbrev zwu:=zqZ->U7 zaN
abbrev zaA:=ze⊕q7×q8⊕q7×GU
abbrev xr:=Int×Int×Uh
abbrev zww:=zQ×q8×xr⊕q8×xr
abbrev zjW:=zQ×xr
abbrev zwx:=zjW->U7 xr
abbrev Ym:=Int×Int×Uz
abbrev zj0:=zQ×Ym
abbrev zqp:=zj0->U7 Ym
abbrev zjA:=Int×Xs
abbrev zwy:=Int×Int×Sl qf×U0
abbrev zwz:=zeK⊕zX×Uy
abbrev zqr:=Int×Int×GT×Ur×q6×qi
abbrev zwC:=ze⊕q7×q8×GU
abbrev zez:=Int×GZ×vk
abbrev zeA:=GU×Int×Int×yu
abbrev xp:=U5×U5
abbrev zhi:=Bool×Sl ql×Sl q15
abbrev zcI:=xp->U7 zhi
abbrev zqs:=U5×(U5×xp)×Int
abbrev zqu:=Int×Int×Int×Int×Int×q6×Sl qq×q6×Sl qq
abbrev zwK:=Int×q6×U5×U5×zcT
abbrev zqv:=Int×zwK
abbrev zqx:=Int×GX×Uu×zcT
abbrev zjB:=GW×Sl qh×GQ
abbrev zcP:=Int×U5×Ur
abbrev zaO:=qi×Z6
abbrev zwE:=zcP->U7 zaO
abbrev zaH:=U5×GX
abbrev zwG:=zaH->U7 (Sl qw)
abbrev zeB:=zaH->U7 (Sl qu)
abbrev zq5:=Int×GZ×Uy×Ur
abbrev zwH:=zq5->U4
abbrev zkk:=q13×q1r×Bool
abbrev zwJ:=xp->U7 zkk
abbrev WA:=U5×q7
abbrev yc:=ze⊕q7
abbrev Xt:=WA->U7 yc
abbrev Va:=ze⊕Ut
abbrev zjD:=Ut->U7 Va
abbrev zw6:=WA⊕ze
abbrev zqA:=q7->U7 zw6
abbrev zrl:=q8×Sl qf×Uh
abbrev zwL:=zrl->U7 Ym
abbrev zhe:=ze⊕qr×q7
abbrev zwM:=Ut->U7 zhe
abbrev zqD:=(U5×xp)×Ut
abbrev zwN:=xr->U7 xr
abbrev zqE:=Ym->U7 Ym
abbrev zqF:=zcP->U4
abbrev zq0:=U5×zcT×Sl qq
abbrev zcK:=q6->U7 zq0
abbrev ZR:=ze⊕q8×q7
abbrev zqG:=q8×q7->U7 ZR
abbrev zqI:=Int×GZ×(Int×zQ)×Z6
abbrev wa:=GW×U5
abbrev yy:=Int×U5
abbrev zwQ:=wa->U7 yy
abbrev zaC:=U5×Int×Int×Int×Bool×q9×q9
abbrev zqJ:=GX×Uu×q6×GZ
abbrev wG:=q6×Ub
abbrev zka:=qd×Int×Int×Ub
abbrev zwR:=wG->U7 zka
abbrev zri:=Int×q6×qi×Ur
abbrev zeC:=zri->U4
abbrev yU:=ze⊕yu
abbrev Y2:=q7->U7 yU
abbrev zkl:=Bool×q8×Int
abbrev Yn:=zQ⊕Unit
abbrev zeD:=zkl->U7 Yn
abbrev zeE:=Int×Yk
abbrev zqK:=U5×zeK
abbrev zkn:=qa×U5
abbrev Z5:=Bool×U5
abbrev zwU:=zkn->U7 Z5
abbrev zaP:=q8×U5
abbrev zjH:=zaP->U7 Z5
abbrev zg9:=GW×Int×Int×q8×xr
abbrev zkq:=qh×U5
abbrev zwV:=zkq->U7 Z5
abbrev zjJ:=zS->U7 (qr×Int)
abbrev zaJ:=Int×Int×zaN
abbrev zwX:=zQ⊕zaJ
abbrev zq6:=q8×q7⊕ze
abbrev zjK:=q7->U7 zq6
abbrev Y3:=q7->U7 ZR
abbrev zhj:=qh×qh×we
abbrev zqL:=ql×Int->U7 zhj
abbrev Xv:=Sl qh×qh
abbrev zaM:=Bool×Xv
abbrev zjM:=Xv->U7 zaM
abbrev Vh:=q8×Uh
abbrev zkf:=Int×Int×Sl qf
abbrev zwY:=Vh->U7 zkf
abbrev zkg:=Int×Int×Sl qj
abbrev zwZ:=wG->U7 zkg
abbrev zw0:=Int×Int×Int×Int×q6×Sl qq×q6
abbrev zqN:=Int×Int×Int×ql×Us×Uf
abbrev zro:=Int×Int×Sl qr
abbrev zjN:=U5->U7 zro
abbrev vo:=Int×Xv
abbrev zw1:=Xv->U7 vo
abbrev zjO:=U5->U7 (Int×Int×Uu)
abbrev zhk:=Int×Uz×q8
abbrev zqO:=Uz×q8->U7 zhk
abbrev zqP:=Int×Int×q13×q1r×Sl ql×Sl q15
abbrev zqQ:=Int×Int×ql×Uf×zcT
abbrev zj6:=zcT×U5
abbrev Ua:=U7 Int
abbrev zw3:=zj6->Ua
abbrev zrn:=ql×Int×Us
abbrev zqR:=zrn->U7 Us
abbrev zaG:=Ut->U7 ze
abbrev zqS:=zcT×zS
abbrev zko:=qf×zQ
abbrev zw4:=Vh->U7 zko
abbrev zkp:=qj×zQ
abbrev zw5:=wG->U7 zkp
abbrev zqU:=Int×Int×Int×q6×Sl qq×Sl qq
abbrev zjR:=Sl qh×Int×Int×ql×qm×Uf
abbrev Ul:=U7 Bool
abbrev zqV:=xp->Ul
abbrev zI:=Bool×q7
abbrev Zw:=WA->U7 zI
abbrev zrd:=qa×U5×GW
abbrev zeH:=zrd->Ua
abbrev zqW:=zX->U7 (q9×Int)
abbrev zeI:=U5->U7 (q8×zQ)
abbrev zeJ:=U5->U7 (q6×zQ)
abbrev zjT:=Int×Int×Int×Int×ql×Sl ql
abbrev zks:=GW×GW
abbrev zhb:=GW×Int×Int×zks
abbrev zjU:=Uh×GW×zkf
abbrev Vg:=Int×Sl qm
abbrev zhc:=qm×Sl qm->U7 Vg
abbrev zqY:=Int×GZ×Uy×Z6
abbrev zjV:=Int×Int×zcT×Sl qz
abbrev zq1:=wa->Ul
abbrev zhd:=U5×Int×Int×q9×q9
abbrev zhl:=qi×Bool
abbrev zjX:=wG->U7 zhl
abbrev zjY:=q8->U7 xr
abbrev zjZ:=q6->U7 (Int×Int×Ub)
abbrev zj1:=U5->U7 (q13×Bool)
abbrev zcQ:=Uh×U5
abbrev zcN:=zcQ->Ua
abbrev zw7:=Vh->U7 (qh×Int)
abbrev zkd:=Ub×U5
abbrev v8:=zkd->Ua
abbrev zke:=GZ×U5
abbrev zeL:=zke->Ua
abbrev zeM:=ql×Int->U7 we
abbrev zw9:=zQ⊕U5×Sl qr
abbrev zq2:=Uh×Int×yy
abbrev zeN:=GW×Int×yy
abbrev zj2:=vo⊕Xv
abbrev zxa:=zQ⊕U5×Uu
abbrev zq3:=Sl qh×Int×yy
abbrev zxb:=zhk⊕Uz×q8
abbrev yJ:=q8×Sl qm->U7 (Sl qm)
abbrev zq4:=Int×U5×Z6
abbrev Vi:=qm×Bool
abbrev zcO:=ql×Int->U7 Vi
abbrev Wz:=zX->Ua
abbrev zj3:=U5->U7 U5
abbrev WC:=Bool×qh
abbrev zj4:=qh×qh->U7 WC
abbrev zhm:=Bool×q8
abbrev zxc:=qf×q8->U7 zhm
abbrev Xw:=Bool×qm
abbrev zxd:=qf×qm->U7 Xw
abbrev zxe:=qe×qm->U7 Xw
abbrev zaK:=yy⊕U5
abbrev zeP:=q8->U7 zks
abbrev vm:=qe×U5->Ua
abbrev Vb:=q6×Int->U7 (Sl qq)
abbrev zj5:=ze⊕q7×q8
abbrev zhf:=Us->U7 Us
abbrev ZB:=ql×Int->U7 Uf
abbrev zhg:=qm->U7 zcT
abbrev zeR:=ql->U7 GY
abbrev zeS:=q6×Int->U7 GZ
abbrev zq7:=GW×Int×Int×Sl qz
abbrev zq8:=GW×Int×Vg
abbrev zj7:=Ub×Int×q6×Sl qj
abbrev vn:=U5->Ul
abbrev zhh:=U5×Int×Sl qr
abbrev zq9:=Int×GW×zQ
abbrev Ve:=U5×Int×Uu
abbrev zra:=Ub×zX
abbrev zrb:=GZ×zX
abbrev zrc:=ql->U7 zQ
abbrev zeU:=Int×vo
abbrev zj9:=Int×Int×q6×GZ
abbrev zre:=Sl qf×Int×Int×q8
abbrev zrf:=Int×zhk
abbrev zeV:=Int×Int×q6×Sl qq
abbrev zrg:=Sl qf×Int×Int×qm
abbrev zrh:=Uz×Int×Int×qm
abbrev xq:=q7->U7 (qr×q7)
abbrev Vf:=ql×Int->Ua
abbrev zrj:=q8×Int->U7 qz
abbrev zkc:=q8->U7 (Sl qz)
abbrev zeW:=Z6⊕Ur
abbrev zrk:=GZ×Int×Sl qp
abbrev zaL:=Unit->Ul
abbrev Zk:=Int->Ul
abbrev zkh:=Sl qh×U5
abbrev zki:=Int×Int×Sl ql
abbrev zkj:=Int×wG
abbrev wc:=q8->Ua
abbrev wd:=q6->Ua
abbrev zkm:=q8×q8×Sl qm
abbrev zcR:=q8->U7 q1j
abbrev zeX:=Int×Ut
abbrev zcS:=q8->U7 qz
abbrev zkr:=q8->U7 q8
abbrev WB:=q6->U7 qp
abbrev zkt:=Int×qm⊕qm
abbrev zeY:=Int⊕Unit
abbrev zeZ:=qh×Uh
abbrev zih:=zcD
abbrev Wv:=YB
abbrev zii:=zcF
abbrev zeQ:=yJ
abbrev zeT:=Vb
abbrev Zr:=U5
def qg6(x:Int):Ul:=f (q (x≠10))
def qcj:Zk:=qg6
theorem qlm:qcj=P0.F:=by kernel_rfl
def qkn(A:Zk):zX->U7 (Step zX Int):=λa=>(if q (a.2 < (↑(V a.1):Int))=g then(Zg a.1 a.2).bind λb=>(A b).bind λc=>f (a.1,a.2,c) else f (a.1,a.2,N)).bind λb=>if b.2.2=g then f (Step.next (b.1,U8 (b.2.1+1))) else f (Step.done b.2.1)
def qh5(A:Zk)(x:zX):Ua:=(lpO (qkn A) x).bind λa=>f a
def qcb:zX->Ua:=qh5 qcj
theorem ql3:qcb=P1.F:=by delta qcb;rw[qlm];kernel_rfl
def qho(x:Int):Ul:=(if q (48<=x)=g then f (q (x<=57)) else f N).bind λa=>f a
def qal:Zk:=qho
theorem qi2:qal=P2.F:=by kernel_rfl
def q6o(A:Zk):zX->U7 (Step zX Int):=λa=>(if q (a.2 < (↑(V a.1):Int))=g then(Zg a.1 a.2).bind λb=>(A b).bind λc=>f (a.1,a.2,c) else f (a.1,a.2,N)).bind λb=>if b.2.2=g then f (Step.next (b.1,U8 (b.2.1+1))) else f (Step.done b.2.1)
def qhs(A:Zk)(x:zX):Ua:=(lpO (q6o A) x).bind λa=>f a
def qdz:zX->Ua:=qhs qal
theorem qlk:qdz=P3.F:=by delta qdz;rw[qi2];kernel_rfl
def qe2:=ww
theorem qko:F4=qe2:=rfl
def qh9(x:Int):Ul:=(if q (97<=x)=g then if q (x<=122)=g then f g else f (q (x=95)) else f (q (x=95))).bind λa=>f a
def q8n:Zk:=qh9
theorem qht:q8n=P5.F:=by kernel_rfl
def qhb(A:zS->U7 (Int⊕Int))(B:Zk)(x:zS):U7 (qr×Int):=(ZH x.1 x.2.1 x.2.2).bind λa=>((A (a,10,64)).bind λb=>F (λc=>f (y (x.1,x.2.1,x.2.2,a,c,qr.mk 0 (lit []) 0 0))) (λc=>f (M (x.1,x.2.1,x.2.2,a,c,qr.mk 0 (lit []) 0 0))) b).bind λb=>F (λc=>if q (1099511627776 < c.2.2.2.2.1)=g then f (qr.mk 0 (lit []) 0 0,12) else if q (1 < (↑(V c.2.2.2.1):Int))=g then(Zg c.2.2.2.1 0).bind λd=>if q (d=48)=g then f (qr.mk 0 (lit []) 0 0,12) else if q (c.2.2.1 < (↑(V c.1):Int))=g then(Zg c.1 c.2.2.1).bind λe=>(B e).bind λi=>if i=g then f (qr.mk 0 (lit []) 0 0,12) else f (qr.mk 3 c.2.2.2.1 c.2.2.2.2.1 c.2.1,0) else f (qr.mk 3 c.2.2.2.1 c.2.2.2.2.1 c.2.1,0) else if q (c.2.2.1 < (↑(V c.1):Int))=g then(Zg c.1 c.2.2.1).bind λj=>(B j).bind λl=>if l=g then f (qr.mk 0 (lit []) 0 0,12) else f (qr.mk 3 c.2.2.2.1 c.2.2.2.2.1 c.2.1,0) else f (qr.mk 3 c.2.2.2.1 c.2.2.2.2.1 c.2.1,0)) (λc=>f (qr.mk 0 (lit []) 0 0,12)) b
def qe1:zS->U7 (qr×Int):=qhb qe2 q8n
theorem qlv:qe1=P6.F:=by delta qe1;rw[<-qko,qht];kernel_rfl
def qha(A:Zk)(B:Zk)(x:Int):Ul:=((A x).bind λa=>if a=g then f g else(B x).bind λb=>f b).bind λa=>f a
def qe0:Zk:=qha q8n qal
theorem qlw:qe0=P7.F:=by delta qe0;rw[qht,qi2];kernel_rfl
def ql4(A:Zk):zX->U7 (Step zX Int):=λa=>(if q (a.2 < (↑(V a.1):Int))=g then(Zg a.1 a.2).bind λb=>(A b).bind λc=>f (a.1,a.2,c) else f (a.1,a.2,N)).bind λb=>if b.2.2=g then f (Step.next (b.1,U8 (b.2.1+1))) else f (Step.done b.2.1)
def qhh(A:Zk)(x:zX):Ua:=(lpO (ql4 A) x).bind λa=>f a
def qcy:zX->Ua:=qhh qe0
theorem qlg:qcy=P8.F:=by delta qcy;rw[qlw];kernel_rfl
def qhp(x:Zr):Ul:=(if q (x=lit [116,121,112,101])=g then f (q (x=lit [116,121,112,101])) else(if q (x=lit [102,110])=g then f (q (x=lit [102,110])) else(if q (x=lit [111,119,110])=g then f (q (x=lit [111,119,110])) else(if q (x=lit [99,101,108,108])=g then f (q (x=lit [99,101,108,108])) else(if q (x=lit [99,111,117,110,116,101,100])=g then f (q (x=lit [99,111,117,110,116,101,100])) else(if q (x=lit [108,111,99,107])=g then f (q (x=lit [108,111,99,107])) else(if q (x=lit [103,117,97,114,100])=g then f (q (x=lit [103,117,97,114,100])) else(if q (x=lit [119,104,101,114,101])=g then f (q (x=lit [119,104,101,114,101])) else(if q (x=lit [105,110,116])=g then f (q (x=lit [105,110,116])) else(if q (x=lit [109,117,116])=g then f (q (x=lit [109,117,116])) else(if q (x=lit [102,114,101,101])=g then f (q (x=lit [102,114,101,101])) else(if q (x=lit [117,110,108,111,99,107])=g then f (q (x=lit [117,110,108,111,99,107])) else(if q (x=lit [105,102])=g then f (q (x=lit [105,102])) else(if q (x=lit [101,108,115,101])=g then f (q (x=lit [101,108,115,101])) else(if q (x=lit [119,104,105,108,101])=g then f (q (x=lit [119,104,105,108,101])) else(if q (x=lit [114,101,116,117,114,110])=g then f (q (x=lit [114,101,116,117,114,110])) else(if q (x=lit [97,98,111,114,116])=g then f (q (x=lit [97,98,111,114,116])) else(if q (x=lit [102,111,114,107])=g then f (q (x=lit [102,111,114,107])) else(if q (x=lit [110,101,119])=g then f (q (x=lit [110,101,119])) else f (q (x=lit [97,114,114,97,121]))).bind λa=>f a).bind λa=>f a).bind λa=>f a).bind λa=>f a).bind λa=>f a).bind λa=>f a).bind λa=>f a).bind λa=>f a).bind λa=>f a).bind λa=>f a).bind λa=>f a).bind λa=>f a).bind λa=>f a).bind λa=>f a).bind λa=>f a).bind λa=>f a).bind λa=>f a).bind λa=>f a).bind λa=>if a=g then f g else f N
def qev:vn:=qhp
theorem qm2:qev=P9.F:=by kernel_rfl
def qi1(A:vn)(x:zS):U7 (qr×Int):=(ZH x.1 x.2.1 x.2.2).bind λa=>if q (16 < (↑a.size:Int))=g then f (qr.mk 0 (lit []) 0 0,13) else(A a).bind λb=>(if b=g then f (qr.mk 0 (lit []) 0 0,qr.mk 2 a 0 x.2.1) else f (qr.mk 0 (lit []) 0 0,qr.mk 1 a 0 x.2.1)).bind λc=>f (c.2,0)
def qg7:zS->U7 (qr×Int):=qi1 qev
theorem qm7:qg7=P10.F:=by delta qg7;rw[qm2];kernel_rfl
def q4k(x:xp):Ul:=(if q ((↑(V x.2):Int)<=(↑(V x.1):Int))=g then(ZH x.1 0 (↑(V x.2):Int)).bind λa=>f (q (a=x.2)) else f N).bind λa=>f a
def qas:xp->Ul:=q4k
theorem qfi:qas=P11.F:=by kernel_rfl
def qgc(A:zqV)(x:xp):Ul:=(A x).bind λa=>f a
def q7x:xp->Ul:=qgc qas
theorem qk2:q7x=P12.F:=by delta q7x;rw[qfi];kernel_rfl
def q7y:=Wg
theorem qk3:F13=q7y:=rfl
def qbw(A:zqV)(B:Wz):zqs->U7 (Step zqs (U5⊕U5)):=λa=>if q (a.2.2 < 3)=g then(vF [a.2.1.1,a.2.1.2.1,a.2.1.2.2] a.2.2).bind λb=>(A (a.1,b)).bind λc=>if c=g then f (Step.done (y b)) else f (Step.next (a.1,a.2.1,U8 (a.2.2+1))) else f (Step.done (M a.1))
def qle(A:zqV)(B:Wz)(x:Zr):U7 U5:=(lpO (qbw A B) (x,(lit [45,62],lit [60,61],lit [61,61]),0)).bind λa=>F (λb=>f b) (λb=>(Zg b 0).bind λc=>(B (lit [123,125,40,41,91,93,44,58,59,61,43,45,38,60],c)).bind λd=>if q (0<=d)=g then(ZH b 0 1).bind λe=>f e else f (lit [])) a
def qhk:zj3:=qle q7x q7y
theorem qm8:qhk=P14.F:=by delta qhk;rw[qk2,<-qk3];kernel_rfl
def qfa(A:Wz)(B:Zk)(C:Wz)(D:zjJ)(E:Zk)(G:Wz)(H:zjJ)(I:zj3):zhh->U7 (Step zhh zw9):=λa=>if q (a.2.1 < (↑(V a.1):Int))=g then((Zg a.1 a.2.1).bind λb=>(if q (b=32)=g then f (a.1,a.2.1,0,b,g,a.2.2,qr.mk 0 (lit []) 0 0) else f (a.1,a.2.1,0,b,q (b=10),a.2.2,qr.mk 0 (lit []) 0 0)).bind λc=>(if c.2.2.2.2.1=g then f (y (c.1,U8 (c.2.1+1),c.2.2.2.2.2.1)) else if q (c.2.2.2.1=35)=g then(A (c.1,c.2.1)).bind λd=>f (y (c.1,d,c.2.2.2.2.2.1)) else(B c.2.2.2.1).bind λe=>(if e=g then(C (c.1,c.2.1)).bind λi=>(D (c.1,c.2.1,i)).bind λj=>f (c.1,c.2.1,j.2,c.2.2.2.2.2.1,j.1) else(E c.2.2.2.1).bind λl=>(if l=g then(G (c.1,c.2.1)).bind λm=>(H (c.1,c.2.1,m)).bind λn=>f (c.1,c.2.1,n.2,c.2.2.2.2.2.1,n.1) else(ZH c.1 c.2.1 (↑(V c.1):Int)).bind λo=>(I o).bind λp=>(if q (p=lit [])=g then f (c.1,c.2.1,11,c.2.2.2.2.2.1,qr.mk 4 p 0 c.2.1) else f (c.1,c.2.1,c.2.2.1,c.2.2.2.2.2.1,qr.mk 4 p 0 c.2.1)).bind λr=>f r).bind λm=>f m).bind λi=>f (M i)).bind λd=>F (λe=>f (y e)) (λe=>if q (e.2.2.1≠0)=g then f (M (e.2.1,e.2.2.1)) else(zo 40 e.2.2.2.1 [e.2.2.2.2]).bind λi=>f (y (e.1,U8 (e.2.1+(↑e.2.2.2.2.T_.size:Int)),i))) d).bind λb=>F (λc=>f (Step.next c)) (λc=>f (Step.done (y c))) b else f (Step.done (M (a.1,a.2.2)))
def qhc(A:Wz)(B:Zk)(C:Wz)(D:zjJ)(E:Zk)(G:Wz)(H:zjJ)(I:zj3)(x:Zr):U7 zro:=(if q (16384 < (↑x.size:Int))=g then f (0,10,O [] N) else(lpO (qfa A B C D E G H I) (x,0,O [] N)).bind λa=>F (λb=>f (b.1,b.2,O [] N)) (λb=>(zo 40 b.2 [qr.mk 0 (lit []) 0 (↑(V b.1):Int)]).bind λc=>f (0,0,c)) a).bind λa=>f a
def qck:zjN:=qhc qcb qal qdz qe1 q8n qcy qg7 qhk
theorem qlx:qck=P15.F:=by delta qck;rw[ql3,qi2,qlk,qlv,qht,qlg,qm7,qm8];kernel_rfl
def qfl(x:q7):U7 (qr×q7):=(za x.Z_ 0).bind λa=>f (a,x)
def q14:xq:=qfl
theorem q2m:q14=P16.F:=by kernel_rfl
def qgx(A:xq)(x:WA):U7 zI:=(A x.2).bind λa=>(if q (a.1.k_=2)=g then f (q (a.1.T_=x.1),a.2) else if q (a.1.k_=4)=g then f (q (a.1.T_=x.1),a.2) else f (N,a.2)).bind λb=>f b
def q2b:WA->U7 zI:=qgx q14
theorem q75:q2b=P17.F:=by delta q2b;rw[q2m];kernel_rfl
def qgd(A:Zw)(x:WA):U7 zI:=(A x).bind λa=>if(!a.1)=g then f (N,a.2) else(z7 a.2.Z_ 1 a.2.Z_.len).bind λb=>f (g,q7.mk b a.2.D_)
def q11:WA->U7 zI:=qgd q2b
theorem q1g:q11=P18.F:=by delta q11;rw[q75];kernel_rfl
def qfm(A:xq)(x:Ut):U7 ze:=(A x.2).bind λa=>f ((a.1.a_,x.1),a.2)
def q1t:Ut->U7 ze:=qfm q14
theorem q63:q1t=P19.F:=by delta q1t;rw[q2m];kernel_rfl
def qfn(A:xq)(B:zaG)(x:Ut):U7 zhe:=(A x.2).bind λa=>if q (a.1.k_≠x.1)=g then(B (20,a.2)).bind λb=>f (y b) else(z7 a.2.Z_ 1 a.2.Z_.len).bind λc=>f (M (a.1,q7.mk c a.2.D_))
def q5r:Ut->U7 zhe:=qfn q14 q1t
theorem qge:q5r=P20.F:=by delta q5r;rw[q2m,q63];kernel_rfl
def qfo(A:zwM)(x:q7):U7 Z4:=(A (1,x)).bind λa=>F (λb=>f (y b)) (λb=>f (M ((5,b.1.T_,0,b.1.a_),b.2))) a
def q1c:wF:=qfo q5r
theorem q2y:q1c=P21.F:=by delta q1c;rw[qge];kernel_rfl
def qfp(A:Zw)(B:zaG)(x:WA):U7 yc:=(A x).bind λa=>if(!a.1)=g then(B (20,a.2)).bind λb=>f (y b) else f (M a.2)
def q18:WA->U7 yc:=qfp q11 q1t
theorem q2a:q18=P22.F:=by delta q18;rw[q1g,q63];kernel_rfl
def qfq(A:xq)(B:Zw)(C:Xt)(D:wF)(x:q7):U7 zq6:=(A x).bind λa=>(A a.2).bind λb=>(B (lit [105,110,116],b.2)).bind λc=>if c.1=g then f (y (q8.mk 8 a.1.T_ 0 b.1.a_ (O [] N),c.2)) else(B (lit [111,119,110],c.2)).bind λd=>(if d.1=g then f (y (d.2,(0,lit [],0,0),8,a.1.T_,0,b.1.a_)) else(C (lit [38],d.2)).bind λe=>F (λi=>f (M i)) (λi=>(B (lit [109,117,116],i)).bind λj=>(if j.1=g then f (j.2,(0,lit [],0,0),8,lit [38,109,117,116],0,b.1.a_) else f (j.2,(0,lit [],0,0),8,a.1.T_,0,b.1.a_)).bind λ(l:X9)=>f (y l)) e).bind λ(e:q7×(Int×U5×Int×Int)×Int×U5×Int×Int⊕zQ×q7)=>F (λi=>(D i.1).bind λj=>F (λl=>f (M l)) (λl=>f (y (q8.mk i.2.2.1 i.2.2.2.1 i.2.2.2.2.1 i.2.2.2.2.2 (O [q8.mk l.1.1 l.1.2.1 l.1.2.2.1 l.1.2.2.2 (O [] N)] g),l.2))) j) (λi=>f (M i)) e
def qa5:zjK:=qfq q14 q11 q18 q1c
theorem qgf:qa5=P23.F:=by delta qa5;rw[q2m,q1g,q2a,q2y];kernel_rfl
def qez(A:wF)(B:Xt)(C:zjK)(x:q7):U7 Zj:=(A x).bind λa=>F (λb=>f (y b)) (λb=>(B (lit [58],b.2)).bind λc=>F (λd=>f (y d)) (λd=>(C d).bind λe=>F (λi=>f (M ((7,b.1.2),i.2,O [ke i.1] g))) (λi=>f (y i)) e) c) a
def q8y:ZQ:=qez q1c q18 qa5
theorem qil:q8y=P24.F:=by delta q8y;rw[q2y,q2a,qgf];kernel_rfl
def q8p(A:ZQ)(B:Zw):yu->U7 (Step yu yU):=λa=>(B (lit [44],a.1)).bind λb=>if b.1=g then(A b.2).bind λc=>F (λd=>f (Step.done (y d))) (λd=>(zo 64 a.2 [q8.mk d.1.1 d.1.2.1 d.1.2.2.1 d.1.2.2.2 d.2.2]).bind λe=>f (Step.next (d.2.1,e))) c else f (Step.done (M (b.2,a.2)))
def qcw(A:ZQ)(B:Zw)(x:q7):U7 yU:=(A x).bind λa=>F (λb=>f (y b)) (λb=>(lpO (q8p A B) (b.2.1,O [q8.mk b.1.1 b.1.2.1 b.1.2.2.1 b.1.2.2.2 b.2.2] g)).bind λc=>F (λd=>f (y d)) (λd=>f (M d)) c) a
def q9x:Y2:=qcw q8y q11
theorem qhf:q9x=P25.F:=by delta q9x;rw[qil,q1g];kernel_rfl
def qel(x:q8×Int):U7 (q8×Int):=f (q8.mk x.1.k_ x.1.T_ x.1.n_ x.2 x.1.K_,x.2)
def q85:q8×Int->U7 (q8×Int):=qel
theorem qi3:q85=P26.F:=by kernel_rfl
def qf0(A:Xt)(x:q8×q7):U7 ZR:=(A (lit [59],x.2)).bind λa=>F (λb=>f (y b)) (λb=>f (M (ke x.1,b))) a
def q6q:q8×q7->U7 ZR:=qf0 q18
theorem qim:q6q=P27.F:=by delta q6q;rw[q2a];kernel_rfl
def qem(A:zwM)(x:Ut):U7 Va:=(A (3,x.2)).bind λa=>F (λb=>f (y b)) (λb=>f (M (U8 (x.1 * b.1.n_),b.2))) a
def q4y:Ut->U7 Va:=qem q5r
theorem q8g:q4y=P28.F:=by delta q4y;rw[qge];kernel_rfl
def qgy(A:wF)(B:Xt)(C:zjD)(x:Ut):U7 Z4:=(A x.2).bind λa=>F (λb=>f (y b)) (λb=>(B (lit [91],b.2)).bind λc=>F (λd=>f (y d)) (λd=>(C (1,d)).bind λe=>F (λi=>f (y i)) (λi=>(B (lit [93],i.2)).bind λj=>F (λl=>f (y l)) (λl=>f (M ((x.1,b.1.2.1,i.1,b.1.2.2.2),l))) j) e) c) a
def qbf:Ut->U7 Z4:=qgy q1c q18 q4y
theorem qkp:qbf=P29.F:=by delta qbf;rw[q2y,q2a,q8g];kernel_rfl
def qfr(A:Zw)(B:zjD)(x:q8×q7):U7 ZR:=(A (lit [43],x.2)).bind λa=>(if a.1=g then(B (1,a.2)).bind λb=>F (λc=>f (y c)) (λc=>f (M (c.2,q8.mk x.1.k_ x.1.T_ c.1 x.1.a_ x.1.K_,0,lit [],0,0))) b else(A (lit [45],a.2)).bind λc=>(if c.1=g then(B (-1,c.2)).bind λd=>F (λe=>f (y e)) (λe=>f (M (e.2,q8.mk x.1.k_ x.1.T_ e.1 x.1.a_ x.1.K_,0,lit [],0,0))) d else f (M (c.2,ke x.1,0,lit [],0,0))).bind λ(d:zwC)=>F (λe=>f (y e)) (λe=>f (M (e.1,ke e.2.1,e.2.2))) d).bind λ(b:zwC)=>F (λc=>f (y c)) (λc=>f (M (ke c.2.1,c.1))) b
def q5s:q8×q7->U7 ZR:=qfr q11 q4y
theorem qgg:q5s=P30.F:=by delta q5s;rw[q1g,q8g];kernel_rfl
def qfs(A:xq)(B:zjD)(C:Zw)(D:wF)(E:zqG)(x:q7):U7 ZR:=(A x).bind λa=>(A a.2).bind λb=>(if q (b.1.k_=3)=g then(B (1,b.2)).bind λc=>F (λd=>f (y d)) (λd=>f (M (y (d.2,5,lit [],d.1,a.1.a_)))) c else(C (lit [45],b.2)).bind λd=>if d.1=g then(B (-1,d.2)).bind λe=>F (λi=>f (y i)) (λi=>f (M (y (i.2,5,lit [],i.1,a.1.a_)))) e else f (M (M (d.2,0,lit [],0,0)))).bind λ(c:zQ×q7⊕q7×Int×U5×Int×Int⊕q7×Int×U5×Int×Int)=>F (λd=>f (y d)) (λd=>F (λe=>f (M (q8.mk e.2.1 e.2.2.1 e.2.2.2.1 e.2.2.2.2 (O [] N),e.1))) (λe=>((D e.1).bind λi=>F (λj=>f (y j)) (λj=>(E (q8.mk j.1.1 j.1.2.1 j.1.2.2.1 j.1.2.2.2 (O [] N),j.2)).bind λl=>F (λm=>f (y m)) (λm=>f (M (m.2,ke m.1))) l) i).bind λ(i:zj5)=>F (λj=>f (y j)) (λj=>f (M (ke j.2,j.1))) i) d) c
def q2k:Y3:=qfs q14 q4y q11 q1c q5s
theorem q7f:q2k=P31.F:=by delta q2k;rw[q2m,q8g,q1g,q2y,qgg];kernel_rfl
def q7a(A:Zw)(B:zaG):zqD->U7 (Step zqD (WA⊕q7)):=λa=>if q (a.2.1 < 3)=g then(vF [a.1.1,a.1.2.1,a.1.2.2] a.2.1).bind λb=>(A (b,a.2.2)).bind λc=>if c.1=g then f (Step.done (y (b,c.2))) else f (Step.next (a.1,U8 (a.2.1+1),c.2)) else f (Step.done (M a.2.2))
def qgh(A:Zw)(B:zaG)(x:q7):U7 zw6:=(lpO (q7a A B) ((lit [60],lit [60,61],lit [61,61]),0,x)).bind λa=>F (λb=>f (y b)) (λb=>(B (20,b)).bind λc=>f (M c)) a
def qdo:zqA:=qgh q11 q1t
theorem qk4:qdo=P32.F:=by delta qdo;rw[q1g,q63];kernel_rfl
def qft(A:Y3)(B:zqA)(x:q7):U7 Zj:=(A x).bind λa=>F (λb=>f (y b)) (λb=>(B b.2).bind λc=>F (λd=>(A d.2).bind λe=>F (λi=>f (y i)) (λi=>f (M ((4,d.1,0,b.1.a_),i.2,O [ke b.1,ke i.1] g))) e) (λd=>f (y d)) c) a
def q4r:ZQ:=qft q2k qdo
theorem qgi:q4r=P33.F:=by delta q4r;rw[q7f,qk4];kernel_rfl
def q9u(A:Y3)(B:Zw):yu->U7 (Step yu yU):=λa=>(B (lit [44],a.1)).bind λb=>if b.1=g then(A b.2).bind λc=>F (λd=>f (Step.done (y d))) (λd=>(zo 64 a.2 [ke d.1]).bind λe=>f (Step.next (d.2,e))) c else f (Step.done (M (b.2,a.2)))
def qdl(A:Y3)(B:Zw)(x:q7):U7 yU:=(A x).bind λa=>F (λb=>f (y b)) (λb=>(lpO (q9u A B) (b.2,O [ke b.1] g)).bind λc=>F (λd=>f (y d)) (λd=>f (M d)) c) a
def qa3:Y2:=qdl q2k q11
theorem qhm:qa3=P34.F:=by delta qa3;rw[q7f,q1g];kernel_rfl
def qfu(A:Xt)(B:Zw)(C:Y2)(x:q7):U7 yU:=(A (lit [40],x)).bind λa=>F (λb=>f (y b)) (λb=>(B (lit [41],b)).bind λc=>if c.1=g then f (M (c.2,O [] N)) else(C c.2).bind λd=>F (λe=>f (y e)) (λe=>(A (lit [41],e.1)).bind λi=>F (λj=>f (y j)) (λj=>f (M (j,e.2))) i) d) a
def q5t:Y2:=qfu q18 q11 qa3
theorem qde:q5t=P35.F:=by delta q5t;rw[q2a,q1g,qhm];kernel_rfl
def qfv(A:xq)(B:Zw)(C:zjD)(D:wF)(E:Y3)(G:Zw)(H:Y2)(I:Xt)(J:zqG)(x:q7):U7 ZR:=(A x).bind λa=>(B (lit [110,101,119],a.2)).bind λb=>(if b.1=g then(C (1,b.2)).bind λc=>F (λd=>f (y d)) (λd=>f (M (y (d.2,q8.mk 23 (lit []) d.1 a.1.a_ (O [] N))))) c else(B (lit [97,114,114,97,121],b.2)).bind λd=>(if d.1=g then(D d.2).bind λe=>F (λi=>f (y i)) (λi=>f (M (y (i.2,q8.mk 24 i.1.2.1 0 a.1.a_ (O [] N))))) e else(B (lit [38],d.2)).bind λi=>(if i.1=g then(B (lit [109,117,116],i.2)).bind λj=>(if j.1=g then f (j.2,(0,lit [],0,0),27,lit [],0,a.1.a_) else f (j.2,(0,lit [],0,0),26,lit [],0,a.1.a_)).bind λ(l:X9)=>(D l.1).bind λm=>F (λn=>f (y n)) (λn=>f (M (y (n.2,q8.mk l.2.2.1 n.1.2.1 l.2.2.2.2.1 l.2.2.2.2.2 (O [] N))))) m else(A i.2).bind λn=>if q (n.1.k_≠1)=g then(E n.2).bind λo=>F (λp=>f (y p)) (λp=>f (M (y (p.2,ke p.1)))) o else f (M (M (n.2,(0,lit [],0,0),0,lit [],0,a.1.a_)))).bind λ(j:zvH)=>F (λl=>f (y l)) (λl=>F (λm=>f (M (y (m.1,ke m.2)))) (λm=>f (M (M m))) l) j).bind λ(e:zvH)=>F (λi=>f (y i)) (λi=>F (λj=>f (M (y (j.1,ke j.2)))) (λj=>f (M (M j))) i) e).bind λ(c:zvH)=>F (λd=>f (y d)) (λd=>F (λe=>f (M (ke e.2,e.1))) (λe=>(D e.1).bind λi=>F (λj=>f (y j)) (λj=>(G (lit [40],j.2)).bind λl=>(if l.1=g then(H l.2).bind λm=>F (λn=>f (y n)) (λn=>f (M (y (n.1,(28,j.1.2),n.2)))) m else(B (lit [91],l.2)).bind λn=>(if n.1=g then(E n.2).bind λo=>F (λp=>f (y p)) (λp=>(I (lit [93],p.2)).bind λr=>F (λs=>f (y s)) (λs=>f (M (y (s,(25,j.1.2),O [ke p.1] g)))) r) o else f (M (M (n.2,e.2.1,j.1)))).bind λ(o:zvu)=>F (λp=>f (y p)) (λp=>F (λr=>f (M (y r))) (λr=>f (M (M r))) p) o).bind λ(m:zvu)=>F (λn=>f (y n)) (λn=>F (λo=>f (M (q8.mk o.2.1.1 o.2.1.2.1 o.2.1.2.2.1 o.2.1.2.2.2 o.2.2,o.1))) (λo=>(Yc (((G (lit [43],o.1)).bind λp=>if p.1=g then(za p.2.Z_ 1).bind λr=>f (lit [43],21,q (r.k_=1),p.2,o.2) else f (lit [43],21,N,p.2,o.2)).bind λ(p:zjs)=>(if p.2.2.1=g then(I (p.1,p.2.2.2.1)).bind λr=>F (λs=>f (y (s.1,s.2,p.2.2.2.2))) (λs=>(D s).bind λt=>F (λu=>f (y (u.1,u.2,p.2.2.2.2))) (λu=>f (M (y (u.2,(p.2.1,lit [],0,p.2.2.2.2.2.2.2.2),p.2.2.2.2.2,O [q8.mk p.2.2.2.2.2.1 p.2.2.2.2.2.2.1 p.2.2.2.2.2.2.2.1 p.2.2.2.2.2.2.2.2 (O [] N),q8.mk u.1.1 u.1.2.1 u.1.2.2.1 u.1.2.2.2 (O [] N)] g)))) t) r else f (M (M p.2.2.2))).bind λ(r:tA0)=>F (λs=>f (y (s.1,s.2.1))) (λs=>F (λt=>f (M (y (t.1,t.2.1,t.2.2.2)))) (λt=>((G (lit [45],t.1)).bind λu=>if u.1=g then(za u.2.Z_ 1).bind λv=>f (lit [45],22,q (v.k_=1),u.2,t.2) else f (lit [45],22,N,u.2,t.2)).bind λ(u:zjs)=>(if u.2.2.1=g then(I (u.1,u.2.2.2.1)).bind λv=>F (λw=>f (y (w.1,w.2,u.2.2.2.2))) (λw=>(D w).bind λz=>F (λK=>f (y (K.1,K.2,u.2.2.2.2))) (λK=>f (M (y (K.2,(u.2.1,lit [],0,u.2.2.2.2.2.2.2.2),u.2.2.2.2.2,O [q8.mk u.2.2.2.2.2.1 u.2.2.2.2.2.2.1 u.2.2.2.2.2.2.2.1 u.2.2.2.2.2.2.2.2 (O [] N),q8.mk K.1.1 K.1.2.1 K.1.2.2.1 K.1.2.2.2 (O [] N)] g)))) z) v else f (M (M u.2.2.2))).bind λ(v:tA0)=>F (λw=>f (y (w.1,w.2.1))) (λw=>F (λz=>f (M (y (z.1,z.2.1,z.2.2.2)))) (λz=>f (M (M z))) w) v) s) r) (((G (lit [45],o.1)).bind λp=>if p.1=g then(za p.2.Z_ 1).bind λr=>f (lit [45],22,q (r.k_=1),p.2,o.2) else f (lit [45],22,N,p.2,o.2)).bind λ(p:zjs)=>(if p.2.2.1=g then(I (p.1,p.2.2.2.1)).bind λr=>F (λs=>f (y (s.1,s.2,p.2.2.2.2))) (λs=>(D s).bind λt=>F (λu=>f (y (u.1,u.2,p.2.2.2.2))) (λu=>f (M (y (u.2,(p.2.1,lit [],0,p.2.2.2.2.2.2.2.2),p.2.2.2.2.2,O [q8.mk p.2.2.2.2.2.1 p.2.2.2.2.2.2.1 p.2.2.2.2.2.2.2.1 p.2.2.2.2.2.2.2.2 (O [] N),q8.mk u.1.1 u.1.2.1 u.1.2.2.1 u.1.2.2.2 (O [] N)] g)))) t) r else f (M (M p.2.2.2))).bind λ(r:tA0)=>F (λs=>f (y (s.1,s.2.1))) (λs=>F (λt=>f (M (y (t.1,t.2.1,t.2.2.2)))) (λt=>((G (lit [43],t.1)).bind λu=>if u.1=g then(za u.2.Z_ 1).bind λv=>f (lit [43],21,q (v.k_=1),u.2,t.2) else f (lit [43],21,N,u.2,t.2)).bind λ(u:zjs)=>(if u.2.2.1=g then(I (u.1,u.2.2.2.1)).bind λv=>F (λw=>f (y (w.1,w.2,u.2.2.2.2))) (λw=>(D w).bind λz=>F (λK=>f (y (K.1,K.2,u.2.2.2.2))) (λK=>f (M (y (K.2,(u.2.1,lit [],0,u.2.2.2.2.2.2.2.2),u.2.2.2.2.2,O [q8.mk u.2.2.2.2.2.1 u.2.2.2.2.2.2.1 u.2.2.2.2.2.2.2.1 u.2.2.2.2.2.2.2.2 (O [] N),q8.mk K.1.1 K.1.2.1 K.1.2.2.1 K.1.2.2.2 (O [] N)] g)))) z) v else f (M (M u.2.2.2))).bind λ(v:tA0)=>F (λw=>f (y (w.1,w.2.1))) (λw=>F (λz=>f (M (y (z.1,z.2.1,z.2.2.2)))) (λz=>f (M (M z))) w) v) s) r)).bind λp=>F (λr=>f (y r)) (λr=>F (λs=>f (M (q8.mk s.2.1.1 s.2.1.2.1 s.2.1.2.2.1 s.2.1.2.2.2 s.2.2,s.1))) (λs=>(J (q8.mk s.2.2.1 s.2.2.2.1 s.2.2.2.2.1 s.2.2.2.2.2 (O [] N),s.1)).bind λt=>F (λu=>f (y u)) (λu=>f (M (ke u.1,u.2))) t) r) p) n) m) i) d) c
def qd1:Y3:=qfv q14 q11 q4y q1c q2k q2b q5t q18 q5s
theorem qje:@Eq Y3 F36 qd1:=by delta qd1;rw[q2m,q1g,q8g,q2y,q7f,q75,qde,q2a,qgg];kernel_rfl
def qf1(A:Zw)(B:Y2)(C:Zw)(D:Y3)(E:Xt)(G:Y3)(x:q8×q7):U7 Zj:=(A (lit [40],x.2)).bind λa=>(if a.1=g then(B a.2).bind λb=>F (λc=>f (y c)) (λc=>f (M (y (c.1,(20,lit [],0,x.1.a_),O [q8.mk 28 x.1.T_ x.1.n_ x.1.a_ c.2] g)))) b else(C (lit [91],a.2)).bind λc=>(if c.1=g then(D c.2).bind λd=>F (λe=>f (y e)) (λe=>(E (lit [93],e.2)).bind λi=>F (λj=>f (y j)) (λj=>(E (lit [61],j)).bind λl=>F (λm=>f (y m)) (λm=>(D m).bind λn=>F (λo=>f (y o)) (λo=>f (M (y (o.2,(11,x.1.T_,x.1.n_,x.1.a_),O ([ke e.1]++[ke o.1]) (g || ![ke o.1].isEmpty))))) n) l) i) d else f (M (M (c.2,ke x.1,0,lit [],0,0)))).bind λ(d:zAJ)=>F (λe=>f (y e)) (λe=>F (λi=>f (M (y i))) (λi=>f (M (M (i.1,ke i.2.1,i.2.2)))) e) d).bind λ(b:zAJ)=>F (λc=>f (y c)) (λc=>F (λd=>f (M (d.2.1,d.1,d.2.2))) (λd=>(E (lit [61],d.1)).bind λe=>F (λi=>f (y i)) (λi=>(G i).bind λj=>F (λl=>f (y l)) (λl=>f (M ((10,d.2.1.T_,d.2.1.n_,d.2.1.a_),l.2,O [ke l.1] g))) j) e) c) b
def q8z:q8×q7->U7 Zj:=qf1 q2b q5t q11 q2k q18 qd1
theorem qin:q8z=P37.F:=by delta q8z;rw[q75,qde,q1g,q7f,q2a,<-qje];kernel_rfl
def q7w(A:ZQ)(B:ZQ)(x:zeX):U7 Zj:=(A x.2.2).bind λa=>F (λb=>f (y b)) (λb=>(B b.2.1).bind λc=>F (λd=>f (y d)) (λd=>(zo 64 b.2.2 [q8.mk d.1.1 d.1.2.1 d.1.2.2.1 d.1.2.2.2 d.2.2]).bind λe=>f (M ((x.1,b.1.2.1,b.1.2.2.1,x.2.1),d.2.1,e))) c) a
def q3x(h:ZQ):zeX->U7 Zj:=q7w q4r h
theorem qen(h:ZQ):@Eq ((zeX)->U7 Zj) (zlu h) (q3x h):=by delta q3x;rw[qgi];kernel_rfl
def q9r(A:xq)(B:Zw)(C:wF)(D:q8×Int->U7 (q8×Int))(E:zqG)(G:Ut->U7 Z4)(H:zeX->U7 Zj)(I:ZQ)(J:Zw)(K:Y3)(L:Y2)(P:q8×q7->U7 Zj)(x:q7):U7 ZR:=(A x).bind λa=>(B (lit [102,114,101,101],a.2)).bind λb=>(if b.1=g then(C b.2).bind λc=>F (λd=>f (y d)) (λd=>(D (q8.mk 12 d.1.2.1 d.1.2.2.1 d.1.2.2.2 (O [] N),a.1.a_)).bind λe=>(E (ke e.1,d.2)).bind λi=>F (λj=>f (y j)) (λj=>f (M (y (j.2,ke j.1)))) i) c else(B (lit [108,111,99,107],b.2)).bind λd=>(if d.1=g then((G (13,d.2)).bind λe=>F (λi=>f (y i)) (λi=>(D (q8.mk i.1.1 i.1.2.1 i.1.2.2.1 i.1.2.2.2 (O [] N),a.1.a_)).bind λj=>(E (ke j.1,i.2)).bind λl=>F (λm=>f (y m)) (λm=>f (M (m.2,ke m.1))) l) e).bind λ(e:zj5)=>F (λi=>f (y i)) (λi=>f (M (y (i.1,ke i.2)))) e else(B (lit [117,110,108,111,99,107],d.2)).bind λi=>(if i.1=g then((G (14,i.2)).bind λj=>F (λl=>f (y l)) (λl=>(D (q8.mk l.1.1 l.1.2.1 l.1.2.2.1 l.1.2.2.2 (O [] N),a.1.a_)).bind λm=>(E (ke m.1,l.2)).bind λn=>F (λo=>f (y o)) (λo=>f (M (o.2,ke o.1))) n) j).bind λ(j:zj5)=>F (λl=>f (y l)) (λl=>f (M (y (l.1,ke l.2)))) j else(B (lit [105,102],i.2)).bind λl=>(if l.1=g then(H (15,a.1.a_,l.2)).bind λm=>F (λn=>f (y n)) (λn=>(B (lit [101,108,115,101],n.2.1)).bind λo=>(if o.1=g then(I o.2).bind λp=>F (λr=>f (y r)) (λr=>(zo 64 n.2.2 [q8.mk r.1.1 r.1.2.1 r.1.2.2.1 r.1.2.2.2 r.2.2]).bind λs=>f (M (r.2.1,(0,lit [],0,0),n.1,s))) p else(zo 64 n.2.2 [q8.mk 9 (lit []) 0 a.1.a_ (O [] N)]).bind λr=>f (M (o.2,(0,lit [],0,0),n.1,r))).bind λ(p:zcG)=>F (λr=>f (y r)) (λr=>f (M (y (r.1,q8.mk r.2.2.1.1 r.2.2.1.2.1 r.2.2.1.2.2.1 r.2.2.1.2.2.2 r.2.2.2)))) p) m else(B (lit [119,104,105,108,101],l.2)).bind λn=>(if n.1=g then(H (16,a.1.a_,n.2)).bind λo=>F (λp=>f (y p)) (λp=>f (M (y (p.2.1,q8.mk p.1.1 p.1.2.1 p.1.2.2.1 p.1.2.2.2 p.2.2)))) o else(B (lit [114,101,116,117,114,110],n.2)).bind λp=>(if p.1=g then(J (lit [59],p.2)).bind λr=>(if(!r.1)=g then(K r.2).bind λs=>F (λt=>f (y t)) (λt=>f (M (t.2,(0,lit [],0,0),(17,lit [],0,a.1.a_),O [ke t.1] g))) s else f (M (r.2,(0,lit [],0,0),(17,lit [],0,a.1.a_),O [] N))).bind λ(s:zcG)=>F (λt=>f (y t)) (λt=>(E (q8.mk t.2.2.1.1 t.2.2.1.2.1 t.2.2.1.2.2.1 t.2.2.1.2.2.2 t.2.2.2,t.1)).bind λu=>F (λv=>f (y v)) (λv=>f (M (y (v.2,ke v.1)))) u) s else(B (lit [97,98,111,114,116],p.2)).bind λt=>(if t.1=g then(E (q8.mk 18 (lit []) 0 a.1.a_ (O [] N),t.2)).bind λu=>F (λv=>f (y v)) (λv=>f (M (y (v.2,ke v.1)))) u else(B (lit [102,111,114,107],t.2)).bind λv=>(if v.1=g then(C v.2).bind λw=>F (λz=>f (y z)) (λz=>(L z.2).bind λQ=>F (λR=>f (y R)) (λR=>(D (q8.mk 19 z.1.2.1 z.1.2.2.1 z.1.2.2.2 R.2,a.1.a_)).bind λS=>(E (ke S.1,R.1)).bind λT=>F (λU=>f (y U)) (λU=>f (M (y (U.2,ke U.1)))) T) Q) w else f (M (M (v.2,0,lit [],0,0)))).bind λ(w:zaA)=>F (λz=>f (y z)) (λz=>F (λQ=>f (M (y (Q.1,ke Q.2)))) (λQ=>f (M (M Q))) z) w).bind λ(u:zaA)=>F (λv=>f (y v)) (λv=>F (λw=>f (M (y (w.1,ke w.2)))) (λw=>f (M (M w))) v) u).bind λ(r:zaA)=>F (λs=>f (y s)) (λs=>F (λt=>f (M (y (t.1,ke t.2)))) (λt=>f (M (M t))) s) r).bind λ(o:zaA)=>F (λp=>f (y p)) (λp=>F (λr=>f (M (y (r.1,ke r.2)))) (λr=>f (M (M r))) p) o).bind λ(m:zaA)=>F (λn=>f (y n)) (λn=>F (λo=>f (M (y (o.1,ke o.2)))) (λo=>f (M (M o))) n) m).bind λ(j:zaA)=>F (λl=>f (y l)) (λl=>F (λm=>f (M (y (m.1,ke m.2)))) (λm=>f (M (M m))) l) j).bind λ(e:zaA)=>F (λi=>f (y i)) (λi=>F (λj=>f (M (y (j.1,ke j.2)))) (λj=>f (M (M j))) i) e).bind λ(c:zaA)=>F (λd=>f (y d)) (λd=>F (λe=>f (M (ke e.2,e.1))) (λe=>((C e.1).bind λi=>F (λj=>f (y j)) (λj=>(P (q8.mk j.1.1 j.1.2.1 j.1.2.2.1 j.1.2.2.2 (O [] N),j.2)).bind λl=>F (λm=>f (y m)) (λm=>(E (q8.mk m.1.1 m.1.2.1 m.1.2.2.1 m.1.2.2.2 m.2.2,m.2.1)).bind λn=>F (λo=>f (y o)) (λo=>f (M (o.2,ke o.1))) n) l) i).bind λ(i:zj5)=>F (λj=>f (y j)) (λj=>f (M (ke j.2,j.1))) i) d) c
def q3r(h:ZQ):Y3:=q9r q14 q11 q1c q85 q6q qbf (q3x h) h q2b q2k q5t q8z
theorem qfw(h:ZQ):@Eq Y3 (zlv h) (q3r h):=by delta q3r;rw[q2m,q1g,q2y,qi3,qim,qkp,<-qen h,q75,q7f,qde,qin];kernel_rfl
def qew(A:xq)(B:Zw)(C:zaG)(D:Xt)(E:Zw)(G:Y3):xi->U7 (Step xi zcG):=λa=>(E (lit [125],a.1)).bind λb=>if(!b.1)=g then(G b.2).bind λc=>F (λd=>f (Step.done (y d))) (λd=>(zo 64 a.2.2.2 [ke d.1]).bind λe=>f (Step.next (d.2,a.2.1,a.2.2.1,e))) c else f (Step.done (M (b.2,a.2)))
def q8h(A:xq)(B:Zw)(C:zaG)(D:Xt)(E:Zw)(G:Y3)(x:q7):U7 Zj:=(A x).bind λa=>((B (lit [123],a.2)).bind λb=>if b.1=g then f (q (8<=b.2.D_),b.2,(0,lit [],0,0),9,lit [],0,a.1.a_) else f (N,b.2,(0,lit [],0,0),9,lit [],0,a.1.a_)).bind λb=>if b.1=g then(C (21,b.2.1)).bind λc=>f (y c) else(D (lit [123],b.2.1)).bind λd=>F (λe=>f (y e)) (λe=>(lpO (qew A B C D E G) (q7.mk e.Z_ (U8 (e.D_+1)),b.2.2.1,b.2.2.2,O [] N)).bind λi=>F (λj=>f (y j)) (λj=>f (M (j.2.2.1,q7.mk j.1.Z_ (U8 (j.1.D_ - 1)),j.2.2.2))) i) d
def q8i(h:ZQ):ZQ:=q8h q14 q2b q1t q18 q11 (q3r h)
theorem qi4(h:ZQ):@Eq ZQ (zo3 h) (q8i h):=by delta q8i;rw[q2m,q75,q63,q2a,q1g,<-qfw h];kernel_rfl
def q3i:Nat->q7->U7 Zj
 |0=>λ_=>W
 |k+1=>q8i (q3i k)
theorem q8j:∀k,@Eq ZQ (zfG k) (q3i k)
 |0=>rfl
 |k+1=>(qi4 (zfG k)).trans (congrArg q8i (q8j k))
def qcm:ZQ:=q3i 100000
theorem qio:@Eq ZQ F40 qcm:=q8j 100000
def qgz(A:wF)(B:Xt)(C:Zw)(D:Y2)(E:Zw)(G:zaG)(H:zjK)(I:xq)(J:ZQ)(x:Ut):U7 Zj:=(A x.2).bind λa=>F (λb=>f (y b)) (λb=>(B (lit [40],b.2)).bind λc=>F (λd=>f (y d)) (λd=>(C (lit [41],d)).bind λe=>(if(!e.1)=g then(D e.2).bind λi=>F (λj=>f (y j)) (λj=>f (M (j.1,(0,lit [],0,0),(6,b.1.2.1,b.1.2.2.1,x.1),j.2))) i else f (M (e.2,(0,lit [],0,0),(6,b.1.2.1,b.1.2.2.1,x.1),O [] N))).bind λ(i:zcG)=>F (λj=>f (y j)) (λj=>(B (lit [41],j.1)).bind λl=>F (λm=>f (y m)) (λm=>(E (lit [45,62],m)).bind λn=>(if n.1=g then(C (lit [38],n.2)).bind λo=>if o.1=g then(G (20,o.2)).bind λp=>f (y p) else(H o.2).bind λr=>F (λs=>f (M (s.2,j.2.1,j.2.2.1,ke s.1,j.2.2.2))) (λs=>f (y s)) r else(I n.2).bind λs=>f (M (s.2,j.2.1,j.2.2.1,q8.mk 8 (lit []) 0 s.1.a_ (O [] N),j.2.2.2))).bind λ(o:zQ×q7⊕q7×(Int×U5×Int×Int)×(Int×U5×Int×Int)×q8×Sl q8)=>F (λp=>f (y p)) (λp=>(J p.1).bind λr=>F (λs=>f (y s)) (λs=>(zo 64 p.2.2.2.2 [ke p.2.2.2.1,q8.mk s.1.1 s.1.2.1 s.1.2.2.1 s.1.2.2.2 s.2.2]).bind λt=>f (M (p.2.2.1,s.2.1,t))) r) o) l) i) c) a
def qbg:Ut->U7 Zj:=qgz q1c q18 q2b q9x q11 q1t qa5 q14 qcm
theorem qkq:qbg=P41.F:=by delta qbg;rw[q2y,q2a,q75,qhf,q1g,q63,qgf,q2m,<-qio];kernel_rfl
def qfx(A:xq)(B:Zw)(C:wF)(D:zaG)(x:q7):U7 zwv:=(A x).bind λa=>(A a.2).bind λb=>(B (lit [111,119,110],b.2)).bind λc=>(if c.1=g then f (c.1,c.2,(0,lit [],0,0),2,a.1.T_,0,b.1.a_) else(B (lit [99,101,108,108],c.2)).bind λd=>f (d.1,d.2,(0,lit [],0,0),2,a.1.T_,0,b.1.a_)).bind λ(d:zjy)=>(if d.1=g then f (y (d.2.1,d.2.2.1,d.2.2.2,O [] N)) else(B (lit [99,111,117,110,116,101,100],d.2.1)).bind λe=>(if e.1=g then f (e.1,e.2,d.2.2) else(B (lit [108,111,99,107],e.2)).bind λi=>(if i.1=g then f (i.1,i.2,d.2.2) else(B (lit [103,117,97,114,100],i.2)).bind λj=>f (j.1,j.2,d.2.2)).bind λ(j:zjy)=>f j).bind λ(i:zjy)=>(if i.1=g then(C i.2.1).bind λj=>F (λl=>f (y l)) (λl=>f (M (l.2,i.2.2.1,i.2.2.2,O [q8.mk l.1.1 l.1.2.1 l.1.2.2.1 l.1.2.2.2 (O [] N)] g))) j else(D (20,i.2.1)).bind λl=>f (y l)).bind λ(j:zcG)=>F (λl=>f (M l)) (λl=>f (y l)) j).bind λ(e:q7×(Int×U5×Int×Int)×(Int×U5×Int×Int)×Sl q8⊕zQ×q7)=>F (λi=>f (y (i.2.2.1,i.1,i.2.2.2))) (λi=>f (M i)) e
def qd0:zqg:=qfx q14 q11 q1c q1t
theorem qjg:qd0=P42.F:=by delta qd0;rw[q2m,q1g,q2y,q63];kernel_rfl
def qf2(A:wF)(B:Zw)(C:Xt)(x:q7):U7 Zj:=(A x).bind λa=>F (λb=>f (y b)) (λb=>(B (lit [91],b.2)).bind λc=>(if c.1=g then(A c.2).bind λd=>F (λe=>f (y e)) (λe=>(C (lit [93],e.2)).bind λi=>F (λj=>f (y j)) (λj=>f (M (j,(0,lit [],0,0),(3,b.1.2),O [q8.mk e.1.1 e.1.2.1 e.1.2.2.1 e.1.2.2.2 (O [] N)] g))) i) d else f (M (c.2,(0,lit [],0,0),(3,b.1.2),O [] N))).bind λ(d:zcG)=>F (λe=>f (y e)) (λe=>f (M (e.2.2.1,e.1,e.2.2.2))) d) a
def q8x:ZQ:=qf2 q1c q11 q18
theorem qip:q8x=P43.F:=by delta q8x;rw[q2y,q1g,q2a];kernel_rfl
def q8o(A:ZQ)(B:Zw):yu->U7 (Step yu yU):=λa=>(B (lit [44],a.1)).bind λb=>if b.1=g then(A b.2).bind λc=>F (λd=>f (Step.done (y d))) (λd=>(zo 64 a.2 [q8.mk d.1.1 d.1.2.1 d.1.2.2.1 d.1.2.2.2 d.2.2]).bind λe=>f (Step.next (d.2.1,e))) c else f (Step.done (M (b.2,a.2)))
def qcx(A:ZQ)(B:Zw)(x:q7):U7 yU:=(A x).bind λa=>F (λb=>f (y b)) (λb=>(lpO (q8o A B) (b.2.1,O [q8.mk b.1.1 b.1.2.1 b.1.2.2.1 b.1.2.2.2 b.2.2] g)).bind λc=>F (λd=>f (y d)) (λd=>f (M d)) c) a
def q9w:Y2:=qcx q8x q11
theorem qhg:q9w=P44.F:=by delta q9w;rw[qip,q1g];kernel_rfl
def q9v(A:ZQ)(B:Zw):yu->U7 (Step yu yU):=λa=>(B (lit [44],a.1)).bind λb=>if b.1=g then(A b.2).bind λc=>F (λd=>f (Step.done (y d))) (λd=>(zo 64 a.2 [q8.mk d.1.1 d.1.2.1 d.1.2.2.1 d.1.2.2.2 d.2.2]).bind λe=>f (Step.next (d.2.1,e))) c else f (Step.done (M (b.2,a.2)))
def qdm(A:ZQ)(B:Zw)(x:q7):U7 yU:=(A x).bind λa=>F (λb=>f (y b)) (λb=>(lpO (q9v A B) (b.2.1,O [q8.mk b.1.1 b.1.2.1 b.1.2.2.1 b.1.2.2.2 b.2.2] g)).bind λc=>F (λd=>f (y d)) (λd=>f (M d)) c) a
def qa4:Y2:=qdm q4r q11
theorem qhn:qa4=P45.F:=by delta qa4;rw[qgi,q1g];kernel_rfl
def qgj(A:wF)(B:zqg)(C:Zw)(D:Y2)(E:Xt)(G:Y2)(x:Ut):U7 Zj:=(A x.2).bind λa=>F (λb=>f (y b)) (λb=>(B b.2).bind λc=>F (λd=>(C (lit [123],d.2.1)).bind λe=>(if e.1=g then(D e.2).bind λi=>F (λj=>f (y j)) (λj=>(zo 64 (O [q8.mk d.1.1 d.1.2.1 d.1.2.2.1 d.1.2.2.2 d.2.2] g) j.2.xs).bind λl=>(E (lit [125],j.1)).bind λm=>F (λn=>f (y n)) (λn=>f (M (n,(0,lit [],0,0),(1,b.1.2.1,b.1.2.2.1,x.1),l))) m) i else f (M (e.2,(0,lit [],0,0),(1,b.1.2.1,b.1.2.2.1,x.1),O [q8.mk d.1.1 d.1.2.1 d.1.2.2.1 d.1.2.2.2 d.2.2] g))).bind λ(i:zcG)=>F (λj=>f (y j)) (λj=>(C (lit [119,104,101,114,101],j.1)).bind λl=>(if l.1=g then(G l.2).bind λm=>F (λn=>f (y n)) (λn=>(zo 64 j.2.2.2 n.2.xs).bind λo=>f (M (n.1,j.2.1,j.2.2.1,o))) m else f (M (l.2,j.2))).bind λ(m:zcG)=>F (λn=>f (y n)) (λn=>(E (lit [59],n.1)).bind λo=>F (λp=>f (y p)) (λp=>f (M (n.2.2.1,p,n.2.2.2))) o) m) i) (λd=>f (y d)) c) a
def qat:Ut->U7 Zj:=qgj q1c qd0 q11 q9w q18 qa4
theorem qk5:qat=P46.F:=by delta qat;rw[q2y,qjg,q1g,qhg,q2a,qhn];kernel_rfl
def qcn(A:wc):zq9->U7 (Step zq9 Int):=λa=>if q (a.2.2.2 < a.2.2.1)=g then(za a.2.1 a.2.2.2).bind λb=>(A (ke b)).bind λc=>f (Step.next (U8 (a.1+c),a.2.1,a.2.2.1,U8 (a.2.2.2+1))) else f (Step.done a.1)
def qej(A:wc)(x:q8):Ua:=(lpO (qcn A) (1,x.K_,x.K_.len,0)).bind λa=>f a
def qek(h:wc):wc:=qej h
theorem qln(h:wc):@Eq wc (zo5 h) (qek h):=by kernel_rfl
def q5u:Nat->q8->U7 Int
 |0=>λ_=>W
 |k+1=>qek (q5u k)
theorem qiq:∀k,@Eq wc (zlw k) (q5u k)
 |0=>rfl
 |k+1=>(qln (zlw k)).trans (congrArg qek (qiq k))
def qfb:wc:=q5u 100000
theorem qlo:@Eq wc F47 qfb:=qiq 100000
def qfy(x:zaz):U7 xj:=f ((0,lit [],0,0),x.1.1,x.1.2,x.2.2.2.2)
def qd2:zaz->U7 xj:=qfy
theorem qjh:@Eq ((zaz)->U7 xj) F48 qd2:=by kernel_rfl
def qeo(x:xj):U7 xj:=f x
def qbx:xj->U7 xj:=qeo
theorem qi6:@Eq ((xj)->U7 xj) F49 qbx:=by kernel_rfl
def q66(A:zjN)(B:xq)(C:Zw)(D:zju)(E:Xt)(G:zju)(H:zAB)(I:wc)(J:zAF):zeA->U7 (Step zeA zAD):=λa=>(B a.2.2.2.1).bind λb=>if q (b.1.k_≠0)=g then((B b.2).bind λc=>(C (lit [102,110],c.2)).bind λd=>if d.1=g then((D (c.1.a_,d.2)).bind λe=>F (λi=>f (y (i.1,a.1,a.2.1,a.2.2.1,a.2.2.2.2))) (λi=>(zo 64 a.2.2.2.2 [q8.mk 0 (lit []) 0 0 (O [] N)]).bind λj=>(za j (Sl.len a.2.2.2.2)).bind λl=>Yc ((za j (Sl.len a.2.2.2.2)).bind λm=>f (M (a.1,a.2.1,a.2.2.1,i.2.1,j.set (Sl.len a.2.2.2.2) (q8.mk i.1.1 i.1.2.1 i.1.2.2.1 i.1.2.2.2 i.2.2)))) ((za j (Sl.len a.2.2.2.2)).bind λm=>f (M (a.1,a.2.1,a.2.2.1,i.2.1,j.set (Sl.len a.2.2.2.2) (q8.mk i.1.1 i.1.2.1 i.1.2.2.1 i.1.2.2.2 i.2.2))))) e).bind λe=>F (λi=>f (y i)) (λi=>f (M i)) e else(E (lit [116,121,112,101],d.2)).bind λi=>F (λj=>f (y (j.1,a.1,a.2.1,a.2.2.1,a.2.2.2.2))) (λj=>((G (c.1.a_,j)).bind λl=>F (λm=>f (y (m.1,a.1,a.2.1,a.2.2.1,a.2.2.2.2))) (λm=>(zo 64 a.2.2.2.2 [q8.mk 0 (lit []) 0 0 (O [] N)]).bind λn=>(za n (Sl.len a.2.2.2.2)).bind λo=>Yc ((za n (Sl.len a.2.2.2.2)).bind λp=>f (M (a.1,a.2.1,a.2.2.1,m.2.1,n.set (Sl.len a.2.2.2.2) (q8.mk m.1.1 m.1.2.1 m.1.2.2.1 m.1.2.2.2 m.2.2)))) ((za n (Sl.len a.2.2.2.2)).bind λp=>f (M (a.1,a.2.1,a.2.2.1,m.2.1,n.set (Sl.len a.2.2.2.2) (q8.mk m.1.1 m.1.2.1 m.1.2.2.1 m.1.2.2.2 m.2.2))))) l).bind λl=>F (λm=>f (y m)) (λm=>f (M m)) l) i).bind λc=>F (λd=>f (Step.done (y d))) (λd=>f (Step.next d)) c else f (Step.done (M (a.1,a.2.1,a.2.2.1,a.2.2.2.2)))
def qi0(A:zjN)(B:xq)(C:Zw)(D:zju)(E:Xt)(G:zju)(H:zAB)(I:wc)(J:zAF)(x:Zr):U7 (q8×zQ):=(A x).bind λa=>if q (a.2.1≠0)=g then f (q8.mk 0 (lit []) 0 0 (O [] N),a.1,a.2.1) else(lpO (q66 A B C D E G H I J) ((0,lit [],0,0),a.1,a.2.1,q7.mk a.2.2 0,O [] N)).bind λb=>F (λc=>(H c).bind λd=>f (q8.mk d.1.1 d.1.2.1 d.1.2.2.1 d.1.2.2.2 (O [] N),d.2.1,d.2.2.1)) (λc=>(I (q8.mk c.1.1 c.1.2.1 c.1.2.2.1 c.1.2.2.2 c.2.2.2)).bind λd=>if q (4096 < d)=g then(J ((0,lit [],0,0),0,22,O [] N)).bind λe=>f (q8.mk e.1.1 e.1.2.1 e.1.2.2.1 e.1.2.2.2 e.2.2.2,e.2.1,e.2.2.1) else(J (c.1,0,0,c.2.2.2)).bind λi=>f (q8.mk i.1.1 i.1.2.1 i.1.2.2.1 i.1.2.2.2 i.2.2.2,i.2.1,i.2.2.1)) b
def q5v:zeI:=qi0 qck q14 q11 qbg q18 qat qd2 qfb qbx
theorem qir:@Eq zeI F50 q5v:=by delta q5v;rw[qlx,q2m,q1g,qkq,q2a,qk5,<-qjh,<-qlo,<-qi6];kernel_rfl
def q82:zhb->U7 (Step zhb zks):=λa=>if q (a.2.2.1 < a.2.1)=g then(za a.1 a.2.2.1).bind λb=>(if q (b.k_=3)=g then(zo 64 a.2.2.2.1 [ke b]).bind λc=>f (a.1,a.2.1,a.2.2.1,c,a.2.2.2.2) else(if q (b.k_=4)=g then(zo 64 a.2.2.2.2 [ke b]).bind λd=>f (a.1,a.2.1,a.2.2.1,a.2.2.2.1,d) else f a).bind λd=>f d).bind λc=>f (Step.next (c.1,c.2.1,U8 (c.2.2.1+1),c.2.2.2)) else f (Step.done a.2.2.2)
def qh0(x:q8):U7 zks:=(lpO q82 (x.K_,x.K_.len,0,O [] N,O [] N)).bind λa=>f a
def q9z:zeP:=qh0
theorem qlp:q9z=P51.F:=by kernel_rfl
def qcq(x:zkn):U7 Z5:=f (q (x.1.N_=x.2),x.2)
def q7c:zkn->U7 Z5:=qcq
theorem qji:q7c=P52.F:=by kernel_rfl
def qgr(A:zwU):zq2->U7 (Step zq2 zaK):=λa=>if q (a.2.2.1 < a.2.1)=g then(za a.1 a.2.2.1).bind λb=>(A (b,a.2.2.2)).bind λc=>if c.1=g then f (Step.done (y (a.2.2.1,c.2))) else f (Step.next (a.1,a.2.1,U8 (a.2.2.1+1),c.2)) else f (Step.done (M a.2.2.2))
def qdr(A:zwU)(x:zcQ):U7 yy:=(lpO (qgr A) (x.1,Sl.len x.1,0,x.2)).bind λa=>F (λb=>f b) (λb=>f (-1,b)) a
def qbp:zcQ->U7 yy:=qdr q7c
theorem qkr:qbp=P53.F:=by delta qbp;rw[qji];kernel_rfl
def qds(A:zcQ->U7 yy)(x:zcQ):Ua:=(A x).bind λa=>f a.1
def q2c:zcQ->Ua:=qds qbp
theorem qbt:q2c=P54.F:=by delta q2c;rw[qkr];kernel_rfl
def qhd(x:zkl):U7 Yn:=if(!x.1)=g then f (y (x.2.1.a_,x.2.2)) else f (M ())
def q6i:zkl->U7 Yn:=qhd
theorem qhu:q6i=P55.F:=by kernel_rfl
def qfg(x:zaP):U7 Z5:=f (q (x.1.T_=x.2),x.2)
def qbh:zaP->U7 Z5:=qfg
theorem qll:qbh=P56.F:=by kernel_rfl
def qfk(A:zjH):zeN->U7 (Step zeN zaK):=λa=>if q (a.2.2.1 < a.2.1)=g then(za a.1 a.2.2.1).bind λb=>(A (ke b,a.2.2.2)).bind λc=>if c.1=g then f (Step.done (y (a.2.2.1,c.2))) else f (Step.next (a.1,a.2.1,U8 (a.2.2.1+1),c.2)) else f (Step.done (M a.2.2.2))
def qcr(A:zjH)(x:wa):U7 yy:=(lpO (qfk A) (x.1,Sl.len x.1,0,x.2)).bind λa=>F (λb=>f b) (λb=>f (-1,b)) a
def qah:wa->U7 yy:=qcr qbh
theorem qjj:qah=P57.F:=by delta qah;rw[qll];kernel_rfl
def qb9(A:zwQ)(x:wa):U7 Z5:=(A x).bind λa=>f (q (0<=a.1),a.2)
def q8f:wa->U7 Z5:=qb9 qah
theorem qi7:q8f=P58.F:=by delta q8f;rw[qjj];kernel_rfl
def qh1(A:wa->U7 Z5)(x:wa):Ul:=(A x).bind λa=>f a.1
def q9y:wa->Ul:=qh1 q8f
theorem qlq:q9y=P59.F:=by delta q9y;rw[qi7];kernel_rfl
def q87(x:zaP):U7 Z5:=(if q (x.1.T_=x.2)=g then f (q (x.1.K_.len=0),x.2) else f (N,x.2)).bind λa=>f a
def q5g:zaP->U7 Z5:=q87
theorem qis:q5g=P60.F:=by kernel_rfl
def qex(A:zjH):zeN->U7 (Step zeN zaK):=λa=>if q (a.2.2.1 < a.2.1)=g then(za a.1 a.2.2.1).bind λb=>(A (ke b,a.2.2.2)).bind λc=>if c.1=g then f (Step.done (y (a.2.2.1,c.2))) else f (Step.next (a.1,a.2.1,U8 (a.2.2.1+1),c.2)) else f (Step.done (M a.2.2.2))
def qc2(A:zjH)(x:wa):U7 yy:=(lpO (qex A) (x.1,Sl.len x.1,0,x.2)).bind λa=>F (λb=>f b) (λb=>f (-1,b)) a
def q9o:wa->U7 yy:=qc2 q5g
theorem qit:q9o=P61.F:=by delta q9o;rw[qis];kernel_rfl
def qd6(A:zwQ)(x:zrd):Ua:=(A (x.2.2,x.2.1)).bind λa=>f a.1
def q36:zrd->Ua:=qd6 q9o
theorem qdx:q36=P62.F:=by delta q36;rw[qit];kernel_rfl
def q1n:zqS->U7 (Step zqS zeY):=λa=>if q (a.2.2.2 < a.2.2.1)=g then(za a.1 a.2.2.2).bind λb=>if q (a.2.1=b)=g then f (Step.done (y a.2.2.2)) else f (Step.next (a.1,a.2.1,a.2.2.1,U8 (a.2.2.2+1))) else f (Step.done (M ()))
def q7n(x:zj6):Ua:=(lpO q1n (x.1,x.2,Sl.len x.1,0)).bind λa=>F (λb=>f b) (λb=>f (-1)) a
def q2q:zj6->Ua:=q7n
theorem qcv:q2q=P63.F:=by kernel_rfl
def qaw(A:zw3)(B:zeH)(C:zeD)(D:zcN)(x:zql):U7 za4:=(A (O [lit [111,119,110],lit [99,101,108,108],lit [99,111,117,110,116,101,100],lit [108,111,99,107],lit [103,117,97,114,100]] g,x.2.1.T_)).bind λa=>(if q (a=2)=g then f (x.1,x.2.2.1,x.2.2.2.1,a,q (a=2),(x.2.2.2.2.1.1,a,x.2.2.2.2.1.2.2),x.2.2.2.2.2.1,x.2.2.2.2.2.2,ke x.2.1) else f (x.1,x.2.2.1,x.2.2.2.1,a,q (a=3),(x.2.2.2.2.1.1,a,x.2.2.2.2.1.2.2),x.2.2.2.2.2.1,x.2.2.2.2.2.2,ke x.2.1)).bind λb=>(if b.2.2.2.2.1=g then(za b.2.2.2.2.2.2.2.2.K_ 0).bind λc=>(B (qa.mk b.2.2.2.2.2.1.1 b.2.2.2.2.2.1.2.1 b.2.2.2.2.2.1.2.2 b.2.2.2.2.2.2.1 b.2.2.2.2.2.2.2.1,c.T_,b.2.1)).bind λd=>(C (q (0<=d),ke b.2.2.2.2.2.2.2.2,32)).bind λe=>F (λi=>f (y (i,(b.2.2.2.2.2.1.1,b.2.2.2.2.2.1.2.1,d),b.2.2.2.2.2.2.1,b.2.2.2.2.2.2.2.1))) (λi=>f (M ((b.2.2.2.2.2.1.1,b.2.2.2.2.2.1.2.1,d),b.2.2.2.2.2.2.1,b.2.2.2.2.2.2.2.1))) e else(if q (b.2.2.2.1=4)=g then(za b.2.2.2.2.2.2.2.2.K_ 0).bind λi=>(D (b.1,i.T_)).bind λj=>(if q (0<=j)=g then(za b.1 j).bind λl=>(C (q (l.S_=3),ke b.2.2.2.2.2.2.2.2,31)).bind λm=>F (λn=>f (y (n,(b.2.2.2.2.2.1.1,b.2.2.2.2.2.1.2.1,j),b.2.2.2.2.2.2.1,b.2.2.2.2.2.2.2.1))) (λn=>f (M (b.2.1,b.2.2.1,(b.2.2.2.2.2.1.1,b.2.2.2.2.2.1.2.1,j),b.2.2.2.2.2.2.1,b.2.2.2.2.2.2.2.1,ke b.2.2.2.2.2.2.2.2))) m else(C (N,ke b.2.2.2.2.2.2.2.2,31)).bind λn=>F (λo=>f (y (o,(b.2.2.2.2.2.1.1,b.2.2.2.2.2.1.2.1,j),b.2.2.2.2.2.2.1,b.2.2.2.2.2.2.2.1))) (λo=>f (M (b.2.1,b.2.2.1,(b.2.2.2.2.2.1.1,b.2.2.2.2.2.1.2.1,j),b.2.2.2.2.2.2.1,b.2.2.2.2.2.2.2.1,ke b.2.2.2.2.2.2.2.2))) n).bind λl=>F (λm=>f (y m)) (λm=>(C (q (U8 (Sl.len m.1+Sl.len m.2.1)=0),ke m.2.2.2.2.2,32)).bind λn=>F (λo=>f (y (o,m.2.2.1,m.2.2.2.1,m.2.2.2.2.1))) (λo=>f (M (m.2.2.1,m.2.2.2.1,m.2.2.2.2.1))) n) l else f (M (b.2.2.2.2.2.1,b.2.2.2.2.2.2.1,b.2.2.2.2.2.2.2.1))).bind λi=>F (λj=>f (y j)) (λj=>f (M j)) i).bind λc=>F (λd=>f (y d)) (λd=>f (M d)) c
def q4l:zql->U7 za4:=qaw q2q q36 q6i q2c
theorem qks:q4l=P64.F:=by delta q4l;rw[qcv,qdx,qhu,qbt];kernel_rfl
def qef(x:zaH):U7 (Sl qw):=(if q (x.1=lit [60])=g then f (y (O [qw.mk x.2.1 x.2.2.1 (U8 (U8 (x.2.2.2.2 - x.2.2.2.1) - 1))] g)) else(if q (x.1=lit [60,61])=g then f (y (O [qw.mk x.2.1 x.2.2.1 (U8 (x.2.2.2.2 - x.2.2.2.1))] g)) else if q (x.1=lit [61,61])=g then f (y (O [qw.mk x.2.1 x.2.2.1 (U8 (x.2.2.2.2 - x.2.2.2.1)),qw.mk x.2.2.1 x.2.1 (U8 (x.2.2.2.1 - x.2.2.2.2))] g)) else f (M ())).bind λa=>F (λb=>f (y b)) (λb=>f (M ())) a).bind λa=>F (λb=>f b) (λb=>f (O [] N)) a
def qa0:zaH->U7 (Sl qw):=qef
theorem qlr:qa0=P65.F:=by kernel_rfl
def q8q(A:zeH)(B:zeD)(C:zwG):zg4->U7 (Step zg4 zAE):=λa=>if q (a.2.2.2.1 < a.2.2.1)=g then((za a.2.1 a.2.2.2.1).bind λb=>if q (b.T_=lit [])=g then f (y (a.1,a.2.1,a.2.2.1,a.2.2.2.1,a.2.2.2.2.1,a.2.2.2.2.2.1,a.2.2.2.2.2.2.1,ke a.2.2.2.2.2.2.2.1,a.2.2.2.2.2.2.2.2)) else(A (qa.mk a.2.2.2.2.1.1 a.2.2.2.2.1.2.1 a.2.2.2.2.1.2.2 a.2.2.2.2.2.1 a.2.2.2.2.2.2.1,b.T_,a.1)).bind λc=>(if q (0<=c)=g then if q (a.2.2.2.2.1.2.1=2)=g then(B (!q (c=a.2.2.2.2.1.2.2),ke a.2.2.2.2.2.2.2.1,33)).bind λd=>F (λe=>f (y (e,a.2.2.2.2.1,a.2.2.2.2.2.1,a.2.2.2.2.2.2.1))) (λe=>f (M (a.1,a.2.2.2.1,c,a.2.1,a.2.2.1,a.2.2.2.1,a.2.2.2.2.1,a.2.2.2.2.2.1,a.2.2.2.2.2.2.1,ke a.2.2.2.2.2.2.2.1,a.2.2.2.2.2.2.2.2))) d else if q (a.2.2.2.2.1.2.1=3)=g then(B (!q (c=a.2.2.2.2.1.2.2),ke a.2.2.2.2.2.2.2.1,33)).bind λe=>F (λi=>f (y (i,a.2.2.2.2.1,a.2.2.2.2.2.1,a.2.2.2.2.2.2.1))) (λi=>f (M (a.1,a.2.2.2.1,c,a.2.1,a.2.2.1,a.2.2.2.1,a.2.2.2.2.1,a.2.2.2.2.2.1,a.2.2.2.2.2.2.1,ke a.2.2.2.2.2.2.2.1,a.2.2.2.2.2.2.2.2))) e else(B (!N,ke a.2.2.2.2.2.2.2.1,33)).bind λi=>F (λj=>f (y (j,a.2.2.2.2.1,a.2.2.2.2.2.1,a.2.2.2.2.2.2.1))) (λj=>f (M (a.1,a.2.2.2.1,c,a.2.1,a.2.2.1,a.2.2.2.1,a.2.2.2.2.1,a.2.2.2.2.2.1,a.2.2.2.2.2.2.1,ke a.2.2.2.2.2.2.2.1,a.2.2.2.2.2.2.2.2))) i else(B (N,ke a.2.2.2.2.2.2.2.1,33)).bind λj=>F (λl=>f (y (l,a.2.2.2.2.1,a.2.2.2.2.2.1,a.2.2.2.2.2.2.1))) (λl=>f (M (a.1,a.2.2.2.1,c,a.2.1,a.2.2.1,a.2.2.2.1,a.2.2.2.2.1,a.2.2.2.2.2.1,a.2.2.2.2.2.2.1,ke a.2.2.2.2.2.2.2.1,a.2.2.2.2.2.2.2.2))) j).bind λd=>F (λe=>f (M e)) (λe=>(bif q (e.2.1=1) then f (e.1,e.2.2.2.1,e.2.2.2.2.1,e.2.2.2.2.2.1,e.2.2.2.2.2.2.1,e.2.2.2.2.2.2.2.1,e.2.2.2.2.2.2.2.2.1,ke e.2.2.2.2.2.2.2.2.2.1,e.2.2.2.2.2.2.2.2.2.2.1,U8 (e.2.2.1+1)) else bif q (e.2.1=0) then f (e.1,e.2.2.2.1,e.2.2.2.2.1,e.2.2.2.2.2.1,e.2.2.2.2.2.2.1,e.2.2.2.2.2.2.2.1,e.2.2.2.2.2.2.2.2.1,ke e.2.2.2.2.2.2.2.2.2.1,U8 (e.2.2.1+1),e.2.2.2.2.2.2.2.2.2.2.2) else W).bind λi=>f (y (i.1,i.2.1,i.2.2.1,i.2.2.2.1,i.2.2.2.2.1,i.2.2.2.2.2.1,i.2.2.2.2.2.2.1,ke i.2.2.2.2.2.2.2.1,i.2.2.2.2.2.2.2.2))) d).bind λb=>F (λc=>f (Step.next (c.1,c.2.1,c.2.2.1,U8 (c.2.2.2.1+1),c.2.2.2.2.1,c.2.2.2.2.2.1,c.2.2.2.2.2.2.1,ke c.2.2.2.2.2.2.2.1,c.2.2.2.2.2.2.2.2))) (λc=>f (Step.done (y c))) b else f (Step.done (M (a.2.2.2.2.1,a.2.2.2.2.2.1,a.2.2.2.2.2.2.1,ke a.2.2.2.2.2.2.2.1,a.2.2.2.2.2.2.2.2)))
def qbi(A:zeH)(B:zeD)(C:zwG)(x:zqw):U7 za4:=(lpO (q8q A B C) (x.2.1,x.1.K_,x.1.K_.len,0,x.2.2.1,x.2.2.2.1,x.2.2.2.2,ke x.1,0,0)).bind λa=>F (λb=>f (y b)) (λb=>(za b.2.2.2.1.K_ 0).bind λc=>(za b.2.2.2.1.K_ 1).bind λd=>(C (b.2.2.2.1.T_,b.2.2.2.2.1,b.2.2.2.2.2,c.n_,d.n_)).bind λe=>(zo 24 b.2.2.1 e.xs).bind λi=>f (M (b.1,b.2.1,i))) a
def q5a:zqw->U7 za4:=qbi q36 q6i qa0
theorem ql5:q5a=P66.F:=by delta q5a;rw[qdx,qhu,qlr];kernel_rfl
def q8r(A:zeP)(B:zcN)(C:zeD)(D:zq1)(E:zeH)(G:tA2)(H:tA9):zp3->U7 (Step zp3 zAL):=λa=>if q (a.2.2.2.2.1 < a.2.2.2.1)=g then((za a.2.2.1 a.2.2.2.2.1).bind λb=>(z7 a.2.1 0 a.2.2.2.2.1).bind λc=>(D (c,b.T_)).bind λd=>(C (!d,ke b,30)).bind λe=>F (λi=>f (y i)) (λi=>(if q (0 < b.K_.len)=g then(za b.K_ 0).bind λj=>(E (qa.mk a.2.2.2.2.2.2.2.2.1.1 a.2.2.2.2.2.2.2.2.1.2.1 a.2.2.2.2.2.2.2.2.1.2.2 a.2.2.2.2.2.2.2.2.2 (O [] N),j.T_,a.2.1)).bind λl=>((za a.2.2.2.2.2.1.K_ 0).bind λm=>if q (m.T_=lit [111,119,110])=g then(C (q (0<=l),ke b,32)).bind λn=>F (λo=>f (y o)) (λo=>f (M (a.1,a.2.1,l,a.2.2.1,a.2.2.2.1,a.2.2.2.2.1,ke a.2.2.2.2.2.1,a.2.2.2.2.2.2.1,a.2.2.2.2.2.2.2.1,a.2.2.2.2.2.2.2.2.1,ke b,a.2.2.2.2.2.2.2.2.2))) n else(C (N,ke b,32)).bind λo=>F (λp=>f (y p)) (λp=>f (M (a.1,a.2.1,l,a.2.2.1,a.2.2.2.1,a.2.2.2.2.1,ke a.2.2.2.2.2.1,a.2.2.2.2.2.2.1,a.2.2.2.2.2.2.2.1,a.2.2.2.2.2.2.2.2.1,ke b,a.2.2.2.2.2.2.2.2.2))) o).bind λm=>F (λn=>f (y n)) (λn=>f (M (n.1,n.2.1,n.2.2.1,n.2.2.2.1,n.2.2.2.2.1,n.2.2.2.2.2.1,ke n.2.2.2.2.2.2.1,n.2.2.2.2.2.2.2.1,n.2.2.2.2.2.2.2.2.1,n.2.2.2.2.2.2.2.2.2.1,ke n.2.2.2.2.2.2.2.2.2.2.1,n.2.2.2.2.2.2.2.2.2.2.2))) m else f (M (a.1,a.2.1, -1,a.2.2.1,a.2.2.2.1,a.2.2.2.2.1,ke a.2.2.2.2.2.1,a.2.2.2.2.2.2.1,a.2.2.2.2.2.2.2.1,a.2.2.2.2.2.2.2.2.1,ke b,a.2.2.2.2.2.2.2.2.2))).bind λj=>F (λl=>f (y l)) (λl=>(zo 24 l.2.2.2.2.2.2.2.2.2.2.2 [qt.mk l.2.2.2.2.2.2.2.2.2.2.1.T_ l.2.2.1]).bind λm=>f (M (l.1,l.2.1,l.2.2.2.1,l.2.2.2.2.1,l.2.2.2.2.2.1,ke l.2.2.2.2.2.2.1,l.2.2.2.2.2.2.2.1,l.2.2.2.2.2.2.2.2.1,l.2.2.2.2.2.2.2.2.2.1,m))) j) e).bind λb=>F (λc=>f (Step.done (y c))) (λc=>f (Step.next (c.1,c.2.1,c.2.2.1,c.2.2.2.1,U8 (c.2.2.2.2.1+1),ke c.2.2.2.2.2.1,c.2.2.2.2.2.2))) b else f (Step.done (M (a.1,a.2.1,ke a.2.2.2.2.2.1,a.2.2.2.2.2.2)))
def q8s(A:zeP)(B:zcN)(C:zeD)(D:zq1)(E:zeH)(G:tA2)(H:tA9):zvI->U7 (Step zvI zwj):=λa=>if q (a.2.2.2.1 < a.2.2.1)=g then(za a.2.1 a.2.2.2.1).bind λb=>(H (ke b,a.1,a.2.2.2.2.2)).bind λc=>F (λd=>f (Step.done (y d.1))) (λd=>f (Step.next (a.1,a.2.1,a.2.2.1,U8 (a.2.2.2.1+1),a.2.2.2.2.1,d))) c else f (Step.done (M a.2.2.2.2))
def qbj(A:zeP)(B:zcN)(C:zeD)(D:zq1)(E:zeH)(G:tA2)(H:tA9)(x:Uh×q8):U7 zg7:=(A (ke x.2)).bind λa=>(B (x.1,x.2.T_)).bind λb=>(C (q (b < 0),ke x.2,30)).bind λc=>F (λd=>f (y d)) (λd=>(C (q (Sl.len a.1<=8),ke x.2,22)).bind λe=>F (λi=>f (y i)) (λi=>(lpO (q8r A B C D E G H) (x.1,a.1,a.1,Sl.len a.1,0,ke x.2,(lit [],0,0),a.2,(x.2.T_,0,0),O [] N)).bind λj=>F (λl=>f (y l)) (λl=>(za l.2.2.1.K_ 0).bind λm=>(G (l.1,ke m,l.2.1,l.2.2.2.2.1,l.2.2.2.2.2.1,l.2.2.2.2.2.2,O [] N)).bind λn=>F (λo=>f (y o.1)) (λo=>(lpO (q8s A B C D E G H) (l.2.1,l.2.2.2.2.1,Sl.len l.2.2.2.2.1,0,l.2.2.2.1,o)).bind λp=>F (λr=>f (y r)) (λr=>f (M r.2)) p) n) j) e) c
def q65:Uh×q8->U7 zg7:=qbj q9z q2c q6i q9y q36 q4l q5a
theorem ql6:q65=P67.F:=by delta q65;rw[qlp,qbt,qhu,qlq,qdx,qks,ql5];kernel_rfl
def qd7(x:zjW):U7 xr:=f (x.1.1,x.1.2,x.2.2.2)
def q7z:zjW->U7 xr:=qd7
theorem qk6:@Eq ((zjW)->U7 xr) F68 q7z:=by kernel_rfl
def qc3(x:xr):U7 xr:=f x
def q6w:xr->U7 xr:=qc3
theorem qiu:@Eq ((xr)->U7 xr) F69 q6w:=by kernel_rfl
def qco(A:zwl)(B:zwx)(C:zwN):zg9->U7 (Step zg9 zww):=λa=>if q (a.2.2.1 < a.2.1)=g then(za a.1 a.2.2.1).bind λb=>(if q (b.k_=1)=g then(Yc ((A (a.2.2.2.2.2.2,ke b)).bind λc=>F (λd=>f (y (d,ke a.2.2.2.1,a.2.2.2.2))) (λd=>(zo 80 a.2.2.2.2.2.2 [qa.mk d.1.1 d.1.2.1 d.1.2.2 d.2.1 d.2.2]).bind λe=>f (M (a.1,a.2.1,a.2.2.1,ke a.2.2.2.1,a.2.2.2.2.1,a.2.2.2.2.2.1,e))) c) ((A (a.2.2.2.2.2.2,ke b)).bind λc=>F (λd=>f (y (d,ke a.2.2.2.1,a.2.2.2.2))) (λd=>Yc ((zo 80 a.2.2.2.2.2.2 [qa.mk d.1.1 d.1.2.1 d.1.2.2 d.2.1 d.2.2]).bind λe=>f (M (a.1,a.2.1,a.2.2.1,ke a.2.2.2.1,a.2.2.2.2.1,a.2.2.2.2.2.1,e))) ((zo 80 a.2.2.2.2.2.2 [qa.mk d.1.1 d.1.2.1 d.1.2.2 d.2.1 d.2.2]).bind λe=>f (M (a.1,a.2.1,a.2.2.1,ke a.2.2.2.1,a.2.2.2.2.1,a.2.2.2.2.2.1,e)))) c)).bind λc=>F (λd=>f (y (d.1,ke d.2.1,d.2.2))) (λd=>f (M (d.1,d.2.1,d.2.2.1,ke d.2.2.2.1,d.2.2.2.2))) c else f (M (a.1,a.2.1,a.2.2.1,ke a.2.2.2.1,a.2.2.2.2))).bind λc=>F (λd=>f (Step.done (y (d.1,ke d.2.1,d.2.2)))) (λd=>f (Step.next (d.1,d.2.1,U8 (d.2.2.1+1),ke d.2.2.2.1,d.2.2.2.2))) c else f (Step.done (M (ke a.2.2.2.1,a.2.2.2.2)))
def qeg(A:zwl)(B:zwx)(C:zwN)(x:q8):U7 xr:=(lpO (qco A B C) (x.K_,x.K_.len,0,ke x,0,0,O [] N)).bind λa=>F (λb=>(B (b.1,b.2.2)).bind λc=>f (c.1,c.2.1,O [] N)) (λb=>(C (0,0,b.2.2.2)).bind λc=>f c) a
def q6n:zjY:=qeg q65 q7z q6w
theorem qls:@Eq zjY F70 q6n:=by delta q6n;rw[ql6,<-qk6,<-qiu];kernel_rfl
def qg8(A:zw3)(B:zcN)(x:Vh):U7 (qh×Int):=(A (O [lit [],lit [105,110,116],lit [111,119,110],lit [38],lit [38,109,117,116]] g,x.1.T_)).bind λa=>(if q (0 < x.1.K_.len)=g then(za x.1.K_ 0).bind λb=>(B (x.2,b.T_)).bind λc=>if q (c < 0)=g then f (y (31,qh.mk (lit []) 0 0)) else f (M (qh.mk (lit []) 0 0,qh.mk (lit []) a c)) else f (M (qh.mk (lit []) 0 0,qh.mk (lit []) a 0))).bind λb=>F (λc=>f (c.2,c.1)) (λc=>f (c.2,0)) b
def qam:Vh->U7 (qh×Int):=qg8 q2q q2c
theorem qm4:qam=P71.F:=by delta qam;rw[qcv,qbt];kernel_rfl
def qhe(x:qh×qh):U7 WC:=f (q (x.1.N_=x.2.N_),x.2)
def qao:qh×qh->U7 WC:=qhe
theorem qly:qao=P72.F:=by kernel_rfl
def qbk(A:zj4):zeU->U7 (Step zeU zj2):=λa=>if q (a.2.1 < a.1)=g then(za a.2.2.1 a.2.1).bind λb=>(za a.2.2.1 a.2.1).bind λc=>(A (c,a.2.2.2)).bind λd=>if d.1=g then f (Step.done (y (a.2.1,a.2.2.1,d.2))) else f (Step.next (a.1,U8 (a.2.1+1),a.2.2.1,d.2)) else f (Step.done (M a.2.2))
def qe4(A:zj4)(x:Xv):U7 vo:=(lpO (qbk A) (Sl.len x.1,0,x)).bind λa=>F (λb=>f b) (λb=>f (-1,b)) a
def qcf:Xv->U7 vo:=qe4 qao
theorem ql7:qcf=P73.F:=by delta qcf;rw[qly];kernel_rfl
def qd8(A:zw1)(x:Xv):U7 zaM:=(A x).bind λa=>f (q (0<=a.1),a.2)
def q5b:Xv->U7 zaM:=qd8 qcf
theorem qk7:q5b=P74.F:=by delta q5b;rw[ql7];kernel_rfl
def qeh(x:zeZ):Ul:=(if q (1 < x.1.M_)=g then(za x.2 x.1.t_).bind λa=>f (q (a.S_≠0)) else f N).bind λa=>f a
def q7l:zeZ->Ul:=qeh
theorem qlt:q7l=P75.F:=by kernel_rfl
def qfc(x:qh×qh):U7 WC:=(if q (1 < x.1.M_)=g then f (q (x.1.t_=x.2.t_),x.2) else f (N,x.2)).bind λa=>f a
def q8t:qh×qh->U7 WC:=qfc
theorem qlz:q8t=P76.F:=by kernel_rfl
def qbl(A:zj4):zeU->U7 (Step zeU zj2):=λa=>if q (a.2.1 < a.1)=g then(za a.2.2.1 a.2.1).bind λb=>(za a.2.2.1 a.2.1).bind λc=>(A (c,a.2.2.2)).bind λd=>if d.1=g then f (Step.done (y (a.2.1,a.2.2.1,d.2))) else f (Step.next (a.1,U8 (a.2.1+1),a.2.2.1,d.2)) else f (Step.done (M a.2.2))
def qe5(A:zj4)(x:Xv):U7 vo:=(lpO (qbl A) (Sl.len x.1,0,x)).bind λa=>F (λb=>f b) (λb=>f (-1,b)) a
def qcg:Xv->U7 vo:=qe5 q8t
theorem ql8:qcg=P77.F:=by delta qcg;rw[qlz];kernel_rfl
def qd9(A:zw1)(x:Xv):U7 zaM:=(A x).bind λa=>f (q (0<=a.1),a.2)
def q5c:Xv->U7 zaM:=qd9 qcg
theorem qk8:q5c=P78.F:=by delta q5c;rw[ql8];kernel_rfl
def qdn(A:zw7)(B:zjM)(C:zeZ->Ul)(D:zjM):zvx->U7 (Step zvx zAt):=λa=>if q (a.2.2.2.2.1 < a.2.2.2.1)=g then(za a.2.2.1 a.2.2.2.2.1).bind λb=>(za b.K_ 0).bind λc=>(A (ke c,a.1)).bind λd=>(B (a.2.2.2.2.2.2.2.2,qh.mk b.T_ d.1.M_ d.1.t_)).bind λe=>(if e.1=g then f (y (b.a_,30,lit [],lit [],0,0)) else(if q (d.2≠0)=g then(za b.K_ 0).bind λi=>f (y (i.a_,d.2,lit [],lit [],0,0)) else((C (e.2.2,a.1)).bind λj=>if j=g then(D e.2).bind λl=>f (a.1,a.2.1,a.2.2.1,a.2.2.2.1,a.2.2.2.2.1,l.1,ke a.2.2.2.2.2.1,a.2.2.2.2.2.2.1,a.2.2.2.2.2.2.2.1,ke b,l.2.2,l.2.1) else f (a.1,a.2.1,a.2.2.1,a.2.2.2.1,a.2.2.2.2.1,N,ke a.2.2.2.2.2.1,a.2.2.2.2.2.2.1,a.2.2.2.2.2.2.2.1,ke b,e.2.2,e.2.1)).bind λj=>if j.2.2.2.2.2.1=g then(za j.2.2.2.2.2.2.2.2.2.1.K_ 0).bind λl=>f (y (l.a_,34,lit [],lit [],0,0)) else f (M (j.1,j.2.1,j.2.2.1,j.2.2.2.1,j.2.2.2.2.1,ke j.2.2.2.2.2.2.1,j.2.2.2.2.2.2.2.1,j.2.2.2.2.2.2.2.2.1,j.2.2.2.2.2.2.2.2.2.2))).bind λi=>F (λj=>f (y j)) (λj=>f (M (j.1,j.2.1,j.2.2.1,j.2.2.2.1,j.2.2.2.2.1,ke j.2.2.2.2.2.1,j.2.2.2.2.2.2))) i).bind λi=>F (λj=>f (Step.done (y j))) (λj=>(zo 32 j.2.2.2.2.2.2.2.2.2 [j.2.2.2.2.2.2.2.2.1]).bind λl=>f (Step.next (j.1,j.2.1,j.2.2.1,j.2.2.2.1,U8 (j.2.2.2.2.1+1),ke j.2.2.2.2.2.1,j.2.2.2.2.2.2.1,j.2.2.2.2.2.2.2.1,l))) i else f (Step.done (M (a.1,a.2.1,ke a.2.2.2.2.2.1,a.2.2.2.2.2.2)))
def qh2(A:zw7)(B:zjM)(C:zeZ->Ul)(D:zjM)(x:Vh):U7 zko:=if q (8 < U8 (x.1.K_.len - 2))=g then f (qf.mk (lit []) (O [] N) (qh.mk (lit []) 0 0),x.1.a_,22) else(z7 x.1.K_ 0 (U8 (x.1.K_.len - 2))).bind λa=>(lpO (qdn A B C D) (x.2,U8 (x.1.K_.len - 2),a,a.len,0,ke x.1,(lit [],lit [],0,0),(x.1.T_,lit [],0,0),O [] N)).bind λb=>F (λc=>f (qf.mk c.2.2.1 (O [] N) (qh.mk c.2.2.2.1 c.2.2.2.2.1 c.2.2.2.2.2),c.1,c.2.1)) (λc=>(za c.2.2.1.K_ c.2.1).bind λd=>(A (ke d,c.1)).bind λe=>if q (e.2≠0)=g then(za c.2.2.1.K_ c.2.1).bind λi=>f (qf.mk (lit []) (O [] N) (qh.mk (lit []) 0 0),i.a_,e.2) else f (qf.mk c.2.2.2.2.1.1 c.2.2.2.2.2 e.1,0,0)) b
def qbm:Vh->U7 zko:=qh2 qam q5b q7l q5c
theorem qma:qbm=P79.F:=by delta qbm;rw[qm4,qk7,qlt,qk8];kernel_rfl
def qcp(A:zw4):zjU->U7 (Step zjU (zQ⊕Sl qf)):=λa=>if q (a.2.2.2.1 < a.2.2.1)=g then((za a.2.1 a.2.2.2.1).bind λb=>if q (b.k_≠6)=g then f (y a) else(A (ke b,a.1)).bind λc=>if q (c.2.2≠0)=g then f (M c.2) else(zo 72 a.2.2.2.2 [c.1]).bind λd=>f (y (a.1,a.2.1,a.2.2.1,a.2.2.2.1,d))).bind λb=>F (λc=>f (Step.next (c.1,c.2.1,c.2.2.1,U8 (c.2.2.2.1+1),c.2.2.2.2))) (λc=>f (Step.done (y c))) b else f (Step.done (M a.2.2.2.2))
def qg9(A:zw4)(x:Vh):U7 zkf:=(lpO (qcp A) (x.2,x.1.K_,x.1.K_.len,0,O [] N)).bind λa=>F (λb=>f (b.1,b.2,O [] N)) (λb=>f (0,0,b)) a
def q77:Vh->U7 zkf:=qg9 qbm
theorem qm5:q77=P80.F:=by delta q77;rw[qma];kernel_rfl
def qep(x:Int):Ul:=(if q (97<=x)=g then if q (x<=122)=g then f g else f (q (x=95)) else f (q (x=95))).bind λa=>f a
def q2s:Zk:=qep
theorem qi8:q2s=P81.F:=by kernel_rfl
def qf3(x:Int):Ul:=(if q (48<=x)=g then f (q (x<=57)) else f N).bind λa=>f a
def q4d:Zk:=qf3
theorem qiv:q4d=P82.F:=by kernel_rfl
def qf4(x:Zr):Ul:=(if q (x=lit [116,121,112,101])=g then f (q (x=lit [116,121,112,101])) else(if q (x=lit [102,110])=g then f (q (x=lit [102,110])) else(if q (x=lit [111,119,110])=g then f (q (x=lit [111,119,110])) else(if q (x=lit [99,101,108,108])=g then f (q (x=lit [99,101,108,108])) else(if q (x=lit [99,111,117,110,116,101,100])=g then f (q (x=lit [99,111,117,110,116,101,100])) else(if q (x=lit [108,111,99,107])=g then f (q (x=lit [108,111,99,107])) else(if q (x=lit [103,117,97,114,100])=g then f (q (x=lit [103,117,97,114,100])) else(if q (x=lit [119,104,101,114,101])=g then f (q (x=lit [119,104,101,114,101])) else(if q (x=lit [105,110,116])=g then f (q (x=lit [105,110,116])) else(if q (x=lit [109,117,116])=g then f (q (x=lit [109,117,116])) else(if q (x=lit [102,114,101,101])=g then f (q (x=lit [102,114,101,101])) else(if q (x=lit [117,110,108,111,99,107])=g then f (q (x=lit [117,110,108,111,99,107])) else(if q (x=lit [105,102])=g then f (q (x=lit [105,102])) else(if q (x=lit [101,108,115,101])=g then f (q (x=lit [101,108,115,101])) else(if q (x=lit [119,104,105,108,101])=g then f (q (x=lit [119,104,105,108,101])) else(if q (x=lit [114,101,116,117,114,110])=g then f (q (x=lit [114,101,116,117,114,110])) else(if q (x=lit [97,98,111,114,116])=g then f (q (x=lit [97,98,111,114,116])) else(if q (x=lit [102,111,114,107])=g then f (q (x=lit [102,111,114,107])) else(if q (x=lit [110,101,119])=g then f (q (x=lit [110,101,119])) else f (q (x=lit [97,114,114,97,121]))).bind λa=>f a).bind λa=>f a).bind λa=>f a).bind λa=>f a).bind λa=>f a).bind λa=>f a).bind λa=>f a).bind λa=>f a).bind λa=>f a).bind λa=>f a).bind λa=>f a).bind λa=>f a).bind λa=>f a).bind λa=>f a).bind λa=>f a).bind λa=>f a).bind λa=>f a).bind λa=>f a).bind λa=>if a=g then f g else f N
def q3q:vn:=qf4
theorem qiw:q3q=P83.F:=by kernel_rfl
def qcl(x:zX):Ua:=(if q (U8 (x.2+1) < (↑(V x.1):Int))=g then(ZH x.1 x.2 (U8 (x.2+2))).bind λa=>f (x.1,x.2,a) else f (x.1,x.2,lit [])).bind λa=>(if q (a.2.2=lit [45,62])=g then f (a.1,a.2.1,g) else if q (a.2.2=lit [60,61])=g then f (a.1,a.2.1,g) else f (a.1,a.2.1,q (a.2.2=lit [61,61]))).bind λb=>if b.2.2=g then f 2 else(Zg b.1 b.2.1).bind λc=>(if q (c=123)=g then f (q (c=123)) else(if q (c=125)=g then f (q (c=125)) else(if q (c=40)=g then f (q (c=40)) else(if q (c=41)=g then f (q (c=41)) else(if q (c=91)=g then f (q (c=91)) else(if q (c=93)=g then f (q (c=93)) else(if q (c=44)=g then f (q (c=44)) else(if q (c=58)=g then f (q (c=58)) else(if q (c=59)=g then f (q (c=59)) else(if q (c=61)=g then f (q (c=61)) else(if q (c=43)=g then f (q (c=43)) else(if q (c=45)=g then f (q (c=45)) else(if q (c=38)=g then f (q (c=38)) else f (q (c=60))).bind λd=>f d).bind λd=>f d).bind λd=>f d).bind λd=>f d).bind λd=>f d).bind λd=>f d).bind λd=>f d).bind λd=>f d).bind λd=>f d).bind λd=>f d).bind λd=>f d).bind λd=>f d).bind λd=>if d=g then f 1 else f 0
def q43:zX->Ua:=qcl
theorem qjk:q43=P84.F:=by kernel_rfl
def q78(A:Zk)(B:Zk)(C:vn)(D:Wz):zhd->U7 (Step zhd zhd):=λa=>if q (a.2.2.1 < (↑(V a.1):Int))=g then(Zg a.1 a.2.2.1).bind λb=>(A b).bind λc=>(Zg a.1 a.2.2.1).bind λd=>(B d).bind λe=>(if(!c)=g then f (a.1,a.2.1,a.2.2.1, !e,a.2.2.2) else f (a.1,a.2.1,a.2.2.1,N,a.2.2.2)).bind λi=>if i.2.2.2.1=g then f (Step.done (i.1,i.2.1,i.2.2.1,i.2.2.2.2)) else f (Step.next (i.1,i.2.1,U8 (i.2.2.1+1),i.2.2.2.2)) else f (Step.done a)
def q79(A:Zk)(B:Zk)(C:vn)(D:Wz):zaC->U7 (Step zaC zaC):=λa=>if q (a.2.2.1 < (↑(V a.1):Int))=g then(Zg a.1 a.2.2.1).bind λb=>(B b).bind λc=>if(!c)=g then f (Step.done a) else(if q (a.2.2.2.1<=1099511627776)=g then(Zg a.1 a.2.2.1).bind λd=>f (a.1,a.2.1,a.2.2.1,U8 (U8 (a.2.2.2.1 * 10)+U8 (IntKind.u8.wrap (d - 48))),a.2.2.2.2) else f a).bind λd=>(if q (1099511627776 < d.2.2.2.1)=g then f (d.1,d.2.1,d.2.2.1,d.2.2.2.1,g,d.2.2.2.2.2) else f d).bind λe=>f (Step.next (e.1,e.2.1,U8 (e.2.2.1+1),e.2.2.2)) else f (Step.done a)
def qcz(A:Zk)(B:Zk)(C:vn)(D:Wz)(x:zX):U7 (q9×Int):=(Zg x.1 x.2).bind λa=>(A a).bind λb=>(Zg x.1 x.2).bind λc=>(B c).bind λd=>(if b=g then(lpO (q78 A B C D) (x.1,x.2,x.2,q9.mk 0 (lit []) 0 0,q9.mk 0 (lit []) 0 x.2)).bind λe=>(ZH e.1 e.2.1 e.2.2.1).bind λi=>if q (16 < (↑i.size:Int))=g then f (y (13,q9.mk 0 (lit []) 0 0)) else(C i).bind λj=>(if j=g then f (e.2.2.2.1,q9.mk 2 i e.2.2.2.2.n_ e.2.2.2.2.a_) else f (e.2.2.2.1,q9.mk 1 i e.2.2.2.2.n_ e.2.2.2.2.a_)).bind λl=>f (y (0,l.2)) else f (M (x.1,x.2,x.2,d,q9.mk 0 (lit []) 0 0,q9.mk 0 (lit []) 0 x.2))).bind λe=>F (λi=>f (i.2,i.1)) (λi=>(if i.2.2.2.1=g then(lpO (q79 A B C D) (i.1,i.2.1,i.2.2.1,0,N,i.2.2.2.2)).bind λj=>(if q (j.2.2.1 < (↑(V j.1):Int))=g then(Zg j.1 j.2.2.1).bind λl=>(A l).bind λm=>f (j.1,j.2.1,j.2.2.1,j.2.2.2.1,j.2.2.2.2.1,m,j.2.2.2.2.2) else f (j.1,j.2.1,j.2.2.1,j.2.2.2.1,j.2.2.2.2.1,N,j.2.2.2.2.2)).bind λl=>(if l.2.2.2.2.1=g then f (l.1,l.2.1,l.2.2.1,l.2.2.2.1,g,l.2.2.2.2.2.2) else if l.2.2.2.2.2.1=g then f (l.1,l.2.1,l.2.2.1,l.2.2.2.1,g,l.2.2.2.2.2.2) else(Zg l.1 l.2.1).bind λm=>if q (m=48)=g then f (l.1,l.2.1,l.2.2.1,l.2.2.2.1,q (U8 (l.2.1+1) < l.2.2.1),l.2.2.2.2.2.2) else f (l.1,l.2.1,l.2.2.1,l.2.2.2.1,N,l.2.2.2.2.2.2)).bind λm=>if m.2.2.2.2.1=g then f (y (12,q9.mk 0 (lit []) 0 0)) else(ZH m.1 m.2.1 m.2.2.1).bind λn=>f (y (0,q9.mk 3 n m.2.2.2.1 m.2.2.2.2.2.2.a_)) else f (M (i.1,i.2.1,i.2.2.2.2))).bind λj=>F (λl=>f (l.2,l.1)) (λl=>(D (l.1,l.2.1)).bind λm=>if q (m=0)=g then f (q9.mk 0 (lit []) 0 0,11) else(ZH l.1 l.2.1 (U8 (l.2.1+m))).bind λn=>f (q9.mk 4 n l.2.2.2.n_ l.2.2.2.a_,0)) j) e
def q67:zX->U7 (q9×Int):=qcz q2s q4d q3q q43
theorem qk9:q67=P85.F:=by delta q67;rw[qi8,qiv,qiw,qjk];kernel_rfl
def q7o(A:zqW):Ve->U7 (Step Ve Ve):=λa=>(if q (a.2.1 < (↑(V a.1):Int))=g then(Zg a.1 a.2.1).bind λb=>f (a.1,a.2.1,q (b≠10),a.2.2) else f (a.1,a.2.1,N,a.2.2)).bind λb=>if b.2.2.1=g then f (Step.next (b.1,U8 (b.2.1+1),b.2.2.2)) else f (Step.done (b.1,b.2.1,b.2.2.2))
def q7p(A:zqW):Ve->U7 (Step Ve zxa):=λa=>if q (a.2.1 < (↑(V a.1):Int))=g then(((Zg a.1 a.2.1).bind λb=>if q (b=32)=g then f (a.1,a.2.1,g,a.2.2) else(Zg a.1 a.2.1).bind λc=>f (a.1,a.2.1,q (c=10),a.2.2)).bind λb=>if b.2.2.1=g then f (y (b.1,U8 (b.2.1+1),b.2.2.2)) else(Zg b.1 b.2.1).bind λc=>if q (c=35)=g then(lpO (q7o A) (b.1,b.2.1,b.2.2.2)).bind λd=>f (y d) else(A (b.1,b.2.1)).bind λe=>if q (e.2≠0)=g then f (M (b.2.1,e.2)) else(zo 40 b.2.2.2 [e.1]).bind λi=>f (y (b.1,U8 (b.2.1+(↑e.1.T_.size:Int)),i))).bind λb=>F (λc=>f (Step.next c)) (λc=>f (Step.done (y c))) b else f (Step.done (M (a.1,a.2.2)))
def qb8(A:zqW)(x:Zr):U7 (Int×Int×Uu):=if q (16384 < (↑x.size:Int))=g then f (0,10,O [] N) else(lpO (q7p A) (x,0,O [] N)).bind λa=>F (λb=>f (b.1,b.2,O [] N)) (λb=>(zo 40 b.2 [q9.mk 0 (lit []) 0 (↑(V b.1):Int)]).bind λc=>f (0,0,c)) a
def q6h:zjO:=qb8 q67
theorem qi9:q6h=P86.F:=by delta q6h;rw[qk9];kernel_rfl
def qau(x:xm):U7 zU:=(za x.2.2 x.2.1.1).bind λa=>(za x.2.2 x.2.1.1).bind λb=>(if q (x.2.1.2.2.1=0)=g then if q (b.k_=2)=g then(za x.2.2 x.2.1.1).bind λc=>(za x.2.2 x.2.1.1).bind λd=>f (q (d.T_=x.1),x.2) else if q (b.k_=4)=g then(za x.2.2 x.2.1.1).bind λe=>(za x.2.2 x.2.1.1).bind λi=>f (q (i.T_=x.1),x.2) else f (N,x.2) else f (N,x.2)).bind λc=>f c
def q1p:xm->U7 zU:=qau
theorem q76:q1p=P87.F:=by kernel_rfl
def qa6(A:ye)(x:xm):U7 zU:=(A x).bind λa=>(if a.1=g then f (a.1,(U8 (a.2.1.1+1),a.2.1.2),a.2.2) else f a).bind λb=>f b
def q10:xm->U7 zU:=qa6 q1p
theorem q1s:q10=P88.F:=by delta q10;rw[q76];kernel_rfl
def q90(x:Yk):U7 zD:=(if q (x.2.1.2.2.1=0)=g then(za x.2.2 x.2.1.1).bind λa=>(za x.2.2 x.2.1.1).bind λb=>f ((x.2.1.1,x.2.1.2.1,x.1,b.a_),x.2.2) else f x.2).bind λa=>f a
def q19:Yk->U7 zD:=q90
theorem q4w:q19=P89.F:=by kernel_rfl
def q92(A:Ww)(x:zD):U7 Yj:=(za x.2 x.1.1).bind λa=>(za x.2 x.1.1).bind λb=>(if q (x.1.2.2.1≠0)=g then f (g,x.1,x.2,(0,lit [],0,0),b) else f (q (b.k_≠1),x.1,x.2,(0,lit [],0,0),b)).bind λ(c:Bool×(Int×Int×Int×Int)×Sl q9×(Int×U5×Int×Int)×q9)=>if c.1=g then(A (20,c.2.1,c.2.2.1)).bind λd=>f ((0,lit [],0,0),d) else f ((5,c.2.2.2.2.T_,0,c.2.2.2.2.a_),(U8 (c.2.1.1+1),c.2.1.2),c.2.2.1)
def q16:zD->U7 Yj:=q92 q19
theorem q3h:q16=P90.F:=by delta q16;rw[q4w];kernel_rfl
def q91(A:ye)(B:Ww)(x:xm):U7 zD:=(A x).bind λa=>(if(!a.1)=g then(B (20,a.2)).bind λb=>f b else f a.2).bind λb=>f b
def q12:xm->U7 zD:=q91 q10 q19
theorem q2z:q12=P91.F:=by delta q12;rw[q1s,q4w];kernel_rfl
def q96(A:ye)(B:xh)(C:W9)(x:zD):U7 Zv:=(za x.2 x.1.1).bind λa=>(za x.2 x.1.1).bind λb=>(za x.2 x.1.1).bind λc=>(za x.2 x.1.1).bind λd=>(A (lit [105,110,116],x)).bind λe=>if e.1=g then f (q6.mk 8 b.T_ 0 d.a_ (O [] N),e.2) else(A (lit [111,119,110],e.2)).bind λi=>(if(!i.1)=g then(B (lit [38],i.2)).bind λj=>(A (lit [109,117,116],j)).bind λl=>(if l.1=g then f (l.2.1,l.2.2,(0,lit [],0,0),8,lit [38,109,117,116],0,d.a_) else f (l.2.1,l.2.2,(0,lit [],0,0),8,b.T_,0,d.a_)).bind λ(m:zmL)=>f m else f (i.2.1,i.2.2,(0,lit [],0,0),8,b.T_,0,d.a_)).bind λ(j:zmL)=>(C (j.1,j.2.1)).bind λl=>f (q6.mk j.2.2.2.1 j.2.2.2.2.1 j.2.2.2.2.2.1 j.2.2.2.2.2.2 (O [q6.mk l.1.1 l.1.2.1 l.1.2.2.1 l.1.2.2.2 (O [] N)] g),l.2)
def q3c:zD->U7 Zv:=q96 q10 q12 q16
theorem qjl:q3c=P92.F:=by delta q3c;rw[q1s,q2z,q3h];kernel_rfl
def q7q(A:Ww)(x:zD):U7 Yk:=(za x.2 x.1.1).bind λa=>(za x.2 x.1.1).bind λb=>(if q (x.1.2.2.1≠0)=g then f (g,x.1,x.2,b) else f (q (b.k_≠3),x.1,x.2,b)).bind λc=>if c.1=g then(A (20,c.2.1,c.2.2.1)).bind λd=>f (0,d) else f (c.2.2.2.n_,(U8 (c.2.1.1+1),c.2.1.2),c.2.2.1)
def q2f:zD->U7 Yk:=q7q q19
theorem q8k:q2f=P93.F:=by delta q2f;rw[q4w];kernel_rfl
def q93(A:ye)(B:zjv)(x:Zv):U7 Zv:=(A (lit [43],x.2)).bind λa=>if a.1=g then(B a.2).bind λb=>f (q6.mk x.1.k_ x.1.T_ b.1 x.1.a_ x.1.K_,b.2) else(A (lit [45],a.2)).bind λc=>(if c.1=g then(B c.2).bind λd=>f (d.2.1,d.2.2,q6.mk x.1.k_ x.1.T_ (U8 (0 - d.1)) x.1.a_ x.1.K_,0,lit [],0,0) else f (c.2.1,c.2.2,kr x.1,0,lit [],0,0)).bind λ(d:(Int×Int×Int×Int)×Sl q9×q6×Int×U5×Int×Int)=>f (kr d.2.2.1,d.1,d.2.1)
def q27:Zv->U7 Zv:=q93 q10 q2f
theorem qgk:q27=P94.F:=by delta q27;rw[q1s,q8k];kernel_rfl
def q94(A:zjv)(B:ye)(C:W9)(D:zwe)(x:zD):U7 Zv:=(za x.2 x.1.1).bind λa=>(za x.2 x.1.1).bind λb=>(za x.2 x.1.1).bind λc=>(za x.2 x.1.1).bind λd=>if q (d.k_=3)=g then(A x).bind λe=>f (q6.mk 5 (lit []) e.1 b.a_ (O [] N),e.2) else(B (lit [45],x)).bind λi=>if i.1=g then(A i.2).bind λj=>f (q6.mk 5 (lit []) (U8 (0 - j.1)) b.a_ (O [] N),j.2) else(C i.2).bind λl=>(D (q6.mk l.1.1 l.1.2.1 l.1.2.2.1 l.1.2.2.2 (O [] N),l.2)).bind λm=>f (kr m.1,m.2)
def q1u:zD->U7 Zv:=q94 q2f q10 q16 q27
theorem q7g:q1u=P95.F:=by delta q1u;rw[q8k,q1s,q3h,qgk];kernel_rfl
def q7b(A:ye)(B:Ww):zqx->U7 (Step zqx zwk):=λa=>if q (a.1 < Sl.len a.2.2.2)=g then(za a.2.2.2 a.1).bind λb=>(za a.2.2.2 a.1).bind λc=>(A (c,a.2.1,a.2.2.1)).bind λd=>if d.1=g then(za a.2.2.2 a.1).bind λe=>(za a.2.2.2 a.1).bind λi=>f (Step.done (y (i,d.2))) else f (Step.next (U8 (a.1+1),d.2.1,d.2.2,a.2.2.2)) else f (Step.done (M (a.2.1,a.2.2.1)))
def qa7(A:ye)(B:Ww)(x:zD):U7 xm:=(lpO (q7b A B) (0,x.1,x.2,O [lit [60],lit [60,61],lit [61,61]] g)).bind λa=>F (λb=>f b) (λb=>(B (20,b)).bind λc=>f (lit [],c)) a
def q68:zD->U7 xm:=qa7 q10 q19
theorem qka:q68=P96.F:=by delta q68;rw[q1s,q4w];kernel_rfl
def q6r(A:wE)(B:zD->U7 xm)(x:zD):U7 ZG:=(A x).bind λa=>(B a.2).bind λb=>(A b.2).bind λc=>f ((4,b.1,0,a.1.a_),c.2.1,c.2.2,O [kr a.1,kr c.1] g)
def q1v:YB:=q6r q1u q68
theorem qgl:q1v=P97.F:=by delta q1v;rw[q7g,qka];kernel_rfl
def q5e(A:xh)(B:ye)(C:wE):zqJ->U7 (Step zqJ zaF):=λa=>(B (lit [44],a.1,a.2.1)).bind λb=>if(!b.1)=g then f (Step.done (b.2.1,b.2.2,a.2.2.2)) else(C b.2).bind λc=>(zo 64 a.2.2.2 [kr c.1]).bind λd=>f (Step.next (c.2.1,c.2.2,kr c.1,d))
def q95(A:xh)(B:ye)(C:wE)(x:zD):U7 zaF:=(A (lit [40],x)).bind λa=>(B (lit [41],a)).bind λb=>(if b.1=g then f (g,b.2) else f (q (b.2.1.2.2.1≠0),b.2)).bind λc=>if c.1=g then f (c.2.1,c.2.2,O [] N) else(C c.2).bind λd=>(lpO (q5e A B C) (d.2.1,d.2.2,kr d.1,O [kr d.1] g)).bind λe=>(A (lit [41],e.1,e.2.1)).bind λi=>f (i.1,i.2,e.2.2)
def q3b:zD->U7 zaF:=q95 q12 q10 q1u
theorem qdf:q3b=P98.F:=by delta q3b;rw[q2z,q1s,q7g];kernel_rfl
def q97(A:ye)(B:zjv)(C:W9)(D:wE)(E:ye)(G:zqe)(H:xh)(I:zwe)(x:zD):U7 Zv:=(za x.2 x.1.1).bind λa=>(za x.2 x.1.1).bind λb=>(A (lit [110,101,119],x)).bind λc=>if c.1=g then(B c.2).bind λd=>f (q6.mk 23 (lit []) d.1 b.a_ (O [] N),d.2) else(A (lit [97,114,114,97,121],c.2)).bind λe=>if e.1=g then(C e.2).bind λi=>f (q6.mk 24 i.1.2.1 0 b.a_ (O [] N),i.2) else(A (lit [38],e.2)).bind λj=>if j.1=g then(A (lit [109,117,116],j.2)).bind λl=>(if l.1=g then f (l.2.1,l.2.2,(0,lit [],0,0),27,lit [],0,b.a_) else f (l.2.1,l.2.2,(0,lit [],0,0),26,lit [],0,b.a_)).bind λ(m:zmL)=>(C (m.1,m.2.1)).bind λn=>f (q6.mk m.2.2.2.1 n.1.2.1 m.2.2.2.2.2.1 m.2.2.2.2.2.2 (O [] N),n.2) else(za j.2.2 j.2.1.1).bind λo=>(za j.2.2 j.2.1.1).bind λp=>if q (p.k_≠1)=g then(D j.2).bind λr=>f (kr r.1,r.2) else(C j.2).bind λs=>(E (lit [40],s.2)).bind λt=>if t.1=g then(G t.2).bind λu=>f (q6.mk 28 s.1.2.1 s.1.2.2.1 s.1.2.2.2 u.2.2,u.1,u.2.1) else(A (lit [91],t.2)).bind λv=>if v.1=g then(D v.2).bind λw=>(H (lit [93],w.2)).bind λz=>f (q6.mk 25 s.1.2.1 s.1.2.2.1 s.1.2.2.2 (O [kr w.1] g),z) else(E (lit [43],v.2)).bind λJ=>(E (lit [45],J.2)).bind λK=>(if J.1=g then(za K.2.2 (U8 (K.2.1.1+1))).bind λL=>(za K.2.2 (U8 (K.2.1.1+1))).bind λP=>f (K.1,q (P.k_=1),K.2.1,K.2.2,(0,lit [],0,0),s.1) else if K.1=g then(za K.2.2 (U8 (K.2.1.1+1))).bind λQ=>(za K.2.2 (U8 (K.2.1.1+1))).bind λR=>f (K.1,q (R.k_=1),K.2.1,K.2.2,(0,lit [],0,0),s.1) else f (K.1,N,K.2.1,K.2.2,(0,lit [],0,0),s.1)).bind λ(L:Bool×Bool×(Int×Int×Int×Int)×Sl q9×(Int×U5×Int×Int)×Int×U5×Int×Int)=>if L.2.1=g then(C ((U8 (L.2.2.1.1+1),L.2.2.1.2),L.2.2.2.1)).bind λP=>(if L.1=g then f (P.2.1,P.2.2,L.2.2.2.2.1,(22,lit [],0,L.2.2.2.2.2.2.2.2),O [q6.mk L.2.2.2.2.2.1 L.2.2.2.2.2.2.1 L.2.2.2.2.2.2.2.1 L.2.2.2.2.2.2.2.2 (O [] N),q6.mk P.1.1 P.1.2.1 P.1.2.2.1 P.1.2.2.2 (O [] N)] g) else f (P.2.1,P.2.2,L.2.2.2.2.1,(21,lit [],0,L.2.2.2.2.2.2.2.2),O [q6.mk L.2.2.2.2.2.1 L.2.2.2.2.2.2.1 L.2.2.2.2.2.2.2.1 L.2.2.2.2.2.2.2.2 (O [] N),q6.mk P.1.1 P.1.2.1 P.1.2.2.1 P.1.2.2.2 (O [] N)] g)).bind λ(Q:xK)=>f (q6.mk Q.2.2.2.1.1 Q.2.2.2.1.2.1 Q.2.2.2.1.2.2.1 Q.2.2.2.1.2.2.2 Q.2.2.2.2,Q.1,Q.2.1) else(I (q6.mk L.2.2.2.2.2.1 L.2.2.2.2.2.2.1 L.2.2.2.2.2.2.2.1 L.2.2.2.2.2.2.2.2 (O [] N),L.2.2.1,L.2.2.2.1)).bind λR=>f (kr R.1,R.2)
def q5w:zD->U7 Zv:=q97 q10 q2f q16 q1u q1p q3b q12 q27
theorem qjm:q5w=P99.F:=by delta q5w;rw[q1s,q8k,q3h,q7g,q76,qdf,q2z,qgk];kernel_rfl
def qby(A:W9)(B:ye)(C:zqe)(D:ye)(E:wE)(G:xh)(H:wE)(x:zD):U7 ZG:=(A x).bind λa=>(B (lit [40],a.2)).bind λb=>if b.1=g then(C b.2).bind λc=>f ((20,lit [],0,a.1.2.2.2),c.1,c.2.1,O [q6.mk 28 a.1.2.1 a.1.2.2.1 a.1.2.2.2 c.2.2] g) else(D (lit [91],b.2)).bind λd=>if d.1=g then(E d.2).bind λe=>(G (lit [93],e.2)).bind λi=>(G (lit [61],i)).bind λj=>(E j).bind λl=>f ((11,a.1.2),l.2.1,l.2.2,O [kr e.1,kr l.1] g) else(G (lit [61],d.2)).bind λm=>(H m).bind λn=>f ((10,a.1.2),n.2.1,n.2.2,O [kr n.1] g)
def q6s:YB:=qby q16 q1p q3b q10 q1u q12 q5w
theorem qix:q6s=zlx.F:=by delta q6s;rw[q3h,q76,qdf,q1s,q7g,q2z,qjm];kernel_rfl
def q4m(A:Wv)(B:Wv)(x:zeE):U7 ZG:=(A x.2.2).bind λa=>(B (a.2.1,a.2.2.1)).bind λb=>(zo 64 a.2.2.2 [q6.mk b.1.1 b.1.2.1 b.1.2.2.1 b.1.2.2.2 b.2.2.2]).bind λc=>f ((x.1,a.1.2.1,a.1.2.2.1,x.2.1),b.2.1,b.2.2.1,c)
def q1w(h:YB):zeE->U7 ZG:=q4m q1v h
theorem qeq(h:YB):@Eq ((zeE)->U7 ZG) (zgz h) (q1w h):=by delta q1w;rw[qgl];kernel_rfl
def q6t(A:zeE->U7 ZG)(B:ye)(C:Wv)(D:W9)(E:xh)(G:zjv)(H:ye)(I:wE)(J:zqe)(K:Wv)(x:zD):U7 ZG:=(za x.2 x.1.1).bind λa=>(za x.2 x.1.1).bind λb=>(za x.2 x.1.1).bind λc=>(za x.2 x.1.1).bind λd=>(if q (d.k_=2)=g then(za x.2 x.1.1).bind λe=>(za x.2 x.1.1).bind λi=>f (b.a_,i.T_,x.1,x.2,0,lit [],0,0) else f (b.a_,lit [],x.1,x.2,0,lit [],0,0)).bind λ(e:Int×U5×(Int×Int×Int×Int)×Sl q9×Int×U5×Int×Int)=>(if q (e.2.1=lit [105,102])=g then(A (15,e.1,(U8 (e.2.2.1.1+1),e.2.2.1.2),e.2.2.2.1)).bind λi=>(B (lit [101,108,115,101],i.2.1,i.2.2.1)).bind λj=>(if j.1=g then(C j.2).bind λl=>f (l.2.1,l.2.2.1,e.2.2.2.2,i.1,l.1,i.2.2.2,l.2.2.2) else f (j.2.1,j.2.2,e.2.2.2.2,i.1,(9,lit [],0,e.1),i.2.2.2,O [] N)).bind λ(l:(Int×Int×Int×Int)×Sl q9×(Int×U5×Int×Int)×(Int×U5×Int×Int)×(Int×U5×Int×Int)×Sl q6×Sl q6)=>(zo 64 l.2.2.2.2.2.1 [q6.mk l.2.2.2.2.1.1 l.2.2.2.2.1.2.1 l.2.2.2.2.1.2.2.1 l.2.2.2.2.1.2.2.2 l.2.2.2.2.2.2]).bind λm=>f (y (l.1,l.2.1,l.2.2.2.1,m)) else if q (e.2.1=lit [119,104,105,108,101])=g then(A (16,e.1,(U8 (e.2.2.1.1+1),e.2.2.1.2),e.2.2.2.1)).bind λn=>f (y (n.2.1,n.2.2.1,n.1,n.2.2.2)) else(if q (e.2.1=lit [102,114,101,101])=g then(D ((U8 (e.2.2.1.1+1),e.2.2.1.2),e.2.2.2.1)).bind λo=>f (o.2.1,o.2.2,e.2.2.2.2,(12,o.1.2.1,0,e.1),O [] N) else(if q (e.2.1=lit [108,111,99,107])=g then f (e.2.1,e.2.1,q (e.2.1=lit [108,111,99,107]),e.2.2.1,e.2.2.2.1,e.2.2.2.2,0,lit [],0,e.1) else f (e.2.1,e.2.1,q (e.2.1=lit [117,110,108,111,99,107]),e.2.2.1,e.2.2.2.1,e.2.2.2.2,0,lit [],0,e.1)).bind λ(p:U5×U5×Bool×(Int×Int×Int×Int)×Sl q9×(Int×U5×Int×Int)×Int×U5×Int×Int)=>(if p.2.2.1=g then(D ((U8 (p.2.2.2.1.1+1),p.2.2.2.1.2),p.2.2.2.2.1)).bind λr=>(if q (p.1=lit [117,110,108,111,99,107])=g then f (r.2.1,r.2.2,p.2.2.2.2.2.1,(14,p.2.2.2.2.2.2.2),r.1) else f (r.2.1,r.2.2,p.2.2.2.2.2.1,(13,p.2.2.2.2.2.2.2),r.1)).bind λ(s:(Int×Int×Int×Int)×Sl q9×(Int×U5×Int×Int)×(Int×U5×Int×Int)×Int×U5×Int×Int)=>(E (lit [91],s.1,s.2.1)).bind λt=>(G t).bind λu=>(E (lit [93],u.2)).bind λv=>f (v.1,v.2,s.2.2.1,(s.2.2.2.1.1,s.2.2.2.2.2.1,u.1,s.2.2.2.1.2.2.2),O [] N) else(if q (p.2.1=lit [114,101,116,117,114,110])=g then(H (lit [59],(U8 (p.2.2.2.1.1+1),p.2.2.2.1.2),p.2.2.2.2.1)).bind λw=>(if(!w.1)=g then(I w.2).bind λz=>f (z.2.1,z.2.2,p.2.2.2.2.2.1,(17,p.2.2.2.2.2.2.2),O [kr z.1] g) else f (w.2.1,w.2.2,p.2.2.2.2.2.1,(17,p.2.2.2.2.2.2.2),O [] N)).bind λ(z:xK)=>f z else(if q (p.2.1=lit [97,98,111,114,116])=g then f ((U8 (p.2.2.2.1.1+1),p.2.2.2.1.2),p.2.2.2.2.1,p.2.2.2.2.2.1,(18,p.2.2.2.2.2.2.2),O [] N) else(if q (p.2.1=lit [102,111,114,107])=g then(D ((U8 (p.2.2.2.1.1+1),p.2.2.2.1.2),p.2.2.2.2.1)).bind λL=>(J L.2).bind λP=>f (P.1,P.2.1,p.2.2.2.2.2.1,(19,L.1.2.1,p.2.2.2.2.2.2.2.2),P.2.2) else(K (p.2.2.2.1,p.2.2.2.2.1)).bind λQ=>f (Q.2.1,Q.2.2.1,p.2.2.2.2.2.1,Q.1,Q.2.2.2)).bind λ(L:xK)=>f L).bind λ(L:xK)=>f L).bind λ(w:xK)=>f w).bind λ(r:xK)=>f r).bind λ(o:xK)=>f (M o)).bind λ(i:(Int×Int×Int×Int)×Sl q9×(Int×U5×Int×Int)×Sl q6⊕(Int×Int×Int×Int)×Sl q9×(Int×U5×Int×Int)×(Int×U5×Int×Int)×Sl q6)=>F (λj=>f (j.2.2.1,j.1,j.2.1,j.2.2.2)) (λj=>(E (lit [59],j.1,j.2.1)).bind λl=>f (j.2.2.2.1,l.1,l.2,j.2.2.2.2)) i
def q32(h:YB):YB:=q6t (q1w h) q10 h q16 q12 q2f q1p q1u q3b q6s
theorem qfz(h:YB):@Eq YB (zgA h) (q32 h):=by delta q32;rw[<-qeq h,q1s,q3h,q2z,q8k,q76,q7g,qdf,qix];kernel_rfl
def q4a(A:ye)(B:Ww)(C:xh)(D:ye)(E:Wv):xK->U7 (Step xK xK):=λa=>if q (a.1.2.2.1=0)=g then(D (lit [125],a.1,a.2.1)).bind λb=>if b.1=g then f (Step.done (b.2.1,b.2.2,a.2.2)) else(E b.2).bind λc=>(zo 64 a.2.2.2.2 [q6.mk c.1.1 c.1.2.1 c.1.2.2.1 c.1.2.2.2 c.2.2.2]).bind λd=>f (Step.next (c.2.1,c.2.2.1,a.2.2.1,a.2.2.2.1,d)) else f (Step.done a)
def q2g(A:ye)(B:Ww)(C:xh)(D:ye)(E:Wv)(x:zD):U7 ZG:=(za x.2 x.1.1).bind λa=>(za x.2 x.1.1).bind λb=>(A (lit [123],x)).bind λc=>(if c.1=g then f (q (8<=c.2.1.2.1),c.2.1,c.2.2,(0,lit [],0,0),9,lit [],0,b.a_) else f (N,c.2.1,c.2.2,(0,lit [],0,0),9,lit [],0,b.a_)).bind λd=>(if d.1=g then(B (21,d.2.1,d.2.2.1)).bind λe=>f (e.1,e.2,d.2.2.2) else f d.2).bind λe=>(C (lit [123],e.1,e.2.1)).bind λi=>(lpO (q4a A B C D E) ((i.1.1,U8 (i.1.2.1+1),i.1.2.2),i.2,e.2.2.1,e.2.2.2,O [] N)).bind λj=>f (j.2.2.2.1,(j.1.1,U8 (j.1.2.1 - 1),j.1.2.2),j.2.1,j.2.2.2.2)
def q8l(h:YB):YB:=q2g q1p q19 q12 q10 (q32 h)
theorem qia(h:YB):@Eq YB (zjd h) (q8l h):=by delta q8l;rw[q76,q4w,q2z,q1s,<-qfz h];kernel_rfl
def q49:Nat->zD->U7 ZG
 |0=>λ_=>W
 |k+1=>q8l (q49 k)
theorem q8m:∀k,@Eq YB (zcf k) (q49 k)
 |0=>rfl
 |k+1=>(qia (zcf k)).trans (congrArg q8l (q8m k))
def q5f:YB:=q49 100000
theorem qiy:@Eq YB zzo q5f:=q8m 100000
def qav(A:W9)(B:xh)(C:ye)(D:wE)(E:ye)(G:Ww)(H:Wv):V7->U7 (Step V7 xK):=λa=>(if(!a.1)=g then f (a.1,q (a.2.1.2.2.1=0),a.2) else f (a.1,N,a.2)).bind λ(b:Bool×Bool×(Int×Int×Int×Int)×Sl q9×(Int×U5×Int×Int)×(Int×U5×Int×Int)×Sl q6)=>if b.2.1=g then(A (b.2.2.1,b.2.2.2.1)).bind λc=>(B (lit [58],c.2)).bind λd=>(D d).bind λe=>(zo 64 b.2.2.2.2.2.2 [q6.mk 7 c.1.2.1 c.1.2.2.1 c.1.2.2.2 (O [kr e.1] g)]).bind λi=>(C (lit [44],e.2)).bind λj=>(if(!j.1)=g then(B (lit [41],j.2)).bind λl=>f (g,l.1,l.2,b.2.2.2.2.1,b.2.2.2.2.2.1,i) else f (b.1,j.2.1,j.2.2,b.2.2.2.2.1,b.2.2.2.2.2.1,i)).bind λ(l:V7)=>f (Step.next l) else f (Step.done b.2.2)
def qdp(A:W9)(B:xh)(C:ye)(D:wE)(E:ye)(G:Ww)(H:Wv)(x:Yk):U7 ZG:=(A x.2).bind λa=>(B (lit [40],a.2)).bind λb=>(C (lit [41],b)).bind λc=>(lpO (qav A B C D E G H) (c.1,c.2.1,c.2.2,(0,lit [],0,0),(6,a.1.2.1,a.1.2.2.1,x.1),O [] N)).bind λd=>(za d.2.1 d.1.1).bind λe=>(za d.2.1 d.1.1).bind λi=>(C (lit [45,62],d.1,d.2.1)).bind λj=>(if j.1=g then(E (lit [38],j.2)).bind λl=>(if l.1=g then(G (20,l.2)).bind λm=>f (m.1,m.2,d.2.2.1,d.2.2.2.1,(8,lit [],0,i.a_),d.2.2.2.2) else f (l.2.1,l.2.2,d.2.2.1,d.2.2.2.1,(8,lit [],0,i.a_),d.2.2.2.2)).bind λ(m:(Int×Int×Int×Int)×Sl q9×(Int×U5×Int×Int)×(Int×U5×Int×Int)×(Int×U5×Int×Int)×Sl q6)=>(D (m.1,m.2.1)).bind λn=>f (n.2.1,n.2.2,m.2.2.1,m.2.2.2.1,kr n.1,m.2.2.2.2.2) else f (j.2.1,j.2.2,d.2.2.1,d.2.2.2.1,q6.mk 8 (lit []) 0 i.a_ (O [] N),d.2.2.2.2)).bind λ(l:(Int×Int×Int×Int)×Sl q9×(Int×U5×Int×Int)×(Int×U5×Int×Int)×q6×Sl q6)=>(H (l.1,l.2.1)).bind λm=>(zo 64 l.2.2.2.2.2 [kr l.2.2.2.2.1]).bind λn=>(zo 64 n [q6.mk m.1.1 m.1.2.1 m.1.2.2.1 m.1.2.2.2 m.2.2.2]).bind λo=>f (l.2.2.2.1,m.2.1,m.2.2.1,o)
def q6u:Yk->U7 ZG:=qdp q16 q12 q10 q3c q1p q19 q5f
theorem qkt:q6u=ztY.F:=by delta q6u;rw[q3h,q2z,q1s,qjl,q76,q4w,<-qiy];kernel_rfl
def q3s(A:ye)(B:W9)(C:Ww):zvz->U7 (Step zvz tA6):=λa=>if q (a.1 < Sl.len a.2.2.2.2.2)=g then(za a.2.2.2.2.2 a.1).bind λb=>(za a.2.2.2.2.2 a.1).bind λc=>(A (c,a.2.1,a.2.2.1)).bind λd=>if d.1=g then(B d.2).bind λe=>f (Step.done (y (e.2.1,e.2.2,a.2.2.2.2.1,O [q6.mk e.1.1 e.1.2.1 e.1.2.2.1 e.1.2.2.2 (O [] N)] g))) else f (Step.next (U8 (a.1+1),d.2.1,d.2.2,a.2.2.2)) else f (Step.done (M (a.2.1,a.2.2.1,a.2.2.2.1,a.2.2.2.2.1)))
def q98(A:ye)(B:W9)(C:Ww)(x:zD):U7 Zv:=(za x.2 x.1.1).bind λa=>(za x.2 x.1.1).bind λb=>(za x.2 x.1.1).bind λc=>(za x.2 x.1.1).bind λd=>(A (lit [111,119,110],x)).bind λe=>if e.1=g then f (q6.mk 2 b.T_ 0 d.a_ (O [] N),e.2) else(A (lit [99,101,108,108],e.2)).bind λi=>if i.1=g then f (q6.mk 2 b.T_ 0 d.a_ (O [] N),i.2) else(lpO (q3s A B C) (0,i.2.1,i.2.2,(0,lit [],0,0),(2,b.T_,0,d.a_),O [lit [99,111,117,110,116,101,100],lit [108,111,99,107],lit [103,117,97,114,100]] g)).bind λj=>F (λl=>f (q6.mk l.2.2.1.1 l.2.2.1.2.1 l.2.2.1.2.2.1 l.2.2.1.2.2.2 l.2.2.2,l.1,l.2.1)) (λl=>(C (20,l.1,l.2.1)).bind λm=>f (q6.mk l.2.2.2.1 l.2.2.2.2.1 l.2.2.2.2.2.1 l.2.2.2.2.2.2 (O [] N),m)) j
def q44:zD->U7 Zv:=q98 q10 q16 q19
theorem qjo:q44=ztZ.F:=by delta q44;rw[q1s,q3h,q4w];kernel_rfl
def qbz(A:W9)(B:ye)(C:xh)(x:zD):U7 ZG:=(A x).bind λa=>(B (lit [91],a.2)).bind λb=>(if b.1=g then(A b.2).bind λc=>(C (lit [93],c.2)).bind λd=>f (d.1,d.2,(0,lit [],0,0),(3,a.1.2),O [q6.mk c.1.1 c.1.2.1 c.1.2.2.1 c.1.2.2.2 (O [] N)] g) else f (b.2.1,b.2.2,(0,lit [],0,0),(3,a.1.2),O [] N)).bind λ(c:xK)=>f (c.2.2.2.1,c.1,c.2.1,c.2.2.2.2)
def q3t:YB:=qbz q16 q10 q12
theorem qiz:q3t=zt0.F:=by delta q3t;rw[q3h,q1s,q2z];kernel_rfl
def qd3(A:W9)(B:wE)(C:ye)(D:Wv)(E:xh)(G:Wv):V7->U7 (Step V7 xK):=λa=>if a.1=g then(D (a.2.1,a.2.2.1)).bind λb=>(zo 64 a.2.2.2.2.2 [q6.mk b.1.1 b.1.2.1 b.1.2.2.1 b.1.2.2.2 b.2.2.2]).bind λc=>(C (lit [44],b.2.1,b.2.2.1)).bind λd=>(if(!d.1)=g then(E (lit [125],d.2)).bind λe=>f (d.1,e.1,e.2,a.2.2.2.1,a.2.2.2.2.1,c) else f (d.1,d.2.1,d.2.2,a.2.2.2.1,a.2.2.2.2.1,c)).bind λe=>f (Step.next e) else f (Step.done a.2)
def qd4(A:W9)(B:wE)(C:ye)(D:Wv)(E:xh)(G:Wv):V7->U7 (Step V7 xK):=λa=>if a.1=g then(G (a.2.1,a.2.2.1)).bind λb=>(zo 64 a.2.2.2.2.2 [q6.mk b.1.1 b.1.2.1 b.1.2.2.1 b.1.2.2.2 b.2.2.2]).bind λc=>(C (lit [44],b.2.1,b.2.2.1)).bind λd=>f (Step.next (d.1,d.2.1,d.2.2,a.2.2.2.1,a.2.2.2.2.1,c)) else f (Step.done a.2)
def qd5(A:W9)(B:wE)(C:ye)(D:Wv)(E:xh)(G:Wv)(x:Yk):U7 ZG:=(A x.2).bind λa=>(B a.2).bind λb=>(C (lit [123],b.2)).bind λc=>(lpO (qd3 A B C D E G) (c.1,c.2.1,c.2.2,(0,lit [],0,0),(1,a.1.2.1,a.1.2.2.1,x.1),O [kr b.1] g)).bind λd=>(C (lit [119,104,101,114,101],d.1,d.2.1)).bind λe=>(lpO (qd4 A B C D E G) (e.1,e.2.1,e.2.2,d.2.2)).bind λi=>(E (lit [59],i.1,i.2.1)).bind λj=>f (i.2.2.2.1,j.1,j.2,i.2.2.2.2)
def q69:Yk->U7 ZG:=qd5 q16 q44 q10 q3t q12 q1v
theorem qkb:q69=zt1.F:=by delta q69;rw[q3h,qjo,q1s,qiz,q2z,qgl];kernel_rfl
def q6v(A:wd):Int×Int×q6->U7 (Step (Int×Int×q6) Int):=λa=>if q (a.2.1 < a.2.2.K_.len)=g then(za a.2.2.K_ a.2.1).bind λb=>(A (kr b)).bind λc=>f (Step.next (U8 (a.1+c),U8 (a.2.1+1),kr a.2.2)) else f (Step.done a.1)
def q9s(A:wd)(x:q6):Ua:=(lpO (q6v A) (1,0,kr x)).bind λa=>f a
def q9t(h:wd):wd:=q9s h
theorem qj0(h:wd):@Eq wd (zjf h) (q9t h):=by kernel_rfl
def q33:Nat->q6->U7 Int
 |0=>λ_=>W
 |k+1=>q9t (q33 k)
theorem qg0:∀k,@Eq wd (zgB k) (q33 k)
 |0=>rfl
 |k+1=>(qj0 (zgB k)).trans (congrArg q9t (qg0 k))
def qa8:wd:=q33 100000
theorem qjp:@Eq wd zzq qa8:=qg0 100000
def q86(A:zjO)(B:ye)(C:zpZ)(D:xh)(E:zpZ)(G:wd):zfW->U7 (Step zfW zfW):=λa=>(if q (a.2.1.2.2.1=0)=g then(za a.2.2.2.1 a.2.1.1).bind λb=>(za a.2.2.2.1 a.2.1.1).bind λc=>f (q (c.k_≠0),a) else f (N,a)).bind λb=>if b.1=g then((za b.2.2.2.2.1 b.2.2.1.1).bind λc=>(za b.2.2.2.2.1 b.2.2.1.1).bind λd=>(B (lit [102,110],b.2.2.1,b.2.2.2.2.1)).bind λe=>if e.1=g then(C (d.a_,e.2)).bind λi=>(zo 64 b.2.2.2.2.2 [q6.mk i.1.1 i.1.2.1 i.1.2.2.1 i.1.2.2.2 i.2.2.2]).bind λj=>f (b.2.1,i.2.1,b.2.2.2.1,i.2.2.1,j) else(D (lit [116,121,112,101],e.2)).bind λl=>(if q (l.1.2.2.1=0)=g then(E (d.a_,l)).bind λm=>(zo 64 b.2.2.2.2.2 [q6.mk m.1.1 m.1.2.1 m.1.2.2.1 m.1.2.2.2 m.2.2.2]).bind λn=>f (b.2.1,m.2.1,b.2.2.2.1,m.2.2.1,n) else f (b.2.1,l.1,b.2.2.2.1,l.2,b.2.2.2.2.2)).bind λm=>f m).bind λc=>f (Step.next c) else f (Step.done b.2)
def qc0(A:zjO)(B:ye)(C:zpZ)(D:xh)(E:zpZ)(G:wd)(x:Zr):U7 (q6×zQ):=(A x).bind λa=>if q (a.2.1≠0)=g then f (q6.mk 0 (lit []) 0 0 (O [] N),a.1,a.2.1) else(lpO (q86 A B C D E G) ((0,lit [],0,0),(0,0,0,0),(0,lit [],0,0),a.2.2,O [] N)).bind λb=>if q (b.2.1.2.2.1≠0)=g then f (q6.mk 0 (lit []) 0 0 (O [] N),b.2.1.2.2.2,b.2.1.2.2.1) else(G (q6.mk b.2.2.1.1 b.2.2.1.2.1 b.2.2.1.2.2.1 b.2.2.1.2.2.2 b.2.2.2.2)).bind λc=>if q (4096 < c)=g then f (q6.mk 0 (lit []) 0 0 (O [] N),0,22) else f (q6.mk b.2.2.1.1 b.2.2.1.2.1 b.2.2.1.2.2.1 b.2.2.1.2.2.2 b.2.2.2.2,0,0)
def q2o:zeJ:=qc0 q6h q10 q6u q12 q69 qa8
theorem qg1:q2o=zo7.F:=by delta q2o;rw[qi9,q1s,qkt,q2z,qkb,<-qjp];kernel_rfl
def q6x:zj9->U7 (Step zj9 GZ):=λa=>if q (a.2.1 < a.2.2.1.K_.len)=g then(za a.2.2.1.K_ a.2.1).bind λb=>(if q (b.k_=a.1)=g then(za a.2.2.1.K_ a.2.1).bind λc=>(zo 64 a.2.2.2 [kr c]).bind λd=>f (a.1,a.2.1,kr a.2.2.1,d) else f (a.1,a.2.1,kr a.2.2.1,a.2.2.2)).bind λc=>f (Step.next (c.1,U8 (c.2.1+1),kr c.2.2.1,c.2.2.2)) else f (Step.done a.2.2.2)
def q99(x:q6×Int):U7 GZ:=(lpO q6x (x.2,0,kr x.1,O [] N)).bind λa=>f a
def q1f:zeS:=q99
theorem qjq:q1f=zo8.F:=by kernel_rfl
def q5h:zra->U7 (Step zra zeY):=λa=>if q (a.2.2 < Sl.len a.1)=g then(za a.1 a.2.2).bind λb=>if q (b.N_=a.2.1)=g then f (Step.done (y a.2.2)) else f (Step.next (a.1,a.2.1,U8 (a.2.2+1))) else f (Step.done (M ()))
def qcs(x:zkd):Ua:=(lpO q5h (x.1,x.2,0)).bind λa=>F (λb=>f b) (λb=>f (-1)) a
def q1a:zkd->Ua:=qcs
theorem qdg:q1a=zhT.F:=by kernel_rfl
def q4n:zrb->U7 (Step zrb zeY):=λa=>if q (a.2.2 < Sl.len a.1)=g then((za a.1 a.2.2).bind λb=>if q (b.T_=a.2.1)=g then(za a.1 a.2.2).bind λc=>f (a.1,a.2.1,a.2.2,q (c.K_.len=0)) else f (a.1,a.2.1,a.2.2,N)).bind λb=>if b.2.2.2=g then f (Step.done (y b.2.2.1)) else f (Step.next (b.1,b.2.1,U8 (b.2.2.1+1))) else f (Step.done (M ()))
def qba(x:zke):Ua:=(lpO q4n (x.1,x.2,0)).bind λa=>F (λb=>f b) (λb=>f (-1)) a
def q1e:zke->Ua:=qba
theorem qic:q1e=zo9.F:=by kernel_rfl
def q88(x:zaH):U7 (Sl qu):=(if q (x.1=lit [60])=g then f (x.1,x.2.1,x.2.2.1,x.2.2.2.1,x.2.2.2.2,O ([]++[qu.mk x.2.1 x.2.2.1 (U8 (U8 (x.2.2.2.2 - x.2.2.2.1) - 1))]) (N || ![qu.mk x.2.1 x.2.2.1 (U8 (U8 (x.2.2.2.2 - x.2.2.2.1) - 1))].isEmpty)) else f (x.1,x.2.1,x.2.2.1,x.2.2.2.1,x.2.2.2.2,O [] N)).bind λa=>(if q (a.1=lit [60,61])=g then f (a.1,a.2.1,a.2.2.1,a.2.2.2.1,a.2.2.2.2.1,g,a.2.2.2.2.2) else f (a.1,a.2.1,a.2.2.1,a.2.2.2.1,a.2.2.2.2.1,q (a.1=lit [61,61]),a.2.2.2.2.2)).bind λb=>(if b.2.2.2.2.2.1=g then(zo 24 b.2.2.2.2.2.2 [qu.mk b.2.1 b.2.2.1 (U8 (b.2.2.2.2.1 - b.2.2.2.1))]).bind λc=>f (b.1,b.2.1,b.2.2.1,b.2.2.2.1,b.2.2.2.2.1,c) else f (b.1,b.2.1,b.2.2.1,b.2.2.2.1,b.2.2.2.2.1,b.2.2.2.2.2.2)).bind λc=>(if q (c.1=lit [61,61])=g then(zo 24 c.2.2.2.2.2 [qu.mk c.2.2.1 c.2.1 (U8 (c.2.2.2.1 - c.2.2.2.2.1))]).bind λd=>f d else f c.2.2.2.2.2).bind λd=>f d
def q1d:zaH->U7 (Sl qu):=q88
theorem qj1:q1d=zpa.F:=by kernel_rfl
def q5x(A:zeS)(B:v8)(C:zeL)(D:zeB):zp6->U7 (Step zp6 zAr):=λa=>if q (a.2.1 < a.1)=g then(za a.2.2.2.2.1 a.2.1).bind λb=>(za a.2.2.2.2.1 a.2.1).bind λc=>if q (c.T_=a.2.2.2.2.2.2.2.2.1.T_)=g then f (Step.done (y (a.2.2.2.2.2.2.2.2.1.a_,30,a.2.2.1,a.2.2.2.2.2.2.2.1,a.2.2.2.2.2.2.2.2.2))) else f (Step.next (a.1,U8 (a.2.1+1),a.2.2.1,a.2.2.2.1,a.2.2.2.2.1,a.2.2.2.2.2.1,kr a.2.2.2.2.2.2.1,a.2.2.2.2.2.2.2.1,kr a.2.2.2.2.2.2.2.2.1,a.2.2.2.2.2.2.2.2.2)) else f (Step.done (M (a.1,a.2.2.1,a.2.2.2.1,a.2.2.2.2.1,a.2.2.2.2.2.1,kr a.2.2.2.2.2.2.1,a.2.2.2.2.2.2.2.1,kr a.2.2.2.2.2.2.2.2.1,a.2.2.2.2.2.2.2.2.2)))
def q4s(A:zeS)(B:v8)(C:zeL)(D:zeB):zp8->U7 (Step zp8 zAw):=λa=>if q (a.1 < Sl.len a.2.2.2.1)=g then((za a.2.2.2.1 a.1).bind λb=>(za a.2.2.2.1 a.1).bind λc=>(lpO (q5x A B C D) (a.1,0,a.2.1,a.2.2.1,a.2.2.2.1,a.2.2.2.2.1,kr a.2.2.2.2.2.1,a.2.2.2.2.2.2.1,kr c,a.2.2.2.2.2.2.2)).bind λd=>F (λe=>f (y e)) (λe=>(if q (0 < e.2.2.2.2.2.2.2.1.K_.len)=g then(za e.2.2.2.2.2.2.2.1.K_ 0).bind λi=>(C (e.2.2.2.1,i.T_)).bind λj=>(if q (e.2.2.2.2.2.1.T_≠lit [111,119,110])=g then f (e.1,j,g,e.2.1,e.2.2.1,e.2.2.2.1,e.2.2.2.2.1,kr e.2.2.2.2.2.1,e.2.2.2.2.2.2.1,kr e.2.2.2.2.2.2.2.1,e.2.2.2.2.2.2.2.2) else f (e.1,j,q (j < 0),e.2.1,e.2.2.1,e.2.2.2.1,e.2.2.2.2.1,kr e.2.2.2.2.2.1,e.2.2.2.2.2.2.1,kr e.2.2.2.2.2.2.2.1,e.2.2.2.2.2.2.2.2)).bind λl=>if l.2.2.1=g then f (y (l.2.2.2.2.2.2.2.2.2.1.a_,32,l.2.2.2.1,l.2.2.2.2.2.2.2.2.1,l.2.2.2.2.2.2.2.2.2.2)) else f (M (l.1,l.2.1,l.2.2.2.1,l.2.2.2.2.1,l.2.2.2.2.2.1,l.2.2.2.2.2.2.1,kr l.2.2.2.2.2.2.2.1,l.2.2.2.2.2.2.2.2.1,kr l.2.2.2.2.2.2.2.2.2.1,l.2.2.2.2.2.2.2.2.2.2)) else f (M (e.1, -1,e.2.1,e.2.2.1,e.2.2.2.1,e.2.2.2.2.1,kr e.2.2.2.2.2.1,e.2.2.2.2.2.2.1,kr e.2.2.2.2.2.2.2.1,e.2.2.2.2.2.2.2.2))).bind λi=>F (λj=>f (y j)) (λj=>(zo 24 j.2.2.2.2.2.2.2.2.2 [qn.mk j.2.2.2.2.2.2.2.2.1.T_ j.2.1]).bind λl=>f (M (j.1,j.2.2.1,j.2.2.2.1,j.2.2.2.2.1,j.2.2.2.2.2.1,kr j.2.2.2.2.2.2.1,j.2.2.2.2.2.2.2.1,l))) i) d).bind λb=>F (λc=>f (Step.done (y c))) (λc=>f (Step.next (U8 (c.1+1),c.2.1,c.2.2.1,c.2.2.2.1,c.2.2.2.2.1,kr c.2.2.2.2.2.1,c.2.2.2.2.2.2))) b else f (Step.done (M (a.2.1,a.2.2.1,a.2.2.2.1,a.2.2.2.2.1,kr a.2.2.2.2.2.1,a.2.2.2.2.2.2)))
def qa9(A:zeS)(B:v8)(C:zeL)(D:zeB):zp0->U7 (Step zp0 tA4):=λa=>if q (a.2.2.1 < 2)=g then((za a.2.2.2.2.2.2.1 a.2.1).bind λb=>(za a.2.2.2.2.2.2.1 a.2.1).bind λc=>(za c.K_ a.2.2.1).bind λd=>if q (d.T_=lit [])=g then f (y a) else(C (a.2.2.2.2.2.1,d.T_)).bind λe=>(if q (e < 0)=g then f (a.1,a.2.1,a.2.2.1,e,g,a.2.2.2) else f (a.1,a.2.1,a.2.2.1,e,q (e=a.1),a.2.2.2)).bind λi=>if i.2.2.2.2.1=g then(za i.2.2.2.2.2.2.2.2.1 i.2.1).bind λj=>(za i.2.2.2.2.2.2.2.2.1 i.2.1).bind λl=>f (M (l.a_,33,i.2.2.2.2.2.1,i.2.2.2.2.2.2.2.2.2.1,i.2.2.2.2.2.2.2.2.2.2.2)) else(za i.2.2.2.2.2.2.2.2.2.2.1 i.2.2.1).bind λm=>(za i.2.2.2.2.2.2.2.2.2.2.1 i.2.2.1).bind λn=>f (y (i.1,i.2.1,i.2.2.1,i.2.2.2.2.2.1,i.2.2.2.2.2.2.1,i.2.2.2.2.2.2.2.1,i.2.2.2.2.2.2.2.2.1,i.2.2.2.2.2.2.2.2.2.1,Sl.set i.2.2.2.2.2.2.2.2.2.2.1 i.2.2.1 (U8 (i.2.2.2.1+1)),i.2.2.2.2.2.2.2.2.2.2.2))).bind λb=>F (λc=>f (Step.next (c.1,c.2.1,U8 (c.2.2.1+1),c.2.2.2))) (λc=>f (Step.done (y c))) b else f (Step.done (M (a.1,a.2.1,a.2.2.2)))
def q5y(A:zeS)(B:v8)(C:zeL)(D:zeB):zvA->U7 (Step zvA zmK):=λa=>if q (a.2.2.1 < Sl.len a.2.2.2.2.2.2.2.2.1)=g then(za a.2.2.2.2.2.2.2.2.1 a.2.2.1).bind λb=>(za a.2.2.2.2.2.2.2.2.1 a.2.2.1).bind λc=>(zo 24 a.2.2.2.2.2.2.2.2.2.2 [c]).bind λd=>f (Step.next (a.1,a.2.1,U8 (a.2.2.1+1),a.2.2.2.1,a.2.2.2.2.1,a.2.2.2.2.2.1,a.2.2.2.2.2.2.1,a.2.2.2.2.2.2.2.1,a.2.2.2.2.2.2.2.2.1,a.2.2.2.2.2.2.2.2.2.1,d)) else f (Step.done (a.1,a.2.1,a.2.2.2.1,a.2.2.2.2.1,a.2.2.2.2.2.1,a.2.2.2.2.2.2.1,a.2.2.2.2.2.2.2.1,a.2.2.2.2.2.2.2.2.2))
def q45(A:zeS)(B:v8)(C:zeL)(D:zeB):zmK->U7 (Step zmK zAx):=λa=>if q (a.2.1 < Sl.len a.2.2.2.2.2.1)=g then(lpO (qa9 A B C D) (a.1,a.2.1,0,a.2.2.1,a.2.2.2.1,a.2.2.2.2.1,a.2.2.2.2.2.1,a.2.2.2.2.2.2.1,O [0,0] g,a.2.2.2.2.2.2.2)).bind λb=>F (λc=>f (Step.done (y c))) (λc=>(za c.2.2.2.2.2.1 c.2.1).bind λd=>(za c.2.2.2.2.2.1 c.2.1).bind λe=>(za c.2.2.2.2.2.2.2.1 0).bind λi=>(za c.2.2.2.2.2.2.2.1 0).bind λj=>(za c.2.2.2.2.2.2.2.1 1).bind λl=>(za c.2.2.2.2.2.2.2.1 1).bind λm=>(za c.2.2.2.2.2.1 c.2.1).bind λn=>(za c.2.2.2.2.2.1 c.2.1).bind λo=>(za o.K_ 0).bind λp=>(za c.2.2.2.2.2.1 c.2.1).bind λr=>(za c.2.2.2.2.2.1 c.2.1).bind λs=>(za s.K_ 1).bind λt=>(D (e.T_,j,m,p.n_,t.n_)).bind λu=>(lpO (q5y A B C D) (c.1,c.2.1,0,c.2.2.1,c.2.2.2.1,c.2.2.2.2.1,c.2.2.2.2.2.1,c.2.2.2.2.2.2.1,u,c.2.2.2.2.2.2.2.2)).bind λv=>f (Step.next (v.1,U8 (v.2.1+1),v.2.2))) b else f (Step.done (M (a.2.2.1,a.2.2.2.1,a.2.2.2.2.2.2)))
def qaa(A:zeS)(B:v8)(C:zeL)(D:zeB)(x:wG):U7 zka:=(A (kr x.1,3)).bind λa=>(A (kr x.1,4)).bind λb=>(za x.1.K_ 0).bind λc=>(B (x.2,x.1.T_)).bind λd=>if q (0<=d)=g then f (qd.mk x.1.T_ 0 0 (O [] N) (O [] N),x.1.a_,30,x.2) else if q (8 < a.len)=g then f (qd.mk x.1.T_ 0 0 (O [] N) (O [] N),x.1.a_,22,x.2) else(lpO (q4s A B C D) (0,x.2,(lit [],0,0),a,b,kr c,(x.1.T_,0,0),O [] N)).bind λe=>F (λi=>f (qd.mk i.2.2.2.1.1 i.2.2.2.1.2.1 i.2.2.2.1.2.2 i.2.2.2.2 (O [] N),i.1,i.2.1,i.2.2.1)) (λi=>(if q (i.2.2.2.2.1.T_=lit [99,101,108,108])=g then f (y (-1,i.1,i.2.1,i.2.2.1,i.2.2.2.1,(i.2.2.2.2.2.1.1,1,i.2.2.2.2.2.1.2.2),i.2.2.2.2.2.2)) else(if q (i.2.2.2.2.1.T_=lit [99,111,117,110,116,101,100])=g then f (-1,i.2.2.2.2.1.T_,q (i.2.2.2.2.1.T_=lit [99,111,117,110,116,101,100]),i.1,i.2.1,i.2.2.1,i.2.2.2.1,kr i.2.2.2.2.1,i.2.2.2.2.2) else f (-1,i.2.2.2.2.1.T_,q (i.2.2.2.2.1.T_=lit [108,111,99,107]),i.1,i.2.1,i.2.2.1,i.2.2.2.1,kr i.2.2.2.2.1,i.2.2.2.2.2)).bind λj=>(if j.2.2.1=g then(if q (j.2.2.2.2.2.2.2.1.T_=lit [108,111,99,107])=g then f (j.2.2.2.1,j.2.2.2.2.1,j.2.2.2.2.2.1,j.2.2.2.2.2.2.1,kr j.2.2.2.2.2.2.2.1,(j.2.2.2.2.2.2.2.2.1.1,3,j.2.2.2.2.2.2.2.2.1.2.2),j.2.2.2.2.2.2.2.2.2) else f (j.2.2.2.1,j.2.2.2.2.1,j.2.2.2.2.2.1,j.2.2.2.2.2.2.1,kr j.2.2.2.2.2.2.2.1,(j.2.2.2.2.2.2.2.2.1.1,2,j.2.2.2.2.2.2.2.2.1.2.2),j.2.2.2.2.2.2.2.2.2)).bind λl=>(za l.2.2.2.2.1.K_ 0).bind λm=>(C (l.2.2.1,m.T_)).bind λn=>if q (n < 0)=g then f (y (l.2.2.2.2.1.a_,32,l.1,l.2.2.2.2.2)) else f (M (n,l.1,l.2.1,l.2.2.1,l.2.2.2.1,(l.2.2.2.2.2.1.1,l.2.2.2.2.2.1.2.1,n),l.2.2.2.2.2.2)) else(if q (j.2.1=lit [103,117,97,114,100])=g then(za j.2.2.2.2.2.2.2.1.K_ 0).bind λo=>(B (j.2.2.2.1,o.T_)).bind λp=>if q (p < 0)=g then f (y (j.2.2.2.2.2.2.2.1.a_,31,j.2.2.2.1,(j.2.2.2.2.2.2.2.2.1.1,4,p),j.2.2.2.2.2.2.2.2.2)) else(za j.2.2.2.1 p).bind λr=>(za j.2.2.2.1 p).bind λs=>if q (s.S_≠3)=g then f (y (j.2.2.2.2.2.2.2.1.a_,31,j.2.2.2.1,(j.2.2.2.2.2.2.2.2.1.1,4,p),j.2.2.2.2.2.2.2.2.2)) else(if q (0 < Sl.len j.2.2.2.2.2.1)=g then f (j.1,g,j.2.2.2.1,j.2.2.2.2.1,j.2.2.2.2.2.1,j.2.2.2.2.2.2.1,kr j.2.2.2.2.2.2.2.1,(j.2.2.2.2.2.2.2.2.1.1,4,p),j.2.2.2.2.2.2.2.2.2) else f (j.1,q (0 < Sl.len j.2.2.2.2.2.2.1),j.2.2.2.1,j.2.2.2.2.1,j.2.2.2.2.2.1,j.2.2.2.2.2.2.1,kr j.2.2.2.2.2.2.2.1,(j.2.2.2.2.2.2.2.2.1.1,4,p),j.2.2.2.2.2.2.2.2.2)).bind λt=>if t.2.1=g then f (y (t.2.2.2.2.2.2.1.a_,32,t.2.2.1,t.2.2.2.2.2.2.2)) else f (M (t.1,t.2.2.1,t.2.2.2.1,t.2.2.2.2.1,t.2.2.2.2.2.1,t.2.2.2.2.2.2.2)) else f (M (j.1,j.2.2.2.1,j.2.2.2.2.1,j.2.2.2.2.2.1,j.2.2.2.2.2.2.1,j.2.2.2.2.2.2.2.2))).bind λo=>F (λp=>f (y p)) (λp=>f (M p)) o).bind λl=>F (λm=>f (M m)) (λm=>f (y m)) l).bind λj=>F (λl=>(lpO (q45 A B C D) (l.1,0,l.2.1,l.2.2.1,l.2.2.2.1,l.2.2.2.2.1,l.2.2.2.2.2.1,l.2.2.2.2.2.2,O [] N)).bind λm=>F (λn=>f (qd.mk n.2.2.2.1.1 n.2.2.2.1.2.1 n.2.2.2.1.2.2 n.2.2.2.2.1 n.2.2.2.2.2,n.1,n.2.1,n.2.2.1)) (λn=>f (qd.mk n.2.2.1.1 n.2.2.1.2.1 n.2.2.1.2.2 n.2.2.2.1 n.2.2.2.2,0,0,n.1)) m) (λl=>f (qd.mk l.2.2.2.1.1 l.2.2.2.1.2.1 l.2.2.2.1.2.2 l.2.2.2.2 (O [] N),l.1,l.2.1,l.2.2.1)) j) e
def q4b:wG->U7 zka:=qaa q1f q1a q1e q1d
theorem qkc:q4b=zt3.F:=by delta q4b;rw[qjq,qdg,qic,qj1];kernel_rfl
def q4z(A:zwR):zkj->U7 (Step zkj (zQ⊕Ub)):=λa=>if q (a.1 < a.2.1.K_.len)=g then((za a.2.1.K_ a.1).bind λb=>if q (b.k_≠1)=g then f (y (a.1,kr a.2.1,a.2.2)) else(za a.2.1.K_ a.1).bind λc=>(A (kr c,a.2.2)).bind λd=>if q (d.2.2.1≠0)=g then f (M (d.2.1,d.2.2.1)) else(zo 80 d.2.2.2 [d.1]).bind λe=>f (y (a.1,kr a.2.1,e))).bind λb=>F (λc=>f (Step.next (U8 (c.1+1),kr c.2.1,c.2.2))) (λc=>f (Step.done (y c))) b else f (Step.done (M a.2.2))
def q89(A:zwR)(x:q6):U7 (Int×Int×Ub):=(lpO (q4z A) (0,kr x,O [] N)).bind λa=>F (λb=>f (b.1,b.2,O [] N)) (λb=>f (0,0,b)) a
def q34:zjZ:=q89 q4b
theorem qj2:q34=zt4.F:=by delta q34;rw[qkc];kernel_rfl
def q9a(A:v8)(x:wG):U7 zhl:=(if q (x.1.T_=lit [105,110,116])=g then f (x.2,kr x.1,qi.mk (lit []) 0 0,qi.mk (lit []) 1 0) else(if q (x.1.T_=lit [111,119,110])=g then f (x.2,kr x.1,qi.mk (lit []) 0 0,qi.mk (lit []) 2 0) else(if q (x.1.T_=lit [38])=g then f (x.2,kr x.1,qi.mk (lit []) 0 0,qi.mk (lit []) 3 0) else(if q (x.1.T_=lit [38,109,117,116])=g then f (x.2,kr x.1,qi.mk (lit []) 0 0,qi.mk (lit []) 4 0) else f (x.2,kr x.1,qi.mk (lit []) 0 0,qi.mk (lit []) 0 0)).bind λa=>f (a.1,kr a.2.1,a.2.2)).bind λa=>f (a.1,kr a.2.1,a.2.2)).bind λa=>f (a.1,kr a.2.1,a.2.2)).bind λa=>(if q (1 < a.2.2.2.M_)=g then(za a.2.1.K_ 0).bind λb=>(A (a.1,b.T_)).bind λc=>if q (c < 0)=g then f (y (N,qi.mk (lit []) 0 0)) else f (M (a.2.2.1,qi.mk a.2.2.2.N_ a.2.2.2.M_ c)) else f (M a.2.2)).bind λb=>F (λc=>f (c.2,c.1)) (λc=>f (c.2,g)) b
def q28:wG->U7 zhl:=q9a q1a
theorem qjr:q28=zt5.F:=by delta q28;rw[qdg];kernel_rfl
def q5z(A:zjX):zvy->U7 (Step zvy zAq):=λa=>if q (a.2.2.2.1 < a.2.2.1)=g then(za a.2.2.2.2.1.K_ a.2.2.2.1).bind λb=>if q (b.T_=a.2.2.2.2.2.2.2.1.T_)=g then f (Step.done (y (a.2.2.2.2.2.2.2.1.a_,30,lit [],lit [],0,0))) else f (Step.next (a.1,a.2.1,a.2.2.1,U8 (a.2.2.2.1+1),kr a.2.2.2.2.1,a.2.2.2.2.2.1,a.2.2.2.2.2.2.1,kr a.2.2.2.2.2.2.2.1,a.2.2.2.2.2.2.2.2)) else f (Step.done (M (a.1,a.2.1,a.2.2.1,kr a.2.2.2.2.1,a.2.2.2.2.2.1,a.2.2.2.2.2.2.1,kr a.2.2.2.2.2.2.2.1,a.2.2.2.2.2.2.2.2)))
def q60(A:zjX):zvv->U7 (Step zvv tA7):=λa=>if q (a.2.2.2.1 < a.2.2.1)=g then(za a.2.2.2.2.2.2.2.2.2 a.2.2.2.1).bind λb=>(za a.2.2.2.2.2.2.2.2.2 a.2.2.2.1).bind λc=>(if q (1 < a.2.2.2.2.2.2.2.2.1.M_)=g then if q (1 < c.M_)=g then if q (a.2.2.2.2.2.2.2.2.1.t_=c.t_)=g then(za a.1 a.2.2.2.2.2.2.2.2.1.t_).bind λd=>f (a.1,a.2.1,a.2.2.1,a.2.2.2.1,q (d.S_≠0),kr a.2.2.2.2.1,a.2.2.2.2.2.1,a.2.2.2.2.2.2.1,kr a.2.2.2.2.2.2.2.1,a.2.2.2.2.2.2.2.2) else f (a.1,a.2.1,a.2.2.1,a.2.2.2.1,N,kr a.2.2.2.2.1,a.2.2.2.2.2.1,a.2.2.2.2.2.2.1,kr a.2.2.2.2.2.2.2.1,a.2.2.2.2.2.2.2.2) else f (a.1,a.2.1,a.2.2.1,a.2.2.2.1,N,kr a.2.2.2.2.1,a.2.2.2.2.2.1,a.2.2.2.2.2.2.1,kr a.2.2.2.2.2.2.2.1,a.2.2.2.2.2.2.2.2) else f (a.1,a.2.1,a.2.2.1,a.2.2.2.1,N,kr a.2.2.2.2.1,a.2.2.2.2.2.1,a.2.2.2.2.2.2.1,kr a.2.2.2.2.2.2.2.1,a.2.2.2.2.2.2.2.2)).bind λd=>if d.2.2.2.2.1=g then(za d.2.2.2.2.2.2.2.2.1.K_ 0).bind λe=>f (Step.done (y (e.a_,34,lit [],lit [],0,0))) else f (Step.next (d.1,d.2.1,d.2.2.1,U8 (d.2.2.2.1+1),kr d.2.2.2.2.2.1,d.2.2.2.2.2.2.1,d.2.2.2.2.2.2.2.1,kr d.2.2.2.2.2.2.2.2.1,d.2.2.2.2.2.2.2.2.2)) else f (Step.done (M (a.1,a.2.1,a.2.2.1,kr a.2.2.2.2.1,a.2.2.2.2.2.1,a.2.2.2.2.2.2.1,kr a.2.2.2.2.2.2.2.1,a.2.2.2.2.2.2.2.2)))
def q61(A:zjX):zp4->U7 (Step zp4 zAu):=λa=>if q (a.2.2.1 < a.2.1)=g then((za a.2.2.2.1.K_ a.2.2.1).bind λb=>(lpO (q5z A) (a.1,a.2.1,a.2.2.1,0,kr a.2.2.2.1,a.2.2.2.2.1,a.2.2.2.2.2.1,kr b,a.2.2.2.2.2.2)).bind λc=>F (λd=>f (y d)) (λd=>(za d.2.2.2.2.2.2.1.K_ 0).bind λe=>(A (kr e,d.1)).bind λi=>if(!i.2)=g then(za d.2.2.2.2.2.2.1.K_ 0).bind λj=>f (y (j.a_,31,lit [],lit [],0,0)) else(lpO (q60 A) (d.1,d.2.1,d.2.2.1,0,kr d.2.2.2.1,d.2.2.2.2.1,d.2.2.2.2.2.1,kr d.2.2.2.2.2.2.1,i.1,d.2.2.2.2.2.2.2)).bind λl=>F (λm=>f (y m)) (λm=>(zo 32 m.2.2.2.2.2.2.2.2 [qi.mk m.2.2.2.2.2.2.1.T_ m.2.2.2.2.2.2.2.1.M_ m.2.2.2.2.2.2.2.1.t_]).bind λn=>f (M (m.1,m.2.1,m.2.2.1,kr m.2.2.2.1,m.2.2.2.2.1,m.2.2.2.2.2.1,n))) l) c).bind λb=>F (λc=>f (Step.done (y c))) (λc=>f (Step.next (c.1,c.2.1,U8 (c.2.2.1+1),kr c.2.2.2.1,c.2.2.2.2))) b else f (Step.done (M (a.1,a.2.1,kr a.2.2.2.1,a.2.2.2.2)))
def qab(A:zjX)(x:wG):U7 zkp:=if q (8 < U8 (x.1.K_.len - 2))=g then f (qj.mk (lit []) (O [] N) (qi.mk (lit []) 0 0),x.1.a_,22) else(lpO (q61 A) (x.2,U8 (x.1.K_.len - 2),0,kr x.1,(lit [],lit [],0,0),(x.1.T_,lit [],0,0),O [] N)).bind λa=>F (λb=>f (qj.mk b.2.2.1 (O [] N) (qi.mk b.2.2.2.1 b.2.2.2.2.1 b.2.2.2.2.2),b.1,b.2.1)) (λb=>(za b.2.2.1.K_ b.2.1).bind λc=>(A (kr c,b.1)).bind λd=>if(!d.2)=g then(za b.2.2.1.K_ b.2.1).bind λe=>f (qj.mk (lit []) (O [] N) (qi.mk (lit []) 0 0),e.a_,31) else f (qj.mk b.2.2.2.2.1.1 b.2.2.2.2.2 d.1,0,0)) a
def q4c:wG->U7 zkp:=qab q28
theorem qkd:q4c=zt6.F:=by delta q4c;rw[qjr];kernel_rfl
def q5i(A:zw5):zj7->U7 (Step zj7 (zQ⊕Sl qj)):=λa=>if q (a.2.1 < a.2.2.1.K_.len)=g then((za a.2.2.1.K_ a.2.1).bind λb=>if q (b.k_≠6)=g then f (y (a.1,a.2.1,kr a.2.2.1,a.2.2.2)) else(za a.2.2.1.K_ a.2.1).bind λc=>(A (kr c,a.1)).bind λd=>if q (d.2.2≠0)=g then f (M d.2) else(zo 72 a.2.2.2 [d.1]).bind λe=>f (y (a.1,a.2.1,kr a.2.2.1,e))).bind λb=>F (λc=>f (Step.next (c.1,U8 (c.2.1+1),kr c.2.2.1,c.2.2.2))) (λc=>f (Step.done (y c))) b else f (Step.done (M a.2.2.2))
def q9b(A:zw5)(x:wG):U7 zkg:=(lpO (q5i A) (x.2,0,kr x.1,O [] N)).bind λa=>F (λb=>f (b.1,b.2,O [] N)) (λb=>f (0,0,b)) a
def q2t:wG->U7 zkg:=q9b q4c
theorem qjs:q2t=zt7.F:=by delta q2t;rw[qkd];kernel_rfl
def q4j(A:zeI)(B:zjY)(C:zwY)(D:zeJ)(E:zjZ)(G:zwZ):zjt->U7 (Step zjt zwy):=λa=>if q (a.2.2.2.2.1 < a.2.2.2.1)=g then(za a.2.2.1 a.2.2.2.2.1).bind λb=>(if q (b.k_=6)=g then(zo 64 a.2.2.2.2.2.2.2.2.2.1 [ke b]).bind λc=>(za a.2.2.2.2.2.2.1.K_ a.2.2.2.2.1).bind λd=>(zo 64 a.2.2.2.2.2.2.2.2.2.2 [kr d]).bind λe=>f (a.1,a.2.1,a.2.2.1,a.2.2.2.1,a.2.2.2.2.1,a.2.2.2.2.2.1,kr a.2.2.2.2.2.2.1,a.2.2.2.2.2.2.2.1,a.2.2.2.2.2.2.2.2.1,c,e) else f (a.1,a.2.1,a.2.2.1,a.2.2.2.1,a.2.2.2.2.1,a.2.2.2.2.2.1,kr a.2.2.2.2.2.2.1,a.2.2.2.2.2.2.2)).bind λc=>f (Step.next (c.1,c.2.1,c.2.2.1,c.2.2.2.1,U8 (c.2.2.2.2.1+1),c.2.2.2.2.2.1,kr c.2.2.2.2.2.2.1,c.2.2.2.2.2.2.2)) else f (Step.done (a.1,a.2.1,a.2.2.2.2.2.1,a.2.2.2.2.2.2.2))
def q7e(A:zeI)(B:zjY)(C:zwY)(D:zeJ)(E:zjZ)(G:zwZ)(x:Zr):U7 (q13×Bool):=(A x).bind λa=>if q (a.2.2≠0)=g then f (q13.mk (O [] N) (O [] N) (O [] N) (O [] N) (O [] N) (O [] N),N) else(B (ke a.1)).bind λb=>(C (ke a.1,b.2.2)).bind λc=>(D x).bind λd=>(E (kr d.1)).bind λe=>(G (kr d.1,e.2.2)).bind λi=>(lpO (q4j A B C D E G) (b.2.1,c.2.1,a.1.K_,a.1.K_.len,0,c.2.2,kr d.1,i.2.2,(b.2.2,e.2.2),O [] N,O [] N)).bind λj=>(if q (j.1=0)=g then if q (j.2.1=0)=g then if q (Sl.len j.2.2.1=Sl.len j.2.2.2.2.2.1)=g then f (q (Sl.len j.2.2.2.1=Sl.len j.2.2.2.2.2.1),j.2.2.2.2.1,j.2.2.2.2.2.1,j.2.2.1,j.2.2.2.2.2.2,j.2.2.2.1) else f (N,j.2.2.2.2.1,j.2.2.2.2.2.1,j.2.2.1,j.2.2.2.2.2.2,j.2.2.2.1) else f (N,j.2.2.2.2.1,j.2.2.2.2.2.1,j.2.2.1,j.2.2.2.2.2.2,j.2.2.2.1) else f (N,j.2.2.2.2.1,j.2.2.2.2.2.1,j.2.2.1,j.2.2.2.2.2.2,j.2.2.2.1)).bind λl=>f (q13.mk l.2.2.1 l.2.1.1 l.2.2.2.1 l.2.2.2.2.1 l.2.1.2 l.2.2.2.2.2,l.1)
def q3a:zj1:=q7e q5v q6n q77 q2o q34 q2t
theorem qhx:q3a=zt8.F:=by delta q3a;rw[<-qir,<-qls,qm5,qg1,qj2,qjs];kernel_rfl
def qct(x:zjI):U7 x6:=if(!x.1)=g then f (y ((x.2.2.1.2.2,x.2.1),x.2.2)) else f (M x.2.2)
def q3d:zjI->U7 x6:=qct
theorem qgm:q3d=zlC.F:=by kernel_rfl
def qbb(A:zvt)(x:zqB):U7 x6:=(A (x.2.1,x.2.2.1,(x.2.2.2.1.1,x.2.2.2.1.2.1,x.1.a_),x.2.2.2.2)).bind λa=>F (λb=>f (y b)) (λb=>f (M b)) a
def q25:zqB->U7 x6:=qbb q3d
theorem qf5:q25=zpb.F:=by delta q25;rw[qgm];kernel_rfl
def qe6(x:zkq):U7 Z5:=f (q (x.1.N_=x.2),x.2)
def q7i:zkq->U7 Z5:=qe6
theorem ql9:q7i=zpc.F:=by kernel_rfl
def q6b(A:zwV):zq3->U7 (Step zq3 zaK):=λa=>if q (a.2.2.1 < a.2.1)=g then(za a.1 a.2.2.1).bind λb=>(A (b,a.2.2.2)).bind λc=>if c.1=g then f (Step.done (y (a.2.2.1,c.2))) else f (Step.next (a.1,a.2.1,U8 (a.2.2.1+1),c.2)) else f (Step.done (M a.2.2.2))
def qdt(A:zwV)(x:zkh):U7 yy:=(lpO (q6b A) (x.1,Sl.len x.1,0,x.2)).bind λa=>F (λb=>f b) (λb=>f (-1,b)) a
def qbq:zkh->U7 yy:=qdt q7i
theorem qku:qbq=zt9.F:=by delta qbq;rw[ql9];kernel_rfl
def qfh(A:zkh->U7 yy)(x:qe×U5):Ua:=(A (x.1.V_,x.2)).bind λa=>f a.1
def q1o:vm:=qfh qbq
theorem q7h:q1o=zcg.F:=by delta q1o;rw[qku];kernel_rfl
def q4f(A:zmE)(B:vm)(C:zcN)(D:zvt):zp2->U7 (Step zp2 zAy):=λa=>if q (a.2.2.2.1 < a.2.2.1)=g then((za a.2.1 a.2.2.2.1).bind λb=>(za b.K_ 0).bind λc=>(B (qe.mk a.2.2.2.2.2.2.2.2.1.1 a.2.2.2.2.2.2.2.2.1.2 a.2.2.2.2.2.2.2.2.2,b.T_)).bind λd=>(A (ke b,q (d < 0),30,a.2.2.2.2.1,a.2.2.2.2.2.1)).bind λe=>F (λi=>f (y i)) (λi=>(if q (c.T_=lit [105,110,116])=g then(A (ke c,g,34,i)).bind λj=>F (λl=>f (y l)) (λl=>f (M (a.1,a.2.1,a.2.2.1,a.2.2.2.1,l.1,l.2,ke a.2.2.2.2.2.2.1,a.2.2.2.2.2.2.2.1,a.2.2.2.2.2.2.2.2.1,ke b,ke c,a.2.2.2.2.2.2.2.2.2))) j else(A (ke c,q (c.T_=lit [111,119,110]),34,i)).bind λl=>F (λm=>f (y m)) (λm=>f (M (a.1,a.2.1,a.2.2.1,a.2.2.2.1,m.1,m.2,ke a.2.2.2.2.2.2.1,a.2.2.2.2.2.2.2.1,a.2.2.2.2.2.2.2.2.1,ke b,ke c,a.2.2.2.2.2.2.2.2.2))) l).bind λj=>F (λl=>f (y l)) (λl=>(if q (l.2.2.2.2.2.2.2.2.2.2.1.T_=lit [111,119,110])=g then(za l.2.2.2.2.2.2.2.2.2.2.1.K_ 0).bind λm=>(C (l.2.2.2.2.1.2.1,m.T_)).bind λn=>(D (q (0<=n),31,l.2.2.2.2.1,l.2.2.2.2.2.1)).bind λo=>F (λp=>f (y p)) (λp=>f (M (l.1,l.2.1,l.2.2.1,l.2.2.2.1,p.1,p.2,ke l.2.2.2.2.2.2.1,l.2.2.2.2.2.2.2.1,l.2.2.2.2.2.2.2.2.1,qh.mk l.2.2.2.2.2.2.2.2.2.1.T_ 2 n,l.2.2.2.2.2.2.2.2.2.2.2))) o else f (M (l.1,l.2.1,l.2.2.1,l.2.2.2.1,l.2.2.2.2.1,l.2.2.2.2.2.1,ke l.2.2.2.2.2.2.1,l.2.2.2.2.2.2.2.1,l.2.2.2.2.2.2.2.2.1,qh.mk l.2.2.2.2.2.2.2.2.2.1.T_ 1 0,l.2.2.2.2.2.2.2.2.2.2.2))).bind λm=>F (λn=>f (y n)) (λn=>(zo 32 n.2.2.2.2.2.2.2.2.2.2 [n.2.2.2.2.2.2.2.2.2.1]).bind λo=>f (M (n.1,n.2.1,n.2.2.1,n.2.2.2.1,n.2.2.2.2.1,n.2.2.2.2.2.1,ke n.2.2.2.2.2.2.1,n.2.2.2.2.2.2.2.1,n.2.2.2.2.2.2.2.2.1,o))) m) j) e).bind λb=>F (λc=>f (Step.done (y c))) (λc=>f (Step.next (c.1,c.2.1,c.2.2.1,U8 (c.2.2.2.1+1),c.2.2.2.2.1,c.2.2.2.2.2.1,ke c.2.2.2.2.2.2.1,c.2.2.2.2.2.2.2))) b else f (Step.done (M (a.1,a.2.2.2.2.1,a.2.2.2.2.2.1,ke a.2.2.2.2.2.2.1,a.2.2.2.2.2.2.2)))
def q9c(A:zmE)(B:vm)(C:zcN)(D:zvt)(x:zqX):U7 zmI:=(A (ke x.1,q (U8 (x.1.K_.len - 2)<=8),22,x.2)).bind λa=>F (λb=>f (y b)) (λb=>(z7 x.1.K_ 0 (U8 (x.1.K_.len - 2))).bind λc=>(lpO (q4f A B C D) (U8 (x.1.K_.len - 2),c,c.len,0,b.1,b.2,ke x.1,(lit [],0),(x.1.T_,U8 (x.1.K_.len - 2)),O [] N)).bind λd=>F (λe=>f (y e)) (λe=>(za e.2.2.2.1.K_ e.1).bind λi=>(za e.2.2.2.1.K_ e.1).bind λj=>(A (ke i,q (j.T_=lit []),35,e.2.1,e.2.2.1)).bind λl=>F (λm=>f (y m)) (λm=>f (M (e.2.2.2.2.2.1,m.1,m.2,e.2.2.2.2.2.2))) l) d) a
def q3e:zqX->U7 zmI:=q9c q25 q1o q2c q3d
theorem qjt:q3e=zua.F:=by delta q3e;rw[qf5,q7h,qbt,qgm];kernel_rfl
def qbc(x:zjC):U7 zC:=if(!x.1)=g then f (y ((x.2.2.1.2.2.1,x.2.1),x.2.2)) else f (M x.2.2)
def q17:zjC->U7 zC:=qbc
theorem q30:q17=Wm.F:=by kernel_rfl
def q8c(A:vm)(B:W8)(x:zqC):U7 va:=(za x.2.2 x.2.1.2.2.2).bind λa=>(za x.2.2 x.2.1.2.2.2).bind λb=>(A (qe.mk a.N_ a.P_ b.V_,x.1)).bind λc=>(B (q (0<=c),31,x.2)).bind λd=>F (λe=>f (y e)) (λe=>(za e.2 e.1.2.2.2).bind λi=>(za e.2 e.1.2.2.2).bind λj=>(za j.V_ c).bind λl=>(za e.2 e.1.2.2.2).bind λm=>(za m.V_ c).bind λn=>f (M (qh.mk (lit []) n.M_ n.t_,e))) d
def q4g:zqC->U7 va:=q8c q1o q17
theorem qg2:q4g=zpd.F:=by delta q4g;rw[q7h,q30];kernel_rfl
def qbd(x:qf×q8):U7 zhm:=f (q (x.1.N_=x.2.T_),ke x.2)
def q53:qf×q8->U7 zhm:=qbd
theorem qid:q53=zpe.F:=by kernel_rfl
def q7j(A:zxc):zre->U7 (Step zre (Int×q8⊕q8)):=λa=>if q (a.2.2.1 < a.2.1)=g then(za a.1 a.2.2.1).bind λb=>(A (b,ke a.2.2.2)).bind λc=>if c.1=g then f (Step.done (y (a.2.2.1,ke c.2))) else f (Step.next (a.1,a.2.1,U8 (a.2.2.1+1),ke c.2)) else f (Step.done (M (ke a.2.2.2)))
def qce(A:zxc)(x:Sl qf×q8):U7 (Int×q8):=(lpO (q7j A) (x.1,Sl.len x.1,0,ke x.2)).bind λa=>F (λb=>f (b.1,ke b.2)) (λb=>f (-1,ke b)) a
def q83:Sl qf×q8->U7 (Int×q8):=qce q53
theorem qlh:q83=zub.F:=by delta q83;rw[qid];kernel_rfl
def qad(A:W8)(B:zAs)(x:zqH):U7 zC:=if q (x.1.T_=lit [])=g then(A (q (x.2.1.M_=1),40,x.2.2)).bind λa=>F (λb=>f (y b)) (λb=>f (M b)) a else(B (x.1.T_,x.2.2)).bind λb=>F (λc=>f (y c)) (λc=>(if q (x.2.1.M_=1)=g then(A (q (c.1.M_=1),40,c.2)).bind λd=>F (λe=>f (y e)) (λe=>f (M e)) d else(if q (x.2.1.M_=3)=g then f (q (c.1.M_=4),c.2.1,c.2.2,ke x.1,x.2.1,c.1) else f (N,c.2.1,c.2.2,ke x.1,x.2.1,c.1)).bind λe=>(if e.1=g then(if q (e.2.2.2.1.n_=0)=g then(A (q (e.2.2.2.2.2.t_=e.2.2.2.2.1.t_),40,e.2.1,e.2.2.1)).bind λi=>F (λj=>f (y j)) (λj=>f (M j)) i else(A (N,40,e.2.1,e.2.2.1)).bind λj=>F (λl=>f (y l)) (λl=>f (M l)) j).bind λi=>F (λj=>f (y j)) (λj=>f (M j)) i else(if q (e.2.2.2.1.n_=0)=g then if q (e.2.2.2.2.2.M_=e.2.2.2.2.1.M_)=g then(A (q (e.2.2.2.2.2.t_=e.2.2.2.2.1.t_),40,e.2.1,e.2.2.1)).bind λj=>F (λl=>f (y l)) (λl=>f (M l)) j else(A (N,40,e.2.1,e.2.2.1)).bind λl=>F (λm=>f (y m)) (λm=>f (M m)) l else(A (N,40,e.2.1,e.2.2.1)).bind λm=>F (λn=>f (y n)) (λn=>f (M n)) m).bind λj=>F (λl=>f (y l)) (λl=>f (M l)) j).bind λi=>F (λj=>f (y j)) (λj=>f (M j)) i).bind λd=>F (λe=>f (y e)) (λe=>f (M e)) d) b
def q1h:zqH->U7 zC:=qad q17 q4g
theorem qdy:q1h=zfH.F:=by delta q1h;rw[q30,qg2];kernel_rfl
def q6y(A:W8)(B:zfV):zqn->U7 (Step zqn zC):=λa=>if q (a.2.2.2.1 < a.2.2.1)=g then(za a.2.1 a.2.2.2.1).bind λb=>(za a.1 a.2.2.2.1).bind λc=>(B (ke b,c,a.2.2.2.2)).bind λd=>F (λe=>f (Step.done (y e))) (λe=>f (Step.next (a.1,a.2.1,a.2.2.1,U8 (a.2.2.2.1+1),e))) d else f (Step.done (M a.2.2.2.2))
def q9d(A:W8)(B:zfV)(x:zjB):U7 zC:=(A (q (Sl.len x.1=Sl.len x.2.1),51,x.2.2)).bind λa=>F (λb=>f (y b)) (λb=>(lpO (q6y A B) (x.2.1,x.1,Sl.len x.1,0,b)).bind λc=>F (λd=>f (y d)) (λd=>f (M d)) c) a
def q62:zjB->U7 zC:=q9d q17 q1h
theorem qju:q62=zuc.F:=by delta q62;rw[q30,qdy];kernel_rfl
def q9e(A:Sl qf×q8->U7 (Int×q8))(B:W8)(C:zjB->U7 zC)(x:zeF):U7 va:=(A (x.2.1.1,ke x.1)).bind λa=>(B (q (0<=a.1),31,x.2)).bind λb=>F (λc=>f (y c)) (λc=>(za c.1.1 a.1).bind λd=>(C (a.2.K_,d.P_,c)).bind λe=>F (λi=>f (y i)) (λi=>(za i.1.1 a.1).bind λj=>f (M (j.R_,i))) e) b
def q20:zeF->U7 va:=q9e q83 q17 q62
theorem qgn:q20=zhU.F:=by delta q20;rw[qlh,q30,qju];kernel_rfl
def q9f(A:zAs)(B:W8)(C:zpX)(x:zeF):U7 zp9:=(if q (x.1.k_=5)=g then if q (x.1.T_=lit [])=g then f (y (x.2.1,x.2.2,qh.mk (lit []) 1 0)) else(A (x.1.T_,x.2)).bind λa=>F (λb=>f (M (y b))) (λb=>(if q (x.1.n_=0)=g then(B (g,40,b.2)).bind λc=>F (λd=>f (y d)) (λd=>f (M (d.1,d.2,qh.mk (lit []) 0 0,b.1))) c else(B (q (b.1.M_=1),40,b.2)).bind λd=>F (λe=>f (y e)) (λe=>f (M (e.1,e.2,qh.mk (lit []) 0 0,b.1))) d).bind λc=>F (λd=>f (M (y d))) (λd=>f (y (d.1,d.2.1,d.2.2.2))) c) a else(if q (x.1.k_=21)=g then f (x.1.k_,q (x.1.k_=21),x.2.1,x.2.2,ke x.1,qh.mk (lit []) 0 0,qh.mk (lit []) 1 0) else f (x.1.k_,q (x.1.k_=22),x.2.1,x.2.2,ke x.1,qh.mk (lit []) 0 0,qh.mk (lit []) 1 0)).bind λb=>(if b.2.1=g then((za b.2.2.2.2.1.K_ 0).bind λc=>(za b.2.2.2.2.1.K_ 1).bind λd=>(A (c.T_,b.2.2.1,b.2.2.2.1)).bind λe=>F (λi=>f (y i)) (λi=>(A (d.T_,i.2)).bind λj=>F (λl=>f (y l)) (λl=>f (M (l.2.1,l.2.2,b.2.2.2.2.2.1,b.2.2.2.2.2.2,i.1,l.1))) j) e).bind λc=>F (λd=>f (y d)) (λd=>(if q (d.2.2.2.2.1.M_=1)=g then(B (q (d.2.2.2.2.2.M_=1),40,d.1,d.2.1)).bind λe=>F (λi=>f (y i)) (λi=>f (M (i.1,i.2,d.2.2.1,d.2.2.2.1))) e else(B (N,40,d.1,d.2.1)).bind λi=>F (λj=>f (y j)) (λj=>f (M (j.1,j.2,d.2.2.1,d.2.2.2.1))) i).bind λe=>F (λi=>f (y i)) (λi=>f (M (y (i.1,i.2.1,i.2.2.2)))) e) c else(if q (b.1=26)=g then f (b.1,q (b.1=26),b.2.2.1,b.2.2.2.1,ke b.2.2.2.2.1,b.2.2.2.2.2) else f (b.1,q (b.1=27),b.2.2.1,b.2.2.2.1,ke b.2.2.2.2.1,b.2.2.2.2.2)).bind λd=>(if d.2.1=g then(A (d.2.2.2.2.1.T_,d.2.2.1,d.2.2.2.1)).bind λe=>F (λi=>f (y i)) (λi=>(B (q (i.1.M_=2),40,i.2)).bind λj=>F (λl=>f (y l)) (λl=>(if q (d.2.2.2.2.1.k_=27)=g then f (l.1,l.2,d.2.2.2.2.2.1,qh.mk i.1.N_ 4 i.1.t_) else f (l.1,l.2,d.2.2.2.2.2.1,qh.mk i.1.N_ 3 i.1.t_)).bind λm=>f (M (y (m.1,m.2.1,m.2.2.2)))) j) e else(if q (d.1=28)=g then(C (ke d.2.2.2.2.1,d.2.2.1,d.2.2.2.1)).bind λi=>F (λj=>f (y j)) (λj=>(B (q (j.1.M_≠0),35,j.2)).bind λl=>F (λm=>f (y m)) (λm=>f (M (y (m.1,m.2,j.1)))) l) i else f (M (M (d.2.2.1,d.2.2.2.1,d.2.2.2.2.2)))).bind λi=>F (λj=>f (y j)) (λj=>F (λl=>f (M (y l))) (λl=>f (M (M l))) j) i).bind λe=>F (λi=>f (y i)) (λi=>F (λj=>f (M (y j))) (λj=>f (M (M j))) i) e).bind λc=>F (λd=>f (M (y d))) (λd=>F (λe=>f (y e)) (λe=>f (M (M e))) d) c).bind λa=>F (λb=>f (y (b.2.2,b.1,b.2.1))) (λb=>F (λc=>f (M c)) (λc=>(B (N,50,c.1,c.2.1)).bind λd=>F (λe=>f (M e)) (λe=>f (y (c.2.2.2,e))) d) b) a
def q29:zeF->U7 zp9:=q9f q4g q17 q20
theorem qjv:q29=zlD.F:=by delta q29;rw[qg2,q30,qgn];kernel_rfl
def qae(A:vm)(B:W8)(x:zqy):U7 zC:=(za x.2.2.2 x.2.2.1.2.2.2).bind λa=>(za x.2.2.2 x.2.2.1.2.2.2).bind λb=>(A (qe.mk a.N_ a.P_ b.V_,x.1)).bind λc=>if q (0<=c)=g then(za x.2.2.2 x.2.2.1.2.2.2).bind λd=>(za x.2.2.2 x.2.2.1.2.2.2).bind λe=>(za e.V_ c).bind λi=>(za x.2.2.2 x.2.2.1.2.2.2).bind λj=>(za j.V_ c).bind λl=>(B (q (l.N_=x.1) && (q (l.M_=x.2.1.M_) && (q (l.t_=x.2.1.t_) && g)),40,x.2.2)).bind λm=>F (λn=>f (y n)) (λn=>f (M n)) m else(za x.2.2.2 x.2.2.1.2.2.2).bind λn=>(za x.2.2.2 x.2.2.1.2.2.2).bind λo=>(zo 32 o.V_ [qh.mk x.1 x.2.1.M_ x.2.1.t_]).bind λp=>(za x.2.2.2 x.2.2.1.2.2.2).bind λr=>bif q (x.2.2.1.2.2.2=x.2.2.1.2.2.2) then f (M (x.2.2.1,Sl.set x.2.2.2 x.2.2.1.2.2.2 (qe.mk r.N_ r.P_ p))) else W
def q37:zqy->U7 zC:=qae q1o q17
theorem qke:q37=zlE.F:=by delta q37;rw[q7h,q30];kernel_rfl
def qap(x:qe×q8):Ul:=f (q (x.1.N_=x.2.T_))
def q4o:qe×q8->Ul:=qap
theorem qhy:q4o=zpf.F:=by kernel_rfl
def q6z(A:qe×q8->Ul):zrf->U7 (Step zrf zxb):=λa=>if q (a.2.1 < a.1)=g then(za a.2.2.1 a.2.1).bind λb=>(za a.2.2.1 a.2.1).bind λc=>(za a.2.2.1 a.2.1).bind λd=>(A (qe.mk c.N_ c.P_ d.V_,ke a.2.2.2)).bind λe=>if e=g then f (Step.done (y (a.2.1,a.2.2.1,ke a.2.2.2))) else f (Step.next (a.1,U8 (a.2.1+1),a.2.2.1,ke a.2.2.2)) else f (Step.done (M (a.2.2.1,ke a.2.2.2)))
def qbn(A:qe×q8->Ul)(x:Uz×q8):U7 zhk:=(lpO (q6z A) (Sl.len x.1,0,x.1,ke x.2)).bind λa=>F (λb=>f (b.1,b.2.1,ke b.2.2)) (λb=>f (-1,b.1,ke b.2)) a
def q3w:Uz×q8->U7 zhk:=qbn q4o
theorem qla:q3w=zlF.F:=by delta q3w;rw[qhy];kernel_rfl
def q64(A:W8)(B:zfV):zqh->U7 (Step zqh zC):=λa=>if q (a.2.2.2.1 < a.2.2.1)=g then(za a.2.1 a.2.2.2.1).bind λb=>(za a.2.2.2.2.2 a.1.1).bind λc=>(z7 c.V_ a.1.2.1 a.1.2.2).bind λd=>(za d a.2.2.2.1).bind λe=>(za a.2.2.2.2.2 a.1.1).bind λi=>(za i.V_ (a.1.2.1+a.2.2.2.1)).bind λj=>(B (ke b,j,a.2.2.2.2)).bind λl=>F (λm=>f (Step.done (y m))) (λm=>f (Step.next (a.1,a.2.1,a.2.2.1,U8 (a.2.2.2.1+1),m))) l else f (Step.done (M a.2.2.2.2))
def q7r(A:W8)(B:zfV)(x:zqo):U7 zC:=(za x.2.2.2 x.2.1.1).bind λa=>(z7 a.V_ x.2.1.2.1 x.2.1.2.2).bind λb=>(A (q (Sl.len x.1=x.2.1.2.2 - x.2.1.2.1),51,x.2.2)).bind λc=>F (λd=>f (y d)) (λd=>(lpO (q64 A B) (x.2.1,x.1,Sl.len x.1,0,d)).bind λe=>F (λi=>f (y i)) (λi=>f (M i)) e) c
def q1z:zqo->U7 zC:=q7r q17 q1h
theorem qie:q1z=zlG.F:=by delta q1z;rw[q30,qdy];kernel_rfl
def q54(A:zvr)(B:zvo)(C:zpX)(D:zqO)(E:W8)(G:tA8)(H:zfV)(I:zih):zqf->U7 (Step zqf zd3):=λa=>if q (a.2.2.2.2.2.1 < a.2.2.2.2.1)=g then(za a.2.2.2.1 a.2.2.2.2.2.1).bind λb=>(I (b.K_,a.2.2.2.2.2.2.1,a.2.2.2.2.2.2.2.1)).bind λc=>F (λd=>f (Step.done (y d))) (λd=>f (Step.next (a.1,a.2.1,a.2.2.1,a.2.2.2.1,a.2.2.2.2.1,U8 (a.2.2.2.2.2.1+1),d.1,d.2,a.2.2.2.2.2.2.2.2))) c else f (Step.done (M (a.1,a.2.1,a.2.2.1,a.2.2.2.2.2.2)))
def q26(A:zvr)(B:zvo)(C:zpX)(D:zqO)(E:W8)(G:tA8)(H:zfV)(I:zih):Wx->U7 (Step Wx zC):=λa=>if q (a.2.2.1 < a.2.1)=g then(za a.1 a.2.2.1).bind λb=>(if q (b.k_=10)=g then((za b.K_ 0).bind λc=>(A (ke c,(a.2.2.2.1.1,a.2.2.2.1.2.1,b.a_,a.2.2.2.1.2.2.2),a.2.2.2.2.1)).bind λd=>F (λe=>(B (b.T_,e)).bind λi=>F (λj=>f (y j)) (λj=>f (M (a.1,a.2.1,a.2.2.1,j.1,j.2,a.2.2.2.2.2))) i) (λe=>f (y e)) d).bind λc=>F (λd=>f (y d)) (λd=>f (M d)) c else(if q (b.k_=20)=g then(za b.K_ 0).bind λd=>(C (ke d,(a.2.2.2.1.1,a.2.2.2.1.2.1,b.a_,a.2.2.2.1.2.2.2),a.2.2.2.2.1)).bind λe=>F (λi=>f (y i)) (λi=>f (M (a.1,a.2.1,a.2.2.1,i.2.1,i.2.2,a.2.2.2.2.2))) e else(if q (b.k_=19)=g then(D (a.2.2.2.2.1,ke b)).bind λi=>(E (q (0<=i.1),31,(a.2.2.2.1.1,a.2.2.2.1.2.1,b.a_,a.2.2.2.1.2.2.2),i.2.1)).bind λj=>F (λl=>f (y l)) (λl=>(za l.2 i.1).bind λm=>(za l.2 i.1).bind λn=>(za l.2 i.1).bind λo=>(za l.2 i.1).bind λp=>(za l.2 i.1).bind λr=>(z7 r.V_ 0 p.P_).bind λs=>(G (i.2.2.K_,(i.1,0,p.P_),l)).bind λt=>F (λu=>f (y u)) (λu=>f (M (a.1,a.2.1,a.2.2.1,u.1,u.2,a.2.2.2.2.2))) t) j else(if q (b.k_=15)=g then f (a.1,a.2.1,a.2.2.1,b.k_,q (b.k_=15),(a.2.2.2.1.1,a.2.2.2.1.2.1,b.a_,a.2.2.2.1.2.2.2),a.2.2.2.2.1,a.2.2.2.2.2,ke b) else f (a.1,a.2.1,a.2.2.1,b.k_,q (b.k_=16),(a.2.2.2.1.1,a.2.2.2.1.2.1,b.a_,a.2.2.2.1.2.2.2),a.2.2.2.2.1,a.2.2.2.2.2,ke b)).bind λl=>(if l.2.2.2.2.1=g then(za l.2.2.2.2.2.2.2.2.K_ 0).bind λm=>(H (ke m,l.2.2.2.2.2.2.2.1,l.2.2.2.2.2.1,l.2.2.2.2.2.2.1)).bind λn=>F (λo=>f (y o)) (λo=>(za l.2.2.2.2.2.2.2.2.K_ 1).bind λp=>(H (ke p,l.2.2.2.2.2.2.2.1,o)).bind λr=>F (λs=>f (y s)) (λs=>(z7 l.2.2.2.2.2.2.2.2.K_ 2 l.2.2.2.2.2.2.2.2.K_.len).bind λt=>(lpO (q54 A B C D E G H I) (l.1,l.2.1,l.2.2.1,t,t.len,0,s.1,s.2,l.2.2.2.2.2.2.2.1)).bind λu=>F (λv=>f (y v)) (λv=>f (M v)) u) r) n else(if q (l.2.2.2.1=17)=g then(E (q (l.2.2.2.2.2.2.2.2.K_.len=0),35,l.2.2.2.2.2.1,l.2.2.2.2.2.2.1)).bind λo=>F (λp=>f (y p)) (λp=>f (M (l.1,l.2.1,l.2.2.1,p.1,p.2,l.2.2.2.2.2.2.2.1))) o else(if q (l.2.2.2.1=18)=g then f (y (l.1,l.2.1,l.2.2.1,l.2.2.2.2.2.1,l.2.2.2.2.2.2.1,l.2.2.2.2.2.2.2.1)) else(E (N,50,l.2.2.2.2.2.1,l.2.2.2.2.2.2.1)).bind λp=>F (λr=>f (M r)) (λr=>f (y (l.1,l.2.1,l.2.2.1,r.1,r.2,l.2.2.2.2.2.2.2.1))) p).bind λp=>F (λr=>f (M r)) (λr=>f (y r)) p).bind λo=>F (λp=>f (y p)) (λp=>f (M p)) o).bind λm=>F (λn=>f (y n)) (λn=>f (M n)) m).bind λi=>F (λj=>f (y j)) (λj=>f (M j)) i).bind λd=>F (λe=>f (y e)) (λe=>f (M e)) d).bind λc=>F (λd=>f (Step.done (y d))) (λd=>f (Step.next (d.1,d.2.1,U8 (d.2.2.1+1),d.2.2.2))) c else f (Step.done (M (a.2.2.2.1,a.2.2.2.2.1)))
def q6k(A:zvr)(B:zvo)(C:zpX)(D:zqO)(E:W8)(G:tA8)(H:zfV)(I:zih)(x:zwT):U7 zC:=(lpO (q26 A B C D E G H I) (x.1,Sl.len x.1,0,x.2.1,x.2.2,qh.mk (lit []) 1 0)).bind λa=>F (λb=>f (y b)) (λb=>f (M b)) a
def q57(h:zcD):zcD:=q6k q29 q37 q20 q3w q17 q1z q1h h
theorem qif(h:zcD):@Eq zcD (zjg h) (q57 h):=by delta q57;rw[qjv,qke,qgn,qla,q30,qie,qdy];kernel_rfl
def q2i:Nat->zwT->U7 zC
 |0=>λ_=>W
 |k+1=>q57 (q2i k)
theorem qf6:∀k,@Eq zcD (zgC k) (q2i k)
 |0=>rfl
 |k+1=>(qif (zgC k)).trans (congrArg q57 (qf6 k))
def q3u:zcD:=q2i 100000
theorem qj3:@Eq zcD zzs q3u:=qf6 100000
def qfd(x:q8):U7 q8:=if q (x.K_.len=0)=g then f (q8.mk 0 (lit []) 0 0 (O [] N)) else(za x.K_ 0).bind λa=>f (ke a)
def q7d:zkr:=qfd
theorem qm0:q7d=zhV.F:=by kernel_rfl
def qhq(x:q8):U7 qz:=f (qz.mk x.T_ x.n_)
def qan:zcS:=qhq
theorem qig:qan=zhW.F:=by kernel_rfl
def qh3(A:zcS)(x:q8×Int):U7 qz:=if q (x.1.K_.len<=x.2)=g then f (qz.mk (lit []) 0) else(za x.1.K_ x.2).bind λa=>(A (ke a)).bind λb=>f b
def q35:zrj:=qh3 qan
theorem qjw:q35=zch.F:=by delta q35;rw[qig];kernel_rfl
def qe3(A:zcS):zq7->U7 (Step zq7 (Sl qz)):=λa=>if q (a.2.2.1 < a.2.1)=g then(za a.1 a.2.2.1).bind λb=>(A (ke b)).bind λc=>(zo 24 a.2.2.2 [c]).bind λd=>f (Step.next (a.1,a.2.1,U8 (a.2.2.1+1),d)) else f (Step.done a.2.2.2)
def qhr(A:zcS)(x:q8):U7 (Sl qz):=(lpO (qe3 A) (x.K_,x.K_.len,0,O [] N)).bind λa=>f a
def qc1:zkc:=qhr qan
theorem qlf:qc1=zhX.F:=by delta qc1;rw[qig];kernel_rfl
def qcc(x:qm×Sl qm):U7 Vg:=(zo 136 x.2 [x.1]).bind λa=>f (U8 (a.len - 1),a)
def q2r:qm×Sl qm->U7 Vg:=qcc
theorem qdh:q2r=VQ.F:=by kernel_rfl
def qcd(A:zrj)(B:zkc)(C:zcS)(D:zhc)(x:zkm):U7 (Sl qm):=(if q (x.2.1.k_=21)=g then f (x.2.1.k_,q (x.2.1.k_=21),x.2.2,ke x.2.1,0,x.1.a_,x.1.T_,lit [],lit [],0,lit [],0,0,N) else f (x.2.1.k_,q (x.2.1.k_=22),x.2.2,ke x.2.1,0,x.1.a_,x.1.T_,lit [],lit [],0,lit [],0,0,N)).bind λa=>(if a.2.1=g then(A (ke a.2.2.2.1,0)).bind λb=>(A (ke a.2.2.2.1,1)).bind λc=>f (a.2.2.1,(U8 (1+U8 (a.2.2.2.1.k_ - 21)),a.2.2.2.2.2.1,a.2.2.2.2.2.2.1,a.2.2.2.2.2.2.2.1,b.N_,b.n_,c.N_,c.n_,a.2.2.2.2.2.2.2.2.2.2.2.2),O [] N) else(if q (a.1=23)=g then f (a.2.2.1,(3,a.2.2.2.2.2.1,a.2.2.2.2.2.2.1,a.2.2.2.2.2.2.2.1,lit [],a.2.2.2.1.n_,a.2.2.2.2.2.2.2.2.2.2),O [] N) else(if q (a.1=24)=g then f (a.2.2.1,(4,a.2.2.2.2.2.1,a.2.2.2.2.2.2.1,a.2.2.2.2.2.2.2.1,a.2.2.2.1.T_,0,a.2.2.2.2.2.2.2.2.2.2),O [] N) else(if q (a.1=25)=g then(A (ke a.2.2.2.1,0)).bind λd=>f (a.2.2.1,(5,a.2.2.2.2.2.1,a.2.2.2.2.2.2.1,a.2.2.2.1.T_,d.N_,d.n_,a.2.2.2.2.2.2.2.2.2.2),O [] N) else(if q (a.1=28)=g then(B (ke a.2.2.2.1)).bind λe=>f (a.2.2.1,(12,a.2.2.2.2.2.1,a.2.2.2.2.2.2.1,a.2.2.2.1.T_,a.2.2.2.2.2.2.2.2),e) else(if q (a.1=26)=g then f (q (a.1=26),a.2.2.1,ke a.2.2.2.1,a.2.2.2.2) else f (q (a.1=27),a.2.2.1,ke a.2.2.2.1,a.2.2.2.2)).bind λi=>(if i.1=g then f (i.2.1,i.2.2.2.1,i.2.2.2.2.1,i.2.2.2.2.2.1,i.2.2.2.2.2.2.1,i.2.2.1.T_,0,i.2.2.2.2.2.2.2.2.2) else(C (ke i.2.2.1)).bind λj=>f (i.2.1,i.2.2.2.1,i.2.2.2.2.1,i.2.2.2.2.2.1,i.2.2.2.2.2.2.1,j.N_,j.n_,i.2.2.2.2.2.2.2.2.2)).bind λj=>f (j.1,j.2,O [] N)).bind λe=>f e).bind λd=>f d).bind λd=>f d).bind λd=>f d).bind λb=>(D (qm.mk b.2.1.1 b.2.1.2.1 b.2.1.2.2.1 b.2.1.2.2.2.1 (qz.mk b.2.1.2.2.2.2.1 b.2.1.2.2.2.2.2.1) (qz.mk b.2.1.2.2.2.2.2.2.1 b.2.1.2.2.2.2.2.2.2.1) b.2.2 b.2.1.2.2.2.2.2.2.2.2.1 b.2.1.2.2.2.2.2.2.2.2.2,b.1)).bind λc=>f c.2
def q6p:zkm->U7 (Sl qm):=qcd q35 qc1 qan q2r
theorem qli:q6p=zlH.F:=by delta q6p;rw[qjw,qlf,qig,qdh];kernel_rfl
def q4t(A:zrj)(B:zhc)(C:zeQ)(x:q8×Sl qm):U7 (Sl qm):=if q (x.1.K_.len < 3)=g then f x.2 else(A (ke x.1,0)).bind λa=>(A (ke x.1,1)).bind λb=>(B (qm.mk 10 x.1.a_ x.1.T_ (lit []) a b (O [] N) 0 N,x.2)).bind λc=>(za x.1.K_ 2).bind λd=>(C (ke d,c.2)).bind λe=>(B (qm.mk 11 x.1.a_ (lit []) (lit []) (qz.mk (lit []) 0) (qz.mk (lit []) 0) (O [] N) c.1 N,e)).bind λi=>(za i.2 c.1).bind λj=>(za i.2 c.1).bind λl=>(if q (x.1.k_=15)=g then f (i.1,q (3 < x.1.K_.len),ke x.1,Sl.set i.2 c.1 (qm.mk l.O_ l.a_ l.X_ l.Y_ l.A_ l.B_ l.Q_ (Sl.len i.2) l.h_)) else f (i.1,N,ke x.1,Sl.set i.2 c.1 (qm.mk l.O_ l.a_ l.X_ l.Y_ l.A_ l.B_ l.Q_ (Sl.len i.2) l.h_))).bind λm=>(if m.2.1=g then(za m.2.2.1.K_ 3).bind λn=>(C (ke n,m.2.2.2)).bind λo=>(za o m.1).bind λp=>(za o m.1).bind λr=>f (o.set m.1 (qm.mk r.O_ r.a_ r.X_ r.Y_ r.A_ r.B_ r.Q_ o.len r.h_)) else f m.2.2.2).bind λn=>f n
def q2l(h:yJ):yJ:=q4t q35 q2r h
theorem qgo(h:yJ):@Eq yJ (zgE h) (q2l h):=by delta q2l;rw[qjw,qdh];kernel_rfl
def q5p(A:zkr)(B:zkm->U7 (Sl qm))(C:zeQ)(D:zrj)(E:zkc)(G:zhc)(x:q8×Sl qm):U7 (Sl qm):=(if q (x.1.k_=10)=g then(A (ke x.1)).bind λa=>(B (ke x.1,ke a,x.2)).bind λb=>f (y b) else(if q (x.1.k_=15)=g then f (x.1.k_,q (x.1.k_=15),x.2,ke x.1,0,x.1.a_,lit [],x.1.T_,lit [],0,lit [],0,0,N) else f (x.1.k_,q (x.1.k_=16),x.2,ke x.1,0,x.1.a_,lit [],x.1.T_,lit [],0,lit [],0,0,N)).bind λ(c:zAG)=>if c.2.1=g then(C (ke c.2.2.2.1,c.2.2.1)).bind λd=>f (y d) else(if q (c.1=11)=g then(D (ke c.2.2.2.1,0)).bind λe=>(D (ke c.2.2.2.1,1)).bind λi=>f (c.2.2.1,(6,c.2.2.2.2.2.1,c.2.2.2.2.2.2.1,c.2.2.2.2.2.2.2.1,e.N_,e.n_,i.N_,i.n_,c.2.2.2.2.2.2.2.2.2.2.2.2),O [] N) else(if q (c.1=12)=g then f (c.2.2.1,(7,c.2.2.2.2.2),O [] N) else(if q (c.1=13)=g then f (c.2.2.1,(8,c.2.2.2.2.2.1,c.2.2.2.2.2.2.1,c.2.2.2.2.2.2.2.1,lit [],c.2.2.2.1.n_,c.2.2.2.2.2.2.2.2.2.2),O [] N) else(if q (c.1=14)=g then f (c.2.2.1,(9,c.2.2.2.2.2.1,c.2.2.2.2.2.2.1,c.2.2.2.2.2.2.2.1,lit [],c.2.2.2.1.n_,c.2.2.2.2.2.2.2.2.2.2),O [] N) else(if q (c.1=20)=g then(A (ke c.2.2.2.1)).bind λj=>(A (ke c.2.2.2.1)).bind λl=>(E (ke l)).bind λm=>f (c.2.2.1,(12,c.2.2.2.2.2.1,c.2.2.2.2.2.2.1,j.T_,c.2.2.2.2.2.2.2.2),m) else(if q (c.1=19)=g then(E (ke c.2.2.2.1)).bind λn=>f (c.2.2.1,(13,c.2.2.2.2.2),n) else(if q (c.1=17)=g then(D (ke c.2.2.2.1,0)).bind λo=>f (c.2.2.1,14,c.2.2.2.2.2.1,c.2.2.2.2.2.2.1,lit [],o.N_,o.n_,c.2.2.2.2.2.2.2.2.2.2.1,c.2.2.2.2.2.2.2.2.2.2.2.1,c.2.2.2.2.2.2.2.2.2.2.2.2.1,q (0 < c.2.2.2.1.K_.len)) else f (c.2.2.1,15,c.2.2.2.2.2.1,c.2.2.2.2.2.2.1,lit [],c.2.2.2.2.2.2.2.2)).bind λ(o:zwb)=>f (o.1,o.2,O [] N)).bind λ(n:vL)=>f n).bind λ(j:vL)=>f j).bind λ(j:vL)=>f j).bind λ(j:vL)=>f j).bind λ(j:vL)=>f j).bind λ(e:vL)=>f (M e)).bind λ(a:Sl qm⊕Sl qm×(Int×Int×U5×U5×U5×Int×U5×Int×Int×Bool)×Sl qz)=>F (λb=>f b) (λb=>(G (qm.mk b.2.1.1 b.2.1.2.1 b.2.1.2.2.1 b.2.1.2.2.2.1 (qz.mk b.2.1.2.2.2.2.1 b.2.1.2.2.2.2.2.1) (qz.mk b.2.1.2.2.2.2.2.2.1 b.2.1.2.2.2.2.2.2.2.1) b.2.2 b.2.1.2.2.2.2.2.2.2.2.1 b.2.1.2.2.2.2.2.2.2.2.2,b.1)).bind λc=>f c.2) a
def q23(h:yJ):yJ:=q5p q7d q6p (q2l h) q35 qc1 q2r
theorem qh6(h:yJ):@Eq yJ (zgF h) (q23 h):=by delta q23;rw[qm0,qli,<-qgo h,qjw,qlf,qdh];kernel_rfl
def q80(A:zeQ):zq8->U7 (Step zq8 (Sl qm)):=λa=>if q (a.2.2.1 < a.2.1)=g then(za a.1 a.2.2.1).bind λb=>(A (ke b,a.2.2.2)).bind λc=>f (Step.next (a.1,a.2.1,U8 (a.2.2.1+1),c)) else f (Step.done a.2.2.2)
def q81(A:zeQ)(x:q8×Sl qm):U7 (Sl qm):=(lpO (q80 A) (x.1.K_,x.1.K_.len,0,x.2)).bind λa=>f a
def q6g(h:yJ):yJ:=q81 (q23 h)
theorem qkf(h:yJ):@Eq yJ (zjh h) (q6g h):=by delta q6g;rw[<-qh6 h];kernel_rfl
def q2p:Nat->(q8×Sl qm)->U7 (Sl qm)
 |0=>λ_=>W
 |k+1=>q6g (q2p k)
theorem qb7:∀k,@Eq yJ (zci k) (q2p k)
 |0=>rfl
 |k+1=>(qkf (zci k)).trans (congrArg q6g (qb7 k))
def q8u:yJ:=q2p 100000
theorem qkv:@Eq yJ zzy q8u:=qb7 100000
def qdk(A:zeQ)(B:zhc):zg5->U7 (Step zg5 zwS):=λa=>if q (a.2.2.1 < a.2.1)=g then(za a.1 a.2.2.1).bind λb=>(if q (b.k_=7)=g then(zo 16 a.2.2.2.2.2.1 [b.T_]).bind λc=>f (a.1,a.2.1,a.2.2.1,a.2.2.2.1,a.2.2.2.2.1,c,a.2.2.2.2.2.2) else(if q (b.k_=9)=g then(A (ke b,a.2.2.2.2.2.2)).bind λd=>(B (qm.mk 14 b.a_ (lit []) (lit []) (qz.mk (lit []) 0) (qz.mk (lit []) 0) (O [] N) 0 N,d)).bind λe=>f (a.1,a.2.1,a.2.2.1,a.2.2.2.1,a.2.2.2.2.1,a.2.2.2.2.2.1,e.2) else f a).bind λd=>f d).bind λc=>f (Step.next (c.1,c.2.1,U8 (c.2.2.1+1),c.2.2.2)) else f (Step.done a.2.2.2)
def qfe(A:zeQ)(B:zhc)(x:q8):U7 q1j:=if q (x.k_≠6)=g then f (q1j.mk (lit []) (O [] N) (O [] N)) else(lpO (qdk A B) (x.K_,x.K_.len,0,lit [],x.T_,O [] N,O [] N)).bind λa=>f (q1j.mk a.2.1 a.2.2.1 a.2.2.2)
def q4x:zcR:=qfe q8u q2r
theorem qkw:q4x=zph.F:=by delta q4x;rw[<-qkv,qdh];kernel_rfl
def qai(A:W8)(x:zqt):U7 zC:=(A (x.2.1,x.2.2.1,(x.2.2.2.1.1,x.2.2.2.1.2.1,x.1.a_,x.2.2.2.1.2.2.2),x.2.2.2.2)).bind λa=>F (λb=>f (y b)) (λb=>f (M b)) a
def q3p:zqt->U7 zC:=qai q17
theorem qhv:q3p=zuf.F:=by delta q3p;rw[q30];kernel_rfl
def qda(x:zj0):U7 Ym:=f (x.1.1,x.1.2,x.2.2.2)
def q6c:zj0->U7 Ym:=qda
theorem qkh:@Eq ((zj0)->U7 Ym) zui q6c:=by kernel_rfl
def qc4(x:Ym):U7 Ym:=f x
def q5k:Ym->U7 Ym:=qc4
theorem qj4:@Eq ((Ym)->U7 Ym) zul q5k:=by kernel_rfl
def q70(A:zmE)(B:zvp)(C:zqp)(D:zih)(E:zcR)(G:zvn)(H:zqE):zay->U7 (Step zay zjx):=λa=>if q (a.2.2.1 < a.2.1)=g then((za a.1 a.2.2.1).bind λb=>(A (ke b,q (b.k_=6),50,a.2.2.2.2.2.2)).bind λc=>F (λd=>f (y (d.1,ke a.2.2.2.1,a.2.2.2.2.1,a.2.2.2.2.2.1))) (λd=>(Yc ((B (ke b,d)).bind λe=>F (λi=>f (y (i.1,ke a.2.2.2.1,a.2.2.2.2.1,a.2.2.2.2.2.1))) (λi=>(zo 48 i.2.2.1 [qe.mk i.1.1 i.1.2 i.2.2.2]).bind λj=>f (M (a.1,a.2.1,a.2.2.1,ke a.2.2.2.1,a.2.2.2.2.1,a.2.2.2.2.2.1,i.2.1,j))) e) ((B (ke b,d)).bind λe=>F (λi=>f (y (i.1,ke a.2.2.2.1,a.2.2.2.2.1,a.2.2.2.2.2.1))) (λi=>Yc ((zo 48 i.2.2.1 [qe.mk i.1.1 i.1.2 i.2.2.2]).bind λj=>f (M (a.1,a.2.1,a.2.2.1,ke a.2.2.2.1,a.2.2.2.2.1,a.2.2.2.2.2.1,i.2.1,j))) ((zo 48 i.2.2.1 [qe.mk i.1.1 i.1.2 i.2.2.2]).bind λj=>f (M (a.1,a.2.1,a.2.2.1,ke a.2.2.2.1,a.2.2.2.2.1,a.2.2.2.2.2.1,i.2.1,j)))) e)).bind λe=>F (λi=>f (y (i.1,ke i.2.1,i.2.2))) (λi=>f (M (i.1,i.2.1,i.2.2.1,ke i.2.2.2.1,i.2.2.2.2))) e) c).bind λb=>F (λc=>f (Step.done (y (c.1,ke c.2.1,c.2.2)))) (λc=>f (Step.next (c.1,c.2.1,U8 (c.2.2.1+1),ke c.2.2.2.1,c.2.2.2.2))) b else f (Step.done (M (ke a.2.2.2.1,a.2.2.2.2)))
def q71(A:zmE)(B:zvp)(C:zqp)(D:zih)(E:zcR)(G:zvn)(H:zqE):zay->U7 (Step zay zjx):=λa=>if q (a.2.2.1 < a.2.1)=g then((za a.1 a.2.2.1).bind λb=>(za a.2.2.2.2.2.2.2 a.2.2.1).bind λc=>(za b.K_ (U8 (b.K_.len - 1))).bind λd=>(D (d.K_,(a.2.2.2.2.2.2.1.1,a.2.2.2.2.2.2.1.2.1,a.2.2.2.2.2.2.1.2.2,a.2.2.1),a.2.2.2.2.2.2.2)).bind λe=>F (λi=>f (y (i.1,ke a.2.2.2.1,a.2.2.2.2.1,a.2.2.2.2.2.1))) (λi=>((za i.2 i.1.2.2.2).bind λj=>(za i.2 i.1.2.2.2).bind λl=>if q (l.V_.len<=64)=g then(E (ke b)).bind λm=>(G (ke b,q (m.L_.len<=512),22,i)).bind λn=>F (λo=>f (y (o.1,ke a.2.2.2.1,a.2.2.2.2.1,a.2.2.2.2.2.1))) (λo=>f (M (a.1,a.2.1,a.2.2.1,ke a.2.2.2.1,a.2.2.2.2.1,a.2.2.2.2.2.1,o))) n else(G (ke b,N,22,i)).bind λo=>F (λp=>f (y (p.1,ke a.2.2.2.1,a.2.2.2.2.1,a.2.2.2.2.2.1))) (λp=>f (M (a.1,a.2.1,a.2.2.1,ke a.2.2.2.1,a.2.2.2.2.1,a.2.2.2.2.2.1,p))) o).bind λj=>F (λl=>f (y (l.1,ke l.2.1,l.2.2))) (λl=>f (M (l.1,l.2.1,l.2.2.1,ke l.2.2.2.1,l.2.2.2.2))) j) e).bind λb=>F (λc=>f (Step.done (y (c.1,ke c.2.1,c.2.2)))) (λc=>f (Step.next (c.1,c.2.1,U8 (c.2.2.1+1),ke c.2.2.2.1,c.2.2.2.2.1,c.2.2.2.2.2.1,(c.2.2.2.2.2.2.1.1,c.2.2.2.2.2.2.1.2.1,c.2.2.2.2.2.2.1.2.2.1),c.2.2.2.2.2.2.2))) b else f (Step.done (M (ke a.2.2.2.1,a.2.2.2.2)))
def qei(A:zmE)(B:zvp)(C:zqp)(D:zih)(E:zcR)(G:zvn)(H:zqE)(x:zrl):U7 Ym:=(lpO (q70 A B C D E G H) (x.1.K_,x.1.K_.len,0,ke x.1,0,0,(x.2.1,x.2.2,0),O [] N)).bind λa=>F (λb=>(C (b.1,b.2.2.1,b.2.2.2,O [] N)).bind λc=>f (c.1,c.2.1,O [] N)) (λb=>(lpO (q71 A B C D E G H) (b.1.K_,b.1.K_.len,0,ke b.1,b.2)).bind λc=>F (λd=>(C (d.1,d.2.2.1,d.2.2.2,O [] N)).bind λe=>f (e.1,e.2.1,O [] N)) (λd=>(H (0,0,d.2.2.2.2)).bind λe=>f e) c) a
def q7m:zrl->U7 Ym:=qei q25 q3e q6c q3u q4x q3p q5k
theorem qlu:@Eq ((zrl)->U7 Ym) zzE q7m:=by delta q7m;rw[qf5,qjt,<-qkh,<-qj3,qkw,qhv,<-qj4];kernel_rfl
def q9l(x:zjE):U7 ZA:=(if q (x.2.2.1.2.2.2=0)=g then f ((x.2.2.1.1,x.2.2.1.2.1,x.1,x.2.1),x.2.2.2) else f x.2.2).bind λa=>f a
def q1b:zjE->U7 ZA:=q9l
theorem qdi:q1b=zdH.F:=by kernel_rfl
def q5l:zqK->U7 (Step zqK zwz):=λa=>if q (a.2.1 < Sl.len a.2.2.2)=g then(za a.2.2.2 a.2.1).bind λb=>(za a.2.2.2 a.2.1).bind λc=>if q (c.N_=a.1)=g then f (Step.done (y a.2)) else f (Step.next (a.1,U8 (a.2.1+1),a.2.2)) else f (Step.done (M a.2.2))
def q9m(x:zjQ):U7 zeK:=(lpO q5l (x.1,0,x.2)).bind λa=>F (λb=>f b) (λb=>f (-1,b)) a
def q46:zjQ->U7 zeK:=q9m
theorem qjx:q46=zpi.F:=by kernel_rfl
def q5m(A:zd5)(B:zwh)(C:v8):zvD->U7 (Step zvD zAN):=λa=>if q (a.2.1 < a.1)=g then(za a.2.2.2.2.1.K_ a.2.1).bind λb=>(za b.K_ 0).bind λc=>(B (b.T_,a.2.2.2.2.2.2)).bind λd=>(if q (0<=d.1)=g then(A (b.a_,30,a.2.2.1,a.2.2.2.1)).bind λe=>f (a.1,a.2.1,e.1,e.2,kr a.2.2.2.2.1,a.2.2.2.2.2.1,d.2.1,kr b,kr c,d.2.2) else f (a.1,a.2.1,a.2.2.1,a.2.2.2.1,kr a.2.2.2.2.1,a.2.2.2.2.2.1,d.2.1,kr b,kr c,d.2.2)).bind λe=>(if q (e.2.2.2.2.2.2.2.2.1.T_=lit [38])=g then f (e.1,e.2.1,g,e.2.2.1,e.2.2.2.1,kr e.2.2.2.2.1,e.2.2.2.2.2.1,e.2.2.2.2.2.2.1,kr e.2.2.2.2.2.2.2.2.1,qi.mk e.2.2.2.2.2.2.2.1.T_ 1 0,e.2.2.2.2.2.2.2.2.2) else f (e.1,e.2.1,q (e.2.2.2.2.2.2.2.2.1.T_=lit [38,109,117,116]),e.2.2.1,e.2.2.2.1,kr e.2.2.2.2.1,e.2.2.2.2.2.1,e.2.2.2.2.2.2.1,kr e.2.2.2.2.2.2.2.2.1,qi.mk e.2.2.2.2.2.2.2.1.T_ 1 0,e.2.2.2.2.2.2.2.2.2)).bind λi=>(if i.2.2.1=g then(A (i.2.2.2.2.2.2.2.2.1.a_,34,i.2.2.2.1,i.2.2.2.2.1)).bind λj=>f (i.1,i.2.1,j.1,j.2,kr i.2.2.2.2.2.1,i.2.2.2.2.2.2.1,i.2.2.2.2.2.2.2.1,kr i.2.2.2.2.2.2.2.2.1,i.2.2.2.2.2.2.2.2.2) else f (i.1,i.2.1,i.2.2.2.1,i.2.2.2.2.1,kr i.2.2.2.2.2.1,i.2.2.2.2.2.2.1,i.2.2.2.2.2.2.2.1,kr i.2.2.2.2.2.2.2.2.1,i.2.2.2.2.2.2.2.2.2)).bind λj=>(if q (j.2.2.2.2.2.2.2.1.T_=lit [111,119,110])=g then(za j.2.2.2.2.2.2.2.1.K_ 0).bind λl=>(C (j.2.2.1.2.1,l.T_)).bind λm=>(if q (m < 0)=g then(A (j.2.2.2.2.2.2.2.1.a_,31,j.2.2.1,j.2.2.2.1)).bind λn=>f (j.1,j.2.1,n.1,n.2,kr j.2.2.2.2.1,j.2.2.2.2.2.1,j.2.2.2.2.2.2.1,qi.mk j.2.2.2.2.2.2.2.2.1.N_ 2 m,j.2.2.2.2.2.2.2.2.2) else f (j.1,j.2.1,j.2.2.1,j.2.2.2.1,kr j.2.2.2.2.1,j.2.2.2.2.2.1,j.2.2.2.2.2.2.1,qi.mk j.2.2.2.2.2.2.2.2.1.N_ 2 m,j.2.2.2.2.2.2.2.2.2)).bind λn=>f (n.1,n.2.1,n.2.2.1,n.2.2.2.1,kr n.2.2.2.2.1,n.2.2.2.2.2) else f (j.1,j.2.1,j.2.2.1,j.2.2.2.1,kr j.2.2.2.2.1,j.2.2.2.2.2.1,j.2.2.2.2.2.2.1,j.2.2.2.2.2.2.2.2)).bind λl=>(zo 32 l.2.2.2.2.2.2.2.2 [l.2.2.2.2.2.2.2.1]).bind λm=>f (Step.next (l.1,U8 (l.2.1+1),l.2.2.1,l.2.2.2.1,kr l.2.2.2.2.1,l.2.2.2.2.2.1,l.2.2.2.2.2.2.1,m)) else f (Step.done (a.1,a.2.2.1,a.2.2.2.1,kr a.2.2.2.2.1,a.2.2.2.2.2))
def q9n(A:zd5)(B:zwh)(C:v8)(x:zha):U7 zjz:=if q (8 < U8 (x.1.K_.len - 2))=g then(A (x.1.a_,22,x.2)).bind λa=>f ((x.1.T_,U8 (x.1.K_.len - 2)),a.1,a.2,O [] N) else(lpO (q5m A B C) (U8 (x.1.K_.len - 2),0,x.2.1,x.2.2,kr x.1,(lit [],0),(x.1.T_,U8 (x.1.K_.len - 2)),O [] N)).bind λb=>(za b.2.2.2.1.K_ b.1).bind λc=>(if q (c.T_≠lit [])=g then(za b.2.2.2.1.K_ b.1).bind λd=>(A (d.a_,35,b.2.1,b.2.2.1)).bind λe=>f (e.1,e.2,b.2.2.2.2) else f (b.2.1,b.2.2.1,b.2.2.2.2)).bind λd=>f (d.2.2.2.1,d.1,d.2.1,d.2.2.2.2)
def q47:zha->U7 zjz:=q9n q1b q46 q1a
theorem qjy:q47=zup.F:=by delta q47;rw[qdi,qjx,qdg];kernel_rfl
def q4p:zq4->U7 (Step zq4 zeW):=λa=>(za a.2.2.2 a.1).bind λb=>(za a.2.2.2 a.1).bind λc=>if q (a.2.2.1 < c.V_.len)=g then(za a.2.2.2 a.1).bind λd=>(za a.2.2.2 a.1).bind λe=>(za e.V_ a.2.2.1).bind λi=>(za a.2.2.2 a.1).bind λj=>(za j.V_ a.2.2.1).bind λl=>if q (l.N_=a.2.1)=g then f (Step.done (y a.2.2)) else f (Step.next (a.1,a.2.1,U8 (a.2.2.1+1),a.2.2.2)) else f (Step.done (M a.2.2.2))
def q7s(x:zcP):U7 Z6:=(lpO q4p (x.1,x.2.1,0,x.2.2)).bind λa=>F (λb=>f b) (λb=>f (-1,b)) a
def q2j:zcP->U7 Z6:=q7s
theorem qf7:q2j=zlM.F:=by kernel_rfl
def q9g(A:zqF)(x:zcP):U7 zaO:=(A x).bind λa=>if q (a.1 < 0)=g then f (qi.mk (lit []) 0 0,31,a.2) else(za a.2 x.1).bind λb=>(za a.2 x.1).bind λc=>(za c.V_ a.1).bind λd=>(za a.2 x.1).bind λe=>(za e.V_ a.1).bind λi=>(za a.2 x.1).bind λj=>(za a.2 x.1).bind λl=>(za l.V_ a.1).bind λm=>(za a.2 x.1).bind λn=>(za n.V_ a.1).bind λo=>f (qi.mk (lit []) i.M_ o.t_,0,a.2)
def q4u:zcP->U7 zaO:=q9g q2j
theorem qgp:q4u=zpj.F:=by delta q4u;rw[qf7];kernel_rfl
def q9h(A:zwE)(x:zri):U7 Z6:=(if q (x.2.1.T_=lit [])=g then if q (x.2.2.1.M_=1)=g then f (y (0,x.2.2.2)) else f (y (40,x.2.2.2)) else f (M (x.1,x.2.2.2,kr x.2.1,x.2.2.1))).bind λa=>F (λb=>f b) (λb=>(A (b.1,b.2.2.1.T_,b.2.1)).bind λc=>if q (c.2.1≠0)=g then f c.2 else(if q (b.2.2.2.M_=1)=g then if q (c.1.M_=1)=g then f (y (0,c.2.2)) else f (y (40,c.2.2)) else f (M (c.2.2,kr b.2.2.1,b.2.2.2,c.1))).bind λd=>F (λe=>f e) (λe=>(if q (e.2.2.1.M_=3)=g then f (q (e.2.2.2.M_=4),e.1,kr e.2.1,e.2.2) else f (N,e.1,kr e.2.1,e.2.2)).bind λi=>(if q (i.2.2.1.n_≠0)=g then f (g,i.2.1) else if q (i.2.2.2.2.t_≠i.2.2.2.1.t_)=g then f (g,i.2.1) else if q (i.2.2.2.2.M_≠i.2.2.2.1.M_)=g then f (!i.1,i.2.1) else f (N,i.2.1)).bind λj=>if j.1=g then f (40,j.2) else f (0,j.2)) d) a
def q1m:zri->U7 Z6:=q9h q4u
theorem qdj:q1m=zlN.F:=by delta q1m;rw[qgp];kernel_rfl
def q72(A:zeC):zqY->U7 (Step zqY zeW):=λa=>if q (a.2.2.2.1 < Sl.len a.2.1)=g then(za a.2.1 a.2.2.2.1).bind λb=>(za a.2.2.1 a.2.2.2.1).bind λc=>(A (a.1,kr b,c,a.2.2.2.2)).bind λd=>if q (d.1≠0)=g then f (Step.done (y d)) else f (Step.next (a.1,a.2.1,a.2.2.1,U8 (a.2.2.2.1+1),d.2)) else f (Step.done (M a.2.2.2.2))
def q9i(A:zeC)(x:zq5):U7 Z6:=if q (Sl.len x.2.1≠Sl.len x.2.2.1)=g then f (51,x.2.2.2) else(lpO (q72 A) (x.1,x.2.1,x.2.2.1,0,x.2.2.2)).bind λa=>F (λb=>f b) (λb=>f (0,b)) a
def q3f:zq5->U7 Z6:=q9i q1m
theorem qjz:q3f=zuq.F:=by delta q3f;rw[qdj];kernel_rfl
def q4h(A:zwH):zqr->U7 (Step zqr zwc):=λa=>if q (a.2.1 < Sl.len a.2.2.1.1)=g then(za a.2.2.1.1 a.2.1).bind λb=>if q (b.N_=a.2.2.2.2.1.T_)=g then(za a.2.2.1.1 a.2.1).bind λc=>(A (a.1,a.2.2.2.2.1.K_,c.P_,a.2.2.2.1)).bind λd=>(za a.2.2.1.1 a.2.1).bind λe=>f (Step.done (y (d.1,a.2.2.1,d.2,e.R_))) else f (Step.next (a.1,U8 (a.2.1+1),a.2.2.1,a.2.2.2.1,kr a.2.2.2.2.1,a.2.2.2.2.2)) else f (Step.done (M (a.2.2.1,a.2.2.2.1,a.2.2.2.2.2)))
def q9j(A:zwH)(x:xk):U7 v7:=(lpO (q4h A) (x.1,0,x.2.2.1,x.2.2.2,kr x.2.1,qi.mk (lit []) 0 0)).bind λa=>F (λb=>f (b.2.2.2,b.1,b.2.1,b.2.2.1)) (λb=>f (qi.mk (lit []) 0 0,31,b.1,b.2.1)) a
def q2u:xk->U7 v7:=q9j q3f
theorem qgq:q2u=zpk.F:=by delta q2u;rw[qjz];kernel_rfl
def q9k(A:zwE)(B:zmH)(x:xk):U7 v7:=(if q (x.2.1.k_=5)=g then if q (x.2.1.T_=lit [])=g then f (y (0,x.2.2.1,x.2.2.2,qi.mk (lit []) 1 0)) else(A (x.1,x.2.1.T_,x.2.2.2)).bind λa=>(if q (a.2.1=0)=g then if q (x.2.1.n_≠0)=g then f (a.2.1,q (a.1.M_≠1),x.2.2.1,a.2.2,qi.mk (lit []) 0 0,a.1) else f (a.2.1,N,x.2.2.1,a.2.2,qi.mk (lit []) 0 0,a.1) else f (a.2.1,N,x.2.2.1,a.2.2,qi.mk (lit []) 0 0,a.1)).bind λb=>(if b.2.1=g then f (40,b.2.2) else f (b.1,b.2.2)).bind λc=>f (y (c.1,c.2.1,c.2.2.1,c.2.2.2.2)) else(if q (x.2.1.k_=21)=g then f (x.1,x.2.1.k_,q (x.2.1.k_=21),x.2.2.1,x.2.2.2,kr x.2.1,qi.mk (lit []) 0 0,qi.mk (lit []) 1 0) else f (x.1,x.2.1.k_,q (x.2.1.k_=22),x.2.2.1,x.2.2.2,kr x.2.1,qi.mk (lit []) 0 0,qi.mk (lit []) 1 0)).bind λd=>(if d.2.2.1=g then(za d.2.2.2.2.2.1.K_ 0).bind λe=>(A (d.1,e.T_,d.2.2.2.2.1)).bind λi=>if q (i.2.1≠0)=g then f (y (i.2.1,d.2.2.2.1,i.2.2,i.1)) else(za d.2.2.2.2.2.1.K_ 1).bind λj=>(A (d.1,j.T_,i.2.2)).bind λl=>if q (l.2.1≠0)=g then f (y (l.2.1,d.2.2.2.1,l.2.2,l.1)) else(if q (i.1.M_≠1)=g then f (g,d.2.2.2.1,l.2.2,d.2.2.2.2.2.2.1,d.2.2.2.2.2.2.2,i.1) else f (q (l.1.M_≠1),d.2.2.2.1,l.2.2,d.2.2.2.2.2.2.1,d.2.2.2.2.2.2.2,i.1)).bind λm=>if m.1=g then f (y (40,m.2.1,m.2.2.1,m.2.2.2.2.2)) else f (y (0,m.2.1,m.2.2.1,m.2.2.2.2.1)) else(if q (d.2.1=26)=g then f (d.1,d.2.1,q (d.2.1=26),d.2.2.2.1,d.2.2.2.2.1,kr d.2.2.2.2.2.1,d.2.2.2.2.2.2) else f (d.1,d.2.1,q (d.2.1=27),d.2.2.2.1,d.2.2.2.2.1,kr d.2.2.2.2.2.1,d.2.2.2.2.2.2)).bind λn=>(if n.2.2.1=g then(A (n.1,n.2.2.2.2.2.1.T_,n.2.2.2.2.1)).bind λo=>if q (o.2.1≠0)=g then f (y (o.2.1,n.2.2.2.1,o.2.2,o.1)) else if q (o.1.M_≠2)=g then f (y (40,n.2.2.2.1,o.2.2,o.1)) else(if q (n.2.2.2.2.2.1.k_=27)=g then f (n.2.2.2.1,o.2.2,n.2.2.2.2.2.2.1,qi.mk o.1.N_ 4 o.1.t_) else f (n.2.2.2.1,o.2.2,n.2.2.2.2.2.2.1,qi.mk o.1.N_ 3 o.1.t_)).bind λp=>f (y (0,p.1,p.2.1,p.2.2.2)) else if q (n.2.1=28)=g then(B (n.1,kr n.2.2.2.2.2.1,n.2.2.2.1,n.2.2.2.2.1)).bind λr=>(if q (r.2.1=0)=g then f (r.2.1,q (r.1.M_=0),r.2.2.1,r.2.2.2,n.2.2.2.2.2.2.1,r.1) else f (r.2.1,N,r.2.2.1,r.2.2.2,n.2.2.2.2.2.2.1,r.1)).bind λs=>(if s.2.1=g then f (35,s.2.2) else f (s.1,s.2.2)).bind λt=>f (y (t.1,t.2.1,t.2.2.1,t.2.2.2.2)) else f (M (n.2.2.2.1,n.2.2.2.2.1,n.2.2.2.2.2.2))).bind λo=>F (λp=>f (y p)) (λp=>f (M p)) o).bind λe=>F (λi=>f (y i)) (λi=>f (M i)) e).bind λa=>F (λb=>f (b.2.2.2,b.1,b.2.1,b.2.2.1)) (λb=>f (b.2.2.2,50,b.1,b.2.1)) a
def q3g:xk->U7 v7:=q9k q4u q2u
theorem qk0:q3g=zur.F:=by delta q3g;rw[qgp,qgq];kernel_rfl
def q3y(A:zeC):zqI->U7 (Step zqI zeW):=λa=>if q (a.2.2.2.1 < Sl.len a.2.1)=g then(za a.2.1 a.2.2.2.1).bind λb=>(za a.2.2.2.2 a.2.2.1.1).bind λc=>(z7 c.V_ a.2.2.1.2.1 a.2.2.1.2.2).bind λd=>(za d a.2.2.2.1).bind λe=>(za a.2.2.2.2 a.2.2.1.1).bind λi=>(za i.V_ (a.2.2.1.2.1+a.2.2.2.1)).bind λj=>(A (a.1,kr b,j,a.2.2.2.2)).bind λl=>if q (l.1≠0)=g then f (Step.done (y l)) else f (Step.next (a.1,a.2.1,a.2.2.1,U8 (a.2.2.2.1+1),l.2)) else f (Step.done (M a.2.2.2.2))
def q7t(A:zeC)(x:zqM):U7 Z6:=(za x.2.2.2 x.2.2.1.1).bind λa=>(z7 a.V_ x.2.2.1.2.1 x.2.2.1.2.2).bind λb=>if q (Sl.len x.2.1≠x.2.2.1.2.2 - x.2.2.1.2.1)=g then f (51,x.2.2.2) else(lpO (q3y A) (x.1,x.2.1,x.2.2.1,0,x.2.2.2)).bind λc=>F (λd=>f d) (λd=>f (0,d)) c
def q2v:zqM->U7 Z6:=q7t q1m
theorem qih:q2v=zus.F:=by delta q2v;rw[qdj];kernel_rfl
def q4v(A:zmH)(B:zqF)(C:zmH)(D:zwt)(E:zeC):zqz->U7 (Step zqz zcH):=λa=>if q (a.2.1 < Sl.len a.2.2.2.1)=g then(za a.2.2.2.1 a.2.1).bind λb=>(za a.2.2.2.1 a.2.1).bind λc=>if q (c.N_=a.2.2.2.2.T_)=g then(za a.2.2.2.1 a.2.1).bind λd=>(za a.2.2.2.1 a.2.1).bind λe=>(za a.2.2.2.1 a.2.1).bind λi=>(za a.2.2.2.1 a.2.1).bind λj=>(za a.2.2.2.1 a.2.1).bind λl=>(z7 l.V_ 0 j.P_).bind λm=>(D (a.1,a.2.2.2.2.K_,(a.2.1,0,j.P_),a.2.2.2.1)).bind λn=>f (Step.done (y (n.1,a.2.2.1,n.2))) else f (Step.next (a.1,U8 (a.2.1+1),a.2.2.1,a.2.2.2.1,kr a.2.2.2.2)) else f (Step.done (M (a.2.2.1,a.2.2.2.1)))
def q2w(A:zmH)(B:zqF)(C:zmH)(D:zwt)(E:zeC)(x:xk):U7 vk:=(if q (x.2.1.k_=10)=g then(za x.2.1.K_ 0).bind λa=>(A (x.1,kr a,x.2.2)).bind λb=>if q (b.2.1≠0)=g then f (y b.2) else(B (x.1,x.2.1.T_,b.2.2.2)).bind λc=>if q (c.1 < 0)=g then(za c.2 x.1).bind λd=>(za c.2 x.1).bind λe=>(zo 32 e.V_ [qi.mk x.2.1.T_ b.1.M_ b.1.t_]).bind λi=>(za c.2 x.1).bind λj=>bif q (x.1=x.1) then f (y (0,b.2.2.1,Sl.set c.2 x.1 (qg.mk j.N_ j.P_ i))) else W else(za c.2 x.1).bind λl=>(za c.2 x.1).bind λm=>(za m.V_ c.1).bind λn=>(za c.2 x.1).bind λo=>(za o.V_ c.1).bind λp=>if(!(q (p.N_=x.2.1.T_) && (q (p.M_=b.1.M_) && (q (p.t_=b.1.t_) && g))))=g then f (y (40,b.2.2.1,c.2)) else f (y (0,b.2.2.1,c.2)) else(if q (x.2.1.k_=20)=g then(za x.2.1.K_ 0).bind λr=>(C (x.1,kr r,x.2.2)).bind λs=>f (y s.2) else(if q (x.2.1.k_=19)=g then(lpO (q4v A B C D E) (x.1,0,x.2.2.1,x.2.2.2,kr x.2.1)).bind λt=>F (λu=>f (y u)) (λu=>f (y (31,u))) t else(if q (x.2.1.k_=15)=g then f (x.1,x.2.1.k_,q (x.2.1.k_=15),x.2.2.1,x.2.2.2,kr x.2.1,qi.mk (lit []) 1 0) else f (x.1,x.2.1.k_,q (x.2.1.k_=16),x.2.2.1,x.2.2.2,kr x.2.1,qi.mk (lit []) 1 0)).bind λu=>(if u.2.2.1=g then(za u.2.2.2.2.2.1.K_ 0).bind λv=>(E (u.1,kr v,u.2.2.2.2.2.2,u.2.2.2.2.1)).bind λw=>if q (w.1≠0)=g then f (y (w.1,u.2.2.2.1,w.2)) else(za u.2.2.2.2.2.1.K_ 1).bind λz=>(E (u.1,kr z,u.2.2.2.2.2.2,w.2)).bind λG=>f (y (G.1,u.2.2.2.1,G.2)) else(if q (u.2.1=17)=g then if q (0 < u.2.2.2.2.2.1.K_.len)=g then f (y (35,u.2.2.2.1,u.2.2.2.2.1)) else f (y (0,u.2.2.2.1,u.2.2.2.2.1)) else if q (u.2.1=18)=g then f (y (0,u.2.2.2.1,u.2.2.2.2.1)) else f (M (u.2.2.2.1,u.2.2.2.2.1))).bind λH=>F (λI=>f (y I)) (λI=>f (M I)) H).bind λv=>F (λw=>f (y w)) (λw=>f (M w)) v).bind λt=>F (λu=>f (y u)) (λu=>f (M u)) t).bind λr=>F (λs=>f (y s)) (λs=>f (M s)) r).bind λa=>F (λb=>f b) (λb=>f (50,b)) a
def q1i:xk->U7 vk:=q2w q3g q2j q2u q2v q1m
theorem qki:q1i=zlO.F:=by delta q1i;rw[qk0,qf7,qgq,qih,qdj];kernel_rfl
def q55(A:zvE)(B:zd5)(C:zii):zqm->U7 (Step zqm zez):=λa=>if q (a.2.2.2.1 < a.2.2.2.2.2.2.K_.len)=g then(za a.2.2.2.2.2.2.K_ a.2.2.2.1).bind λb=>(C (a.1,b.K_,a.2.2.2.2.1,a.2.2.2.2.2.1)).bind λc=>f (Step.next (a.1,a.2.1,a.2.2.1,U8 (a.2.2.2.1+1),c.1,c.2,kr a.2.2.2.2.2.2)) else f (Step.done (a.1,a.2.1,a.2.2.1,a.2.2.2.2.1,a.2.2.2.2.2.1))
def q3k(A:zvE)(B:zd5)(C:zii):zez->U7 (Step zez zwm):=λa=>(if q (a.2.2.1 < Sl.len a.2.1)=g then f (a.1,a.2.1,a.2.2.1,q (a.2.2.2.1.2.2.2=0),a.2.2.2) else f (a.1,a.2.1,a.2.2.1,N,a.2.2.2)).bind λb=>if b.2.2.2.1=g then(za b.2.1 b.2.2.1).bind λc=>(A (b.1,kr c,b.2.2.2.2)).bind λd=>if q (d.1≠0)=g then(B (c.a_,d)).bind λe=>f (Step.done (y e)) else(if q (c.k_=15)=g then f (b.1,b.2.1,b.2.2.1,g,d.2.1,d.2.2,kr c) else f (b.1,b.2.1,b.2.2.1,q (c.k_=16),d.2.1,d.2.2,kr c)).bind λi=>(if i.2.2.2.1=g then(lpO (q55 A B C) (i.1,i.2.1,i.2.2.1,2,i.2.2.2.2.1,i.2.2.2.2.2.1,kr i.2.2.2.2.2.2)).bind λj=>f j else f (i.1,i.2.1,i.2.2.1,i.2.2.2.2.1,i.2.2.2.2.2.1)).bind λj=>f (Step.next (j.1,j.2.1,U8 (j.2.2.1+1),j.2.2.2)) else f (Step.done (M b.2.2.2.2))
def q6l(A:zvE)(B:zd5)(C:zii)(x:zwI):U7 ZA:=(lpO (q3k A B C) (x.1,x.2.1,0,x.2.2)).bind λa=>F (λb=>f b) (λb=>f b) a
def q58(h:zcF):zcF:=q6l q1i q1b h
theorem qii(h:zcF):@Eq zcF (zjj h) (q58 h):=by delta q58;rw[qki,qdi];kernel_rfl
def q2x:Nat->zwI->U7 ZA
 |0=>λ_=>W
 |k+1=>q58 (q2x k)
theorem qf8:∀k,@Eq zcF (zgG k) (q2x k)
 |0=>rfl
 |k+1=>(qii (zgG k)).trans (congrArg q58 (qf8 k))
def q4i:zcF:=q2x 100000
theorem qj5:@Eq zcF zzG q4i:=qf8 100000
def qdu(x:q6):U7 qp:=f (qp.mk x.T_ x.n_)
def q1y:WB:=qdu
theorem qbu:q1y=zcj.F:=by kernel_rfl
def q6j(A:WB):zrk->U7 (Step zrk (Sl qp)):=λa=>if q (a.2.1 < Sl.len a.1)=g then(za a.1 a.2.1).bind λb=>(A (kr b)).bind λc=>(zo 24 a.2.2 [c]).bind λd=>f (Step.next (a.1,U8 (a.2.1+1),d)) else f (Step.done a.2.2)
def qc5(A:WB)(x:GZ):U7 (Sl qp):=(lpO (q6j A) (x,0,O [] N)).bind λa=>f a
def q5j:GZ->U7 (Sl qp):=qc5 q1y
theorem qg3:q5j=zpm.F:=by delta q5j;rw[qbu];kernel_rfl
def qac(A:WB)(B:GZ->U7 (Sl qp))(x:q6):U7 zjr:=(za x.K_ 0).bind λa=>(if q (a.k_=26)=g then f (a.k_,q (a.k_=26),(0,0,lit [],lit [],lit [],0,lit [],0,0,N),kr a,0,x.a_,x.T_,lit [],a.T_,a.n_,lit [],0,0,N) else f (a.k_,q (a.k_=27),(0,0,lit [],lit [],lit [],0,lit [],0,0,N),kr a,0,x.a_,x.T_,lit [],a.T_,a.n_,lit [],0,0,N)).bind λ(b:Int×Bool×(Int×Int×U5×U5×U5×Int×U5×Int×Int×Bool)×q6×Int×Int×U5×U5×U5×Int×U5×Int×Int×Bool)=>(if b.2.1=g then f (b.2.2.1,(b.2.2.2.2.1,b.2.2.2.2.2.1,b.2.2.2.2.2.2.1,b.2.2.2.2.2.2.2.1,b.2.2.2.1.T_,0,b.2.2.2.2.2.2.2.2.2.2),O [] N) else(if q (b.1=21)=g then(za b.2.2.2.1.K_ 0).bind λc=>(A (kr c)).bind λd=>(za b.2.2.2.1.K_ 1).bind λe=>(A (kr e)).bind λi=>f (b.2.2.1,(1,b.2.2.2.2.2.1,b.2.2.2.2.2.2.1,b.2.2.2.2.2.2.2.1,d.N_,d.n_,i.N_,i.n_,b.2.2.2.2.2.2.2.2.2.2.2.2),O [] N) else(if q (b.1=22)=g then(za b.2.2.2.1.K_ 0).bind λj=>(A (kr j)).bind λl=>(za b.2.2.2.1.K_ 1).bind λm=>(A (kr m)).bind λn=>f (b.2.2.1,(2,b.2.2.2.2.2.1,b.2.2.2.2.2.2.1,b.2.2.2.2.2.2.2.1,l.N_,l.n_,n.N_,n.n_,b.2.2.2.2.2.2.2.2.2.2.2.2),O [] N) else(if q (b.1=23)=g then f (b.2.2.1,(3,b.2.2.2.2.2.1,b.2.2.2.2.2.2.1,b.2.2.2.2.2.2.2.1,lit [],b.2.2.2.1.n_,b.2.2.2.2.2.2.2.2.2.2),O [] N) else(if q (b.1=24)=g then f (b.2.2.1,(4,b.2.2.2.2.2.1,b.2.2.2.2.2.2.1,b.2.2.2.2.2.2.2.1,b.2.2.2.1.T_,0,b.2.2.2.2.2.2.2.2.2.2),O [] N) else(if q (b.1=25)=g then(za b.2.2.2.1.K_ 0).bind λo=>(A (kr o)).bind λp=>f (b.2.2.1,(5,b.2.2.2.2.2.1,b.2.2.2.2.2.2.1,b.2.2.2.1.T_,p.N_,p.n_,b.2.2.2.2.2.2.2.2.2.2),O [] N) else(if q (b.1=28)=g then(B b.2.2.2.1.K_).bind λr=>f (b.2.2.1,(12,b.2.2.2.2.2.1,b.2.2.2.2.2.2.1,b.2.2.2.1.T_,lit [],0,b.2.2.2.2.2.2.2.2.2.2),r) else f (b.2.2.1,b.2.2.2.2,O [] N)).bind λ(r:tA1)=>f r).bind λ(o:tA1)=>f o).bind λ(o:tA1)=>f o).bind λ(o:tA1)=>f o).bind λ(j:tA1)=>f j).bind λ(c:tA1)=>f c).bind λ(c:tA1)=>f c.2
def q6a:zcE:=qac q1y q5j
theorem qkj:q6a=zuu.F:=by delta q6a;rw[qbu,qg3];kernel_rfl
def q8a(A:zcE)(B:WB)(C:GZ->U7 (Sl qp))(x:q6):U7 zjr:=if q (x.k_=10)=g then(A (kr x)).bind λa=>f a else(if q (x.k_=11)=g then(za x.K_ 0).bind λb=>(B (kr b)).bind λc=>(za x.K_ 1).bind λd=>(B (kr d)).bind λe=>f ((0,0,lit [],lit [],lit [],0,lit [],0,0,N),(6,x.a_,lit [],x.T_,c.N_,c.n_,e.N_,e.n_,0,N),O [] N) else(if q (x.k_=12)=g then f ((0,0,lit [],lit [],lit [],0,lit [],0,0,N),(7,x.a_,lit [],x.T_,lit [],0,lit [],0,0,N),O [] N) else(if q (x.k_=13)=g then f ((0,0,lit [],lit [],lit [],0,lit [],0,0,N),(8,x.a_,lit [],x.T_,lit [],x.n_,lit [],0,0,N),O [] N) else(if q (x.k_=14)=g then f ((0,0,lit [],lit [],lit [],0,lit [],0,0,N),(9,x.a_,lit [],x.T_,lit [],x.n_,lit [],0,0,N),O [] N) else(if q (x.k_=20)=g then(za x.K_ 0).bind λi=>(za x.K_ 0).bind λj=>(C j.K_).bind λl=>f ((0,0,lit [],lit [],lit [],0,lit [],0,0,N),(12,x.a_,lit [],i.T_,lit [],0,lit [],0,0,N),l) else(if q (x.k_=19)=g then(C x.K_).bind λm=>f ((0,0,lit [],lit [],lit [],0,lit [],0,0,N),(13,x.a_,lit [],x.T_,lit [],0,lit [],0,0,N),m) else(if q (x.k_=17)=g then(if q (0 < x.K_.len)=g then(za x.K_ 0).bind λn=>(B (kr n)).bind λo=>f ((0,0,lit [],lit [],lit [],0,lit [],0,0,N),14,x.a_,lit [],lit [],o.N_,o.n_,lit [],0,0,g) else f ((0,0,lit [],lit [],lit [],0,lit [],0,0,N),14,x.a_,lit [],lit [],lit [],0,lit [],0,0,N)).bind λ(n:tA5)=>f n else(if q (x.k_=18)=g then f ((0,0,lit [],lit [],lit [],0,lit [],0,0,N),15,x.a_,lit [],lit [],lit [],0,lit [],0,0,N) else f ((0,0,lit [],lit [],lit [],0,lit [],0,0,N),0,x.a_,lit [],x.T_,lit [],0,lit [],0,0,N)).bind λ(o:tA5)=>f o).bind λ(n:tA5)=>f (n.1,n.2,O [] N)).bind λ(m:tA1)=>f m).bind λ(i:tA1)=>f i).bind λ(i:tA1)=>f i).bind λ(i:tA1)=>f i).bind λ(i:tA1)=>f i).bind λ(b:tA1)=>f b.2
def q21:zcE:=q8a q6a q1y q5j
theorem qj6:q21=zlP.F:=by delta q21;rw[qkj,qbu,qg3];kernel_rfl
def q50(A:zcE)(B:WB)(C:zeT):zqu->U7 (Step zqu zw0):=λa=>if q (a.2.2.2.2.1 < Sl.len a.2.2.2.2.2.2.2.2)=g then(za a.2.2.2.2.2.2.2.2 a.2.2.2.2.1).bind λb=>(za a.2.2.2.2.2.2.2.2 a.2.2.2.2.1).bind λc=>(zo 136 a.2.2.2.2.2.2.1 [c]).bind λd=>f (Step.next (a.1,a.2.1,a.2.2.1,a.2.2.2.1,U8 (a.2.2.2.2.1+1),kr a.2.2.2.2.2.1,d,kr a.2.2.2.2.2.2.2.1,a.2.2.2.2.2.2.2.2)) else f (Step.done (a.1,a.2.1,a.2.2.1,a.2.2.2.1,kr a.2.2.2.2.2.1,a.2.2.2.2.2.2.1,kr a.2.2.2.2.2.2.2.1))
def q51(A:zcE)(B:WB)(C:zeT):zqU->U7 (Step zqU zeV):=λa=>if q (a.2.2.1 < Sl.len a.2.2.2.2.2)=g then(za a.2.2.2.2.2 a.2.2.1).bind λb=>(za a.2.2.2.2.2 a.2.2.1).bind λc=>(zo 136 a.2.2.2.2.1 [c]).bind λd=>f (Step.next (a.1,a.2.1,U8 (a.2.2.1+1),kr a.2.2.2.1,d,a.2.2.2.2.2)) else f (Step.done (a.1,a.2.1,kr a.2.2.2.1,a.2.2.2.2.1))
def q3j(A:zcE)(B:WB)(C:zeT):zeV->U7 (Step zeV (Sl qq)):=λa=>if q (a.2.1 < a.2.2.1.K_.len)=g then((za a.2.2.1.K_ a.2.1).bind λb=>(if q (b.k_≠15)=g then f (a.1,a.2.1,U8 (a.1+Sl.len a.2.2.2),q (b.k_≠16),kr a.2.2.1,a.2.2.2,kr b) else f (a.1,a.2.1,U8 (a.1+Sl.len a.2.2.2),N,kr a.2.2.1,a.2.2.2,kr b)).bind λc=>if c.2.2.2.1=g then(A (kr c.2.2.2.2.2.2)).bind λd=>(zo 136 c.2.2.2.2.2.1 [qq.mk d.1.1 d.1.2.1 d.1.2.2.1 d.1.2.2.2.1 (qp.mk d.1.2.2.2.2.1 d.1.2.2.2.2.2.1) (qp.mk d.1.2.2.2.2.2.2.1 d.1.2.2.2.2.2.2.2.1) d.2 d.1.2.2.2.2.2.2.2.2.1 d.1.2.2.2.2.2.2.2.2.2]).bind λe=>f (c.1,c.2.1,kr c.2.2.2.2.1,e) else(za c.2.2.2.2.2.2.K_ 0).bind λi=>(B (kr i)).bind λj=>(za c.2.2.2.2.2.2.K_ 1).bind λl=>(B (kr l)).bind λm=>(za c.2.2.2.2.2.2.K_ 2).bind λn=>(C (kr n,U8 (c.2.2.1+1))).bind λo=>(zo 136 c.2.2.2.2.2.1 [qq.mk 10 c.2.2.2.2.2.2.a_ c.2.2.2.2.2.2.T_ (lit []) j m (O [] N) (U8 (U8 (U8 (c.2.2.1+1)+o.len)+1)) N]).bind λp=>(lpO (q50 A B C) (c.1,c.2.1,c.2.2.1,U8 (U8 (c.2.2.1+1)+o.len),0,kr c.2.2.2.2.1,p,kr c.2.2.2.2.2.2,o)).bind λr=>if q (r.2.2.2.2.2.2.k_=16)=g then(zo 136 r.2.2.2.2.2.1 [qq.mk 11 r.2.2.2.2.2.2.a_ (lit []) (lit []) (qp.mk (lit []) 0) (qp.mk (lit []) 0) (O [] N) r.2.2.1 N]).bind λs=>f (r.1,r.2.1,kr r.2.2.2.2.1,s) else(za r.2.2.2.2.2.2.K_ 3).bind λt=>(C (kr t,U8 (r.2.2.2.1+1))).bind λu=>(zo 136 r.2.2.2.2.2.1 [qq.mk 11 r.2.2.2.2.2.2.a_ (lit []) (lit []) (qp.mk (lit []) 0) (qp.mk (lit []) 0) (O [] N) (U8 (U8 (r.2.2.2.1+1)+u.len)) N]).bind λv=>(lpO (q51 A B C) (r.1,r.2.1,0,kr r.2.2.2.2.1,v,u)).bind λw=>f (w.1,w.2.1,kr w.2.2.1,w.2.2.2)).bind λb=>f (Step.next (b.1,U8 (b.2.1+1),kr b.2.2.1,b.2.2.2)) else f (Step.done a.2.2.2)
def q6m(A:zcE)(B:WB)(C:zeT)(x:q6×Int):U7 (Sl qq):=(lpO (q3j A B C) (x.2,0,kr x.1,O [] N)).bind λa=>f a
def q59(h:Vb):Vb:=q6m q21 q1y h
theorem qij(h:Vb):@Eq Vb (zjk h) (q59 h):=by delta q59;rw[qj6,qbu];kernel_rfl
def q2h:Nat->(q6×Int)->U7 (Sl qq)
 |0=>λ_=>W
 |k+1=>q59 (q2h k)
theorem qf9:∀k,@Eq Vb (zgH k) (q2h k)
 |0=>rfl
 |k+1=>(qij (zgH k)).trans (congrArg q59 (qf9 k))
def q4e:Vb:=q2h 100000
theorem qj7:@Eq Vb zzI q4e:=qf9 100000
def q52(A:zeT):zqv->U7 (Step zqv zwK):=λa=>if q (a.2.1 < U8 (a.1 - 1))=g then(za a.2.2.1.K_ a.2.1).bind λb=>(zo 16 a.2.2.2.2.2 [b.T_]).bind λc=>f (Step.next (a.1,U8 (a.2.1+1),kr a.2.2.1,a.2.2.2.1,a.2.2.2.2.1,c)) else f (Step.done (a.1,kr a.2.2.1,a.2.2.2))
def q8b(A:zeT)(x:q6):U7 zq0:=(lpO (q52 A) (U8 (x.K_.len - 1),0,kr x,lit [],x.T_,O [] N)).bind λa=>(za a.2.1.K_ a.1).bind λb=>(A (kr b,0)).bind λc=>(za a.2.1.K_ a.1).bind λd=>(zo 136 c [qq.mk 14 d.a_ (lit []) (lit []) (qp.mk (lit []) 0) (qp.mk (lit []) 0) (O [] N) 0 N]).bind λe=>f (a.2.2.2.1,a.2.2.2.2,e)
def q2d:zcK:=q8b q4e
theorem qg4:q2d=zpo.F:=by delta q2d;rw[<-qj7];kernel_rfl
def q3l(A:zd5)(B:zvB)(C:zii)(D:zcK):xk->U7 (Step xk zha):=λa=>(if q (a.1 < a.2.1.K_.len)=g then f (a.1,q (a.2.2.1.2.2.2=0),kr a.2.1,a.2.2) else f (a.1,N,kr a.2.1,a.2.2)).bind λb=>if b.2.1=g then(za b.2.2.1.K_ b.1).bind λc=>if q (c.k_≠6)=g then(za b.2.2.1.K_ b.1).bind λd=>(A (d.a_,50,b.2.2.2)).bind λe=>f (Step.done (kr b.2.2.1,e)) else(za b.2.2.1.K_ b.1).bind λi=>(B (kr i,b.2.2.2)).bind λj=>(zo 48 j.2.2.1 [qg.mk j.1.1 j.1.2 j.2.2.2]).bind λl=>f (Step.next (U8 (b.1+1),kr b.2.2.1,j.2.1,l)) else f (Step.done (kr b.2.2.1,b.2.2.2))
def q3m(A:zd5)(B:zvB)(C:zii)(D:zcK):xk->U7 (Step xk ZA):=λa=>(if q (a.1 < a.2.1.K_.len)=g then f (a.1,q (a.2.2.1.2.2.2=0),kr a.2.1,a.2.2) else f (a.1,N,kr a.2.1,a.2.2)).bind λb=>if b.2.1=g then(za b.2.2.1.K_ b.1).bind λc=>(za b.2.2.2.2 b.1).bind λd=>(za c.K_ (U8 (c.K_.len - 1))).bind λe=>(C (b.1,e.K_,b.2.2.2)).bind λi=>(D (kr c)).bind λj=>((za i.2 b.1).bind λl=>(za i.2 b.1).bind λm=>(za i.2 b.1).bind λn=>if q (64 < n.V_.len)=g then f (b.1,g,kr b.2.2.1,i.1,kr c,i.2) else f (b.1,q (512 < Sl.len j.2.2),kr b.2.2.1,i.1,kr c,i.2)).bind λl=>(if l.2.1=g then(A (l.2.2.2.2.1.a_,22,l.2.2.2.1,l.2.2.2.2.2)).bind λm=>f (l.1,kr l.2.2.1,m) else f (l.1,kr l.2.2.1,l.2.2.2.1,l.2.2.2.2.2)).bind λm=>f (Step.next (U8 (m.1+1),kr m.2.1,m.2.2)) else f (Step.done b.2.2.2)
def q8d(A:zd5)(B:zvB)(C:zii)(D:zcK)(x:zrm):U7 ZA:=(lpO (q3l A B C D) (0,kr x.1,(x.2.1,x.2.2,0,0),O [] N)).bind λa=>(lpO (q3m A B C D) (0,kr a.1,a.2)).bind λb=>(if q (b.1.2.2.2≠0)=g then f (b.1,O [] N) else f b).bind λc=>f c
def q3v:zrm->U7 ZA:=q8d q1b q47 q4i q2d
theorem qj8:q3v=zuw.F:=by delta q3v;rw[qdi,qjy,<-qj5,qg4];kernel_rfl
def q4q(A:zj1)(B:zeI)(C:zeJ)(D:zwL)(E:zwr)(G:zcR)(H:zcK):zp7->U7 (Step zp7 zwn):=λa=>if q (a.2.2.2.1 < a.2.2.1)=g then(za a.2.1 a.2.2.2.1).bind λb=>(if q (b.k_=6)=g then(G (ke b)).bind λc=>(zo 64 a.2.2.2.2.2.2.2.2.2.1 [c]).bind λd=>(za a.2.2.2.2.2.1.K_ a.2.2.2.1).bind λe=>(H (kr e)).bind λi=>(zo 64 a.2.2.2.2.2.2.2.2.2.2 [q1k.mk i.1 i.2.1 i.2.2]).bind λj=>f (a.1,a.2.1,a.2.2.1,a.2.2.2.1,a.2.2.2.2.1,kr a.2.2.2.2.2.1,a.2.2.2.2.2.2.1,a.2.2.2.2.2.2.2.1,a.2.2.2.2.2.2.2.2.1,d,j) else f (a.1,a.2.1,a.2.2.1,a.2.2.2.1,a.2.2.2.2.1,kr a.2.2.2.2.2.1,a.2.2.2.2.2.2)).bind λc=>f (Step.next (c.1,c.2.1,c.2.2.1,U8 (c.2.2.2.1+1),c.2.2.2.2.1,kr c.2.2.2.2.2.1,c.2.2.2.2.2.2)) else f (Step.done (a.1,a.2.2.2.2.1,a.2.2.2.2.2.2))
def q7u(A:zj1)(B:zeI)(C:zeJ)(D:zwL)(E:zwr)(G:zcR)(H:zcK)(x:xp):U7 zkk:=(A x.1).bind λa=>(B x.2).bind λb=>(if(!a.2)=g then f (x.2,g,a.1,ke b.1) else f (x.2,q (b.2.2≠0),a.1,ke b.1)).bind λc=>if c.2.1=g then f (c.2.2.1,q1r.mk (O [] N) (O [] N) (O [] N) (O [] N),N) else(C c.1).bind λd=>(D (ke c.2.2.2,c.2.2.1.s_,c.2.2.1.I_)).bind λe=>(E (kr d.1,c.2.2.1.q_,c.2.2.1.j_)).bind λi=>(lpO (q4q A B C D E G H) (e.2.1,c.2.2.2.K_,c.2.2.2.K_.len,0,c.2.2.1,kr d.1,e.2.2,i.1,i.2,O [] N,O [] N)).bind λj=>(if q (j.1=0)=g then if q (j.2.2.2.1.2.2.2=0)=g then if q (Sl.len j.2.2.1=Sl.len j.2.2.2.2.2.1)=g then f (q (Sl.len j.2.2.2.2.1=Sl.len j.2.2.1),j.2.1,j.2.2.1,j.2.2.2.2.2.1,j.2.2.2.2.1,j.2.2.2.2.2.2) else f (N,j.2.1,j.2.2.1,j.2.2.2.2.2.1,j.2.2.2.2.1,j.2.2.2.2.2.2) else f (N,j.2.1,j.2.2.1,j.2.2.2.2.2.1,j.2.2.2.2.1,j.2.2.2.2.2.2) else f (N,j.2.1,j.2.2.1,j.2.2.2.2.2.1,j.2.2.2.2.1,j.2.2.2.2.2.2)).bind λl=>f (l.2.1,q1r.mk l.2.2.1 l.2.2.2.1 l.2.2.2.2.1 l.2.2.2.2.2,l.1)
def q3n:xp->U7 zkk:=q7u q3a q5v q2o q7m q3v q4x q2d
theorem qik:q3n=zux.F:=by delta q3n;rw[qhx,<-qir,qg1,<-qlu,qj8,qkw,qg4];kernel_rfl
def q56(A:zwJ):zqP->U7 (Step zqP (Sl ql×Sl q15)):=λa=>if q (a.2.1 < a.1)=g then(za a.2.2.2.1.w_ a.2.1).bind λb=>(za a.2.2.2.1.J_ a.2.1).bind λc=>(zo 184 a.2.2.2.2.1 [ql.mk b c a.2.2.1.s_ a.2.2.2.1.J_ a.2.2.1.I_]).bind λd=>(za a.2.2.2.1.g_ a.2.1).bind λe=>(za a.2.2.2.1.r_ a.2.1).bind λi=>(zo 8 a.2.2.2.2.2 [q15.mk e i a.2.2.1.q_ a.2.2.2.1.r_ a.2.2.1.j_]).bind λj=>f (Step.next (a.1,U8 (a.2.1+1),a.2.2.1,a.2.2.2.1,d,j)) else f (Step.done a.2.2.2.2)
def q8e(A:zwJ)(x:xp):U7 zhi:=(A x).bind λa=>if(!a.2.2)=g then f (N,O [] N,O [] N) else(lpO (q56 A) (a.2.1.J_.len,0,a.1,a.2.1,O [] N,O [] N)).bind λb=>f (g,b)
def q1x:xp->U7 zhi:=q8e q3n
theorem qg5:q1x=zpp.F:=by delta q1x;rw[qik];kernel_rfl
def qe7(x:yn):U7 xl:=(zo 8 x.2.2.1 [x.1]).bind λa=>f (x.2.1,x.2.2.2,a)
def qch:yn->U7 xl:=qe7
theorem qlc:qch=zpq.F:=by kernel_rfl
def qer(x:yb):U7 yn:=f (Sl.len x.2.1,x)
def q84:yb->U7 yn:=qer
theorem qfj:q84=zhY.F:=by kernel_rfl
def qe8(x:Xs):U7 Wy:=(za x.2.2.2.1 x.1).bind λa=>(za x.2.2.2.1 x.1).bind λb=>(za x.2.2.2.1 x.2.1).bind λc=>(za x.2.2.2.1 x.2.1).bind λd=>f (q (U8 (x.2.2.1 * b) < U8 (x.2.2.1 * d)),x.2.2)
def qa2:Xs->U7 Wy:=qe8
theorem qhi:qa2=zlQ.F:=by kernel_rfl
def qe9(x:Xs):U7 yb:=(za x.2.2.2.1 x.2.1).bind λa=>(za x.2.2.2.1 x.2.1).bind λb=>(za x.2.2.2.1 x.1).bind λc=>(za x.2.2.2.1 x.1).bind λd=>(za x.2.2.2.1 x.1).bind λe=>(za x.2.2.2.1 x.1).bind λi=>(za (Sl.set x.2.2.2.1 x.1 b) x.2.1).bind λj=>(za (Sl.set x.2.2.2.1 x.1 b) x.2.1).bind λl=>f (x.2.2.1,(Sl.set x.2.2.2.1 x.1 b).set x.2.1 d,x.2.2.2.2)
def q7k:Xs->U7 yb:=qe9
theorem qeu:q7k=zhZ.F:=by kernel_rfl
def qga(A:zmF)(B:zmG):yn->U7 (Step yn yb):=λa=>(if q (U8 ((U8 (a.1 - 1)).tdiv 2)=a.1)=g then f (a.1,U8 ((U8 (a.1 - 1)).tdiv 2),g,a.2) else(A (a.1,U8 ((U8 (a.1 - 1)).tdiv 2),a.2)).bind λb=>f (a.1,U8 ((U8 (a.1 - 1)).tdiv 2), !b.1,b.2)).bind λb=>if b.2.2.1=g then f (Step.done b.2.2.2) else(B (b.2.1,b.1,b.2.2.2)).bind λc=>f (Step.next (b.2.1,c))
def qdb(A:zmF)(B:zmG)(x:yn):U7 yb:=(lpO (qga A B) x).bind λa=>f a
def qb5:yn->U7 yb:=qdb qa2 q7k
theorem qkk:qb5=zuy.F:=by delta qb5;rw[qhi,qeu];kernel_rfl
def qc6(A:zd4)(B:zmJ)(C:yn->U7 yb)(x:yn):U7 xl:=(A x).bind λa=>(B (a.1,a.2.2,a.2.1)).bind λb=>(C (U8 (b.1 - 1),b.2)).bind λc=>f (c.1,c.2.2,c.2.1)
def q9p:yn->U7 xl:=qc6 qch q84 qb5
theorem qj9:q9p=zuz.F:=by delta q9p;rw[qlc,qfj,qkk];kernel_rfl
def qes(A:zd4)(x:yn):U7 xl:=(if(!yj x.1 N x.2.2.2.2.xs)=g then(A (x.1,x.2.1,x.2.2.1,x.2.2.2.1,O (Yd x.1 g x.2.2.2.2.xs) g)).bind λa=>f a else f (x.2.1,x.2.2.2,x.2.2.1)).bind λa=>f a
def qaq:yn->U7 xl:=qes q9p
theorem qhw:qaq=zpr.F:=by delta qaq;rw[qj9];kernel_rfl
def qey(A:zmF)(B:zmG):zjA->U7 (Step zjA Xs):=λa=>((if q (a.2.1<=U8 (U8 (2 * a.2.2.1)+1))=g then f (a.1,a.2.1,a.2.2.1,U8 (U8 (2 * a.2.2.1)+1),g,a.2.2.2) else f (a.1,a.2.1,a.2.2.1,U8 (U8 (2 * a.2.2.1)+1),q (U8 (U8 (2 * a.2.2.1)+1) < 0),a.2.2.2)).bind λb=>if b.2.2.2.2.1=g then f (y (b.1,b.2.2.1,b.2.2.2.2.2)) else(if q (U8 (b.2.2.2.1+1) < b.2.1)=g then(A (U8 (b.2.2.2.1+1),b.2.2.2.1,b.2.2.2.2.2)).bind λc=>f (b.1,b.2.1,b.2.2.1,b.2.2.2.1,U8 (b.2.2.2.1+1),c) else f (b.1,b.2.1,b.2.2.1,b.2.2.2.1,U8 (b.2.2.2.1+1),N,b.2.2.2.2.2)).bind λc=>(if c.2.2.2.2.2.1=g then f (c.1,c.2.1,c.2.2.1,c.2.2.2.2.1,c.2.2.2.2.2.2) else f (c.1,c.2.1,c.2.2.1,c.2.2.2.1,c.2.2.2.2.2.2)).bind λd=>(A (d.2.2.2.1,d.2.2.1,d.2.2.2.2)).bind λe=>if(!e.1)=g then f (y (d.1,d.2.2.1,e.2)) else(B (d.2.2.1,d.2.2.2.1,e.2)).bind λi=>f (M (d.1,d.2.1,d.2.2.2.1,i))).bind λb=>F (λc=>f (Step.done c)) (λc=>f (Step.next c)) b
def qc7(A:zmF)(B:zmG)(x:Xs):U7 Wy:=(lpO (qey A B) (x.1,x.2.1,x.1,x.2.2)).bind λa=>f (q (a.1 < a.2.1),a.2.2)
def q9q:Xs->U7 Wy:=qc7 qa2 q7k
theorem qja:q9q=zuA.F:=by delta q9q;rw[qhi,qeu];kernel_rfl
def qet(x:yb):U7 v6:=(za x.2.1 (U8 (Sl.len x.2.1 - 1))).bind λa=>(za x.2.1 (U8 (Sl.len x.2.1 - 1))).bind λb=>(z7 x.2.1 0 (U8 (Sl.len x.2.1 - 1))).bind λc=>f (b,x.1,x.2.2,c)
def qdc:yb->U7 v6:=qet
theorem qlj:qdc=zps.F:=by kernel_rfl
def qcu(A:zmJ)(B:zmG)(C:zmF)(D:zp5)(x:yb):U7 v6:=(A x).bind λa=>(B (0,U8 (a.1 - 1),a.2)).bind λb=>(C (0,U8 (a.1 - 1),b)).bind λc=>(D c.2).bind λd=>f d
def qaj:yb->U7 v6:=qcu q84 q7k q9q qdc
theorem qk1:qaj=zuB.F:=by delta qaj;rw[qfj,qeu,qja,qlj];kernel_rfl
def qak(x:Us):U7 Us:=if(!x.nn)=g then f (O [] N) else(zo 1 (O [] g) x.xs).bind λa=>f a
def q5q:zhf:=qak
theorem qed:q5q=zlR.F:=by kernel_rfl
def qax(x:ql×Int):U7 Vi:=(if q (x.2 < 0)=g then f (x.2,g,x.1,0,0,lit [],lit [],lit [],0,lit [],0,0,N) else f (x.2,q (x.1.c_.L_.len<=x.2),x.1,0,0,lit [],lit [],lit [],0,lit [],0,0,N)).bind λ(a:Int×Bool×ql×Int×Int×U5×U5×U5×Int×U5×Int×Int×Bool)=>if a.2.1=g then f (qm.mk 0 0 (lit []) (lit []) (qz.mk (lit []) 0) (qz.mk (lit []) 0) (O [] N) 0 N,N) else(za a.2.2.1.c_.L_ a.1).bind λb=>f (b,g)
def q1q:ql×Int->U7 Vi:=qax
theorem q8w:q1q=zdI.F:=by kernel_rfl
def qb3(A:zcO)(B:vm)(x:ql×Int):U7 zhj:=(A x).bind λa=>(if(!a.2)=g then f (g,x.1,qh.mk (lit []) 0 0,qh.mk (lit []) 0 0,a.1) else if q (a.1.O_≠0)=g then f (g,x.1,qh.mk (lit []) 0 0,qh.mk (lit []) 0 0,a.1) else if q (a.1.A_.N_=lit [])=g then f (g,x.1,qh.mk (lit []) 0 0,qh.mk (lit []) 0 0,a.1) else f (q (a.1.A_.n_≠0),x.1,qh.mk (lit []) 0 0,qh.mk (lit []) 0 0,a.1)).bind λb=>if b.1=g then f (b.2.2.1,b.2.2.2.1, -1,N) else(B (b.2.1.F_,b.2.2.2.2.A_.N_)).bind λc=>(za b.2.1.F_.V_ c).bind λd=>(B (b.2.1.F_,b.2.2.2.2.X_)).bind λe=>(za b.2.1.F_.V_ e).bind λi=>f (i,d,c,g)
def q31:ql×Int->U7 zhj:=qb3 q1q q1o
theorem qh7:q31=zpt.F:=by delta q31;rw[q8w,q7h];kernel_rfl
def qb0(x:ql×qh):Ul:=(if q (x.2.M_=2)=g then(za x.1.W_ x.2.t_).bind λa=>f (q (a.S_≠3)) else f N).bind λa=>f a
def q48:ql×qh->Ul:=qb0
theorem qkx:q48=zpu.F:=by kernel_rfl
def qc8(x:qf×qm):U7 Xw:=f (q (x.1.N_=x.2.Y_),x.2)
def q5n:qf×qm->U7 Xw:=qc8
theorem qjb:q5n=zpv.F:=by kernel_rfl
def q6e(A:zxd):zrg->U7 (Step zrg zkt):=λa=>if q (a.2.2.1 < a.2.1)=g then(za a.1 a.2.2.1).bind λb=>(A (b,a.2.2.2)).bind λc=>if c.1=g then f (Step.done (y (a.2.2.1,c.2))) else f (Step.next (a.1,a.2.1,U8 (a.2.2.1+1),c.2)) else f (Step.done (M a.2.2.2))
def qb1(A:zxd)(x:Sl qf×qm):U7 (Int×qm):=(lpO (q6e A) (x.1,Sl.len x.1,0,x.2)).bind λa=>F (λb=>f b) (λb=>f (-1,b)) a
def q73:Sl qf×qm->U7 (Int×qm):=qb1 q5n
theorem qky:q73=zuC.F:=by delta q73;rw[qjb];kernel_rfl
def qc9(x:qe×qm):U7 Xw:=f (q (x.1.N_=x.2.Y_),x.2)
def q5o:qe×qm->U7 Xw:=qc9
theorem qjc:q5o=zpw.F:=by kernel_rfl
def q6f(A:zxe):zrh->U7 (Step zrh zkt):=λa=>if q (a.2.2.1 < a.2.1)=g then(za a.1 a.2.2.1).bind λb=>(A (b,a.2.2.2)).bind λc=>if c.1=g then f (Step.done (y (a.2.2.1,c.2))) else f (Step.next (a.1,a.2.1,U8 (a.2.2.1+1),c.2)) else f (Step.done (M a.2.2.2))
def qb2(A:zxe)(x:Uz×qm):U7 (Int×qm):=(lpO (q6f A) (x.1,Sl.len x.1,0,x.2)).bind λa=>F (λb=>f b) (λb=>f (-1,b)) a
def q74:Uz×qm->U7 (Int×qm):=qb2 q5o
theorem qkz:q74=zuD.F:=by delta q74;rw[qjc];kernel_rfl
def qaf(A:Sl qf×qm->U7 (Int×qm))(B:Uz×qm->U7 (Int×qm))(x:ql×qm):U7 (Sl qh):=(if q (x.2.O_=12)=g then(A (x.1.G_,x.2)).bind λa=>if q (0<=a.1)=g then(za x.1.G_ a.1).bind λb=>f (y b.P_) else f (M ()) else(if q (x.2.O_=13)=g then(B (x.1.f_,x.2)).bind λc=>if q (0<=c.1)=g then(za x.1.f_ c.1).bind λd=>(za x.1.f_ c.1).bind λe=>(z7 d.V_ 0 e.P_).bind λi=>f (y i) else f (M ()) else f (M ())).bind λc=>F (λd=>f (y d)) (λd=>f (M ())) c).bind λa=>F (λb=>f b) (λb=>f (O [] N)) a
def q38:ql×qm->U7 (Sl qh):=qaf q73 q74
theorem qkl:q38=zuE.F:=by delta q38;rw[qky,qkz];kernel_rfl
def q5d(A:zqL)(B:ql×qh->Ul)(C:zcO)(D:ql×qm->U7 (Sl qh))(E:vm):zjR->U7 (Step zjR Uf):=λa=>if q (a.2.2.1 < a.2.1)=g then(za a.1 a.2.2.1).bind λb=>(B (a.2.2.2.1,b)).bind λc=>(if c=g then(za a.2.2.2.2.1.Q_ a.2.2.1).bind λd=>(E (a.2.2.2.1.F_,d.N_)).bind λe=>(zo 8 a.2.2.2.2.2 [e]).bind λi=>f (a.1,a.2.1,a.2.2.1,a.2.2.2.1,a.2.2.2.2.1,i) else f a).bind λd=>f (Step.next (d.1,d.2.1,U8 (d.2.2.1+1),d.2.2.2)) else f (Step.done a.2.2.2.2.2)
def qb4(A:zqL)(B:ql×qh->Ul)(C:zcO)(D:ql×qm->U7 (Sl qh))(E:vm)(x:ql×Int):U7 Uf:=(A x).bind λa=>(if a.2.2.2=g then(if q (a.1.M_=a.2.1.M_)=g then(B (x.1,a.2.1)).bind λb=>if b=g then f (a.2.2.1,g) else f (a.2.2.1,q (a.2.1.M_=4)) else f (a.2.2.1,N)).bind λb=>if b.2=g then f (y (O [b.1] g)) else f (y (O [] N)) else f (M (x.2,x.1))).bind λb=>F (λc=>f c) (λc=>(C (c.2,c.1)).bind λd=>(D (c.2,d.1)).bind λe=>(lpO (q5d A B C D E) (e,e.len,0,c.2,d.1,O [] N)).bind λi=>f i) b
def q1l:ZB:=qb4 q31 q48 q1q q38 q1o
theorem qbv:q1l=zh0.F:=by delta q1l;rw[qh7,qkx,q8w,qkl,q7h];kernel_rfl
def qay(A:zcO)(B:vm)(x:ql×Int):Ua:=(A x).bind λa=>(if a.2=g then if q (a.1.O_<=5)=g then f (g,x.1,a.1) else if q (a.1.O_=12)=g then f (q (a.1.X_≠lit []),x.1,a.1) else f (N,x.1,a.1) else f (N,x.1,a.1)).bind λb=>if b.1=g then(B (b.2.1.F_,b.2.2.X_)).bind λc=>f c else f (-1)
def q24:Vf:=qay q1q q1o
theorem qee:q24=zlS.F:=by delta q24;rw[q8w,q7h];kernel_rfl
def qgb(A:zhf)(B:ZB)(C:Vf):zqN->U7 (Step zqN (Int×ql×Us)):=λa=>if q (a.2.2.1 < a.2.1)=g then(za a.2.2.2.2.2 a.2.2.1).bind λb=>(za a.2.2.2.2.2 a.2.2.1).bind λc=>(za a.2.2.2.2.1 c).bind λd=>(za a.2.2.2.2.1 c).bind λe=>f (Step.next (a.1,a.2.1,U8 (a.2.2.1+1),a.2.2.2.1,Sl.set a.2.2.2.2.1 c N,a.2.2.2.2.2)) else f (Step.done (a.1,a.2.2.2.1,a.2.2.2.2.1))
def qdd(A:zhf)(B:ZB)(C:Vf)(x:zrn):U7 Us:=(A x.2.2).bind λa=>(B (x.1,x.2.1)).bind λb=>(lpO (qgb A B C) (x.2.1,b.len,0,x.1,a,b)).bind λc=>(C (c.2.1,c.1)).bind λd=>(if q (0<=d)=g then(za c.2.2 d).bind λe=>(za c.2.2 d).bind λi=>f (Sl.set c.2.2 d g) else f c.2.2).bind λe=>f e
def qb6:zrn->U7 Us:=qdd q5q q1l q24
theorem qkm:qb6=zuF.F:=by delta qb6;rw[qed,qbv,qee];kernel_rfl
def qbo(A:zcO)(x:ql×Int):U7 Uf:=(A x).bind λa=>(if(!a.2)=g then f (x.2,g,a.1) else if q (a.1.O_=14)=g then f (x.2,g,a.1) else f (x.2,q (a.1.O_=15),a.1)).bind λb=>(if b.2.1=g then f (y (O [] N)) else(if q (b.2.2.O_=11)=g then f (y (O [b.2.2.H_] g)) else(if q (b.2.2.O_=10)=g then f (b.1,q (b.2.2.H_≠U8 (b.1+1)),b.2.2) else f (b.1,N,b.2.2)).bind λc=>if c.2.1=g then f (y (O [U8 (c.1+1),c.2.2.H_] g)) else f (M c.1)).bind λc=>F (λd=>f (y d)) (λd=>f (M d)) c).bind λc=>F (λd=>f d) (λd=>f (O [U8 (d+1)] g)) c
def q2n:ZB:=qbo q1q
theorem qhj:q2n=zpx.F:=by delta q2n;rw[q8w];kernel_rfl
def qea(A:zqR)(B:ZB)(C:zhf)(D:zd4):zp1->U7 (Step zp1 zij):=λa=>if q (a.2.2.2.2.1 < a.2.2.2.1)=g then((za a.2.2.2.2.2.2.2.2.1 a.1).bind λb=>(za a.2.2.2.2.2.2.2.2.1 a.1).bind λc=>(za a.2.2.2.2.2.2.2.2.1 a.1).bind λd=>(za d a.2.2.2.2.1).bind λe=>(za a.2.2.2.2.2.2.2.2.1 a.1).bind λi=>(za i a.2.2.2.2.1).bind λj=>if j=g then(za a.2.2.2.2.2.2.2.2.2.1 a.2.2.2.2.1).bind λl=>(za a.2.2.2.2.2.2.2.2.2.1 a.2.2.2.2.1).bind λm=>f (a.1,a.2.2.2.2.1,a.2.1,a.2.2.1,a.2.2.2.1,a.2.2.2.2.1, !m,a.2.2.2.2.2) else f (a.1,a.2.2.2.2.1,a.2.1,a.2.2.1,a.2.2.2.1,a.2.2.2.2.1,N,a.2.2.2.2.2)).bind λb=>(if b.2.2.2.2.2.2.1=g then(za b.2.2.2.2.2.2.2.2.2.2.1 b.1).bind λc=>(za b.2.2.2.2.2.2.2.2.2.2.1 b.1).bind λd=>(za b.2.2.2.2.2.2.2.2.2.2.1 b.1).bind λe=>(za e b.2.1).bind λi=>(za b.2.2.2.2.2.2.2.2.2.2.1 b.1).bind λj=>(za j b.2.1).bind λl=>(D (b.1,b.2.2.2.2.2.2.2.1,b.2.2.2.2.2.2.2.2.2.2.2.2.2,b.2.2.2.2.2.2.2.2.2.1)).bind λm=>f (b.1,b.2.2.1,b.2.2.2.1,b.2.2.2.2.1,b.2.2.2.2.2.1,m.1,b.2.2.2.2.2.2.2.2.1,m.2.1,Sl.set b.2.2.2.2.2.2.2.2.2.2.1 b.1 (j.set b.2.1 N),b.2.2.2.2.2.2.2.2.2.2.2.1,b.2.2.2.2.2.2.2.2.2.2.2.2.1,m.2.2) else f (b.1,b.2.2.1,b.2.2.2.1,b.2.2.2.2.1,b.2.2.2.2.2.1,b.2.2.2.2.2.2.2)).bind λc=>f (Step.next (c.1,c.2.1,c.2.2.1,c.2.2.2.1,U8 (c.2.2.2.2.1+1),c.2.2.2.2.2)) else f (Step.done (a.2.1,a.2.2.1,a.2.2.2.2.2))
def qeb(A:zqR)(B:ZB)(C:zhf)(D:zd4):zij->U7 (Step zij zey):=λa=>if q (a.2.1 < a.1)=g then((za a.2.2.2.2.2.2.2.1 a.2.1).bind λb=>(za a.2.2.2.2.2.2.2.1 a.2.1).bind λc=>(za a.2.2.2.2.2.1 c).bind λd=>(za a.2.2.2.2.2.1 c).bind λe=>(za a.2.2.2.2.2.1 c).bind λi=>if(!i.nn)=g then(C a.2.2.2.2.2.2.1).bind λj=>(za a.2.2.2.2.2.1 c).bind λl=>(za a.2.2.2.2.2.1 c).bind λm=>(D (c,a.2.2.1,a.2.2.2.2.2.2.2.2,a.2.2.2.2.1)).bind λn=>f (a.1,a.2.1,n.1,a.2.2.2.1,n.2.1,Sl.set a.2.2.2.2.2.1 c j,a.2.2.2.2.2.2.1,a.2.2.2.2.2.2.2.1,n.2.2) else(lpO (qea A B C D) (c,a.1,a.2.1,Sl.len a.2.2.2.2.2.2.1,0,a.2.2)).bind λo=>f o).bind λb=>f (Step.next (b.1,U8 (b.2.1+1),b.2.2)) else f (Step.done (a.2.2.1,a.2.2.2.1,a.2.2.2.2.1,a.2.2.2.2.2.1,a.2.2.2.2.2.2.2.2))
def qar(A:zqR)(B:ZB)(C:zhf)(D:zd4)(x:zqk):U7 zey:=(za x.2.2.2.2.2 x.1).bind λa=>(za x.2.2.2.2.2 x.1).bind λb=>(za x.2.2.2.2.2 x.1).bind λc=>(A (x.2.2.1,x.1,c)).bind λd=>(B (x.2.2.1,x.1)).bind λe=>(lpO (qeb A B C D) (e.len,0,x.2.1,x.2.2.1,x.2.2.2.2.1,x.2.2.2.2.2,d,e,x.2.2.2.1)).bind λi=>f i
def q7v:zqk->U7 zey:=qar qb6 q2n q5q qaq
theorem qhz:q7v=zuG.F:=by delta q7v;rw[qkm,qhj,qed,qhw];kernel_rfl
def qgs(A:zd4)(B:zmJ)(C:zp5)(D:zvq):zqd->U7 (Step zqd zg6):=λa=>if q (a.2.2.1 < a.2.1)=g then(za a.1 a.2.2.1).bind λb=>(A (b,a.2.2.2.2.2)).bind λc=>f (Step.next (a.1,a.2.1,U8 (a.2.2.1+1),a.2.2.2.1,a.2.2.2.2.1,c.1,c.2.2,c.2.1)) else f (Step.done a.2.2.2)
def qgt(A:zd4)(B:zmJ)(C:zp5)(D:zvq):zg6->U7 (Step zg6 zaN):=λa=>(B a.2.2).bind λb=>if q (0 < b.1)=g then(C b.2).bind λc=>(D (c.1,c.2.1,a.1,c.2.2.2,(c.2.2.1.1,O (Xk c.1 c.2.2.1.2.xs) g),a.2.1)).bind λd=>f (Step.next (d.2.1,d.2.2.2.1,d.1,d.2.2.2.2,d.2.2.1)) else f (Step.done (a.1,a.2.1))
def qdv(A:zd4)(B:zmJ)(C:zp5)(D:zvq)(x:zqZ):U7 zaN:=(if x.1=g then f (x.2.1,x.2.2.1,x.2.2.2, -1,lit [],O [] g) else f (x.2.1,x.2.2.1,x.2.2.2,1,lit [],O [] g)).bind λa=>(lpO (qgs A B C D) (a.1,Sl.len a.1,0,a.2.1,a.2.2.1,a.2.2.2.1,O [] N,a.2.2.2.2)).bind λb=>(lpO (qgt A B C D) b).bind λc=>f c
def qbr:zqZ->U7 zaN:=qdv qaq q84 qaj q7v
theorem ql0:qbr=zuH.F:=by delta qbr;rw[qhw,qfj,qk1,qhz];kernel_rfl
def qh4(A:zwu):zaJ->U7 (Step zaJ zaN):=λa=>if q (a.2.1 < a.1)=g then(za a.2.2.2 0).bind λb=>(za a.2.2.2 0).bind λc=>(za a.2.2.2 0).bind λd=>(za d a.2.1).bind λe=>(za a.2.2.2 0).bind λi=>(za i a.2.1).bind λj=>f (Step.next (a.1,U8 (a.2.1+1),a.2.2.1,Sl.set a.2.2.2 0 (i.set a.2.1 g))) else f (Step.done a.2.2)
def qec(A:zwu)(x:ql):U7 GY:=(XQ 24 x.c_.L_.len (O [] N)).bind λa=>if q (a.len=0)=g then f (O [] N) else(XQ 1 x.F_.V_.len N).bind λb=>(za a 0).bind λc=>(za a 0).bind λd=>(lpO (qh4 A) (x.F_.P_,0,x,a.set 0 b)).bind λe=>(A (N,O [0] g,e)).bind λi=>f i.2
def qci:zeR:=qec qbr
theorem qld:qci=zuI.F:=by delta qci;rw[ql0];kernel_rfl
def qbe:zjV->U7 (Step zjV zcT):=λa=>if q (a.2.1 < a.1)=g then(za a.2.2.2 a.2.1).bind λb=>(za a.2.2.2 a.2.1).bind λc=>(if q (c.N_≠lit [])=g then(zo 16 a.2.2.1 [c.N_]).bind λd=>f (a.1,a.2.1,d,a.2.2.2) else f a).bind λd=>f (Step.next (d.1,U8 (d.2.1+1),d.2.2)) else f (Step.done a.2.2.1)
def qff(x:qm):U7 zcT:=(if q (x.O_=5)=g then f (q (x.O_=5),x) else(if q (x.O_=6)=g then f (q (x.O_=6),x) else(if q (x.O_=7)=g then f (q (x.O_=7),x) else(if q (x.O_=8)=g then f (q (x.O_=8),x) else f (q (x.O_=9),x)).bind λa=>f a).bind λa=>f a).bind λa=>f a).bind λa=>(if a.1=g then f (a.2,O ([]++[a.2.Y_]) (N || ![a.2.Y_].isEmpty)) else f (a.2,O [] N)).bind λb=>(zo 24 (O [b.1.A_,b.1.B_] g) b.1.Q_.xs).bind λc=>(lpO qbe (c.len,0,b.2,c)).bind λd=>f d
def q8v:zhg:=qff
theorem qm1:q8v=zpy.F:=by kernel_rfl
def q6d(A:zcO)(B:zhg)(C:vm):zqQ->U7 (Step zqQ Uf):=λa=>if q (a.2.1 < a.1)=g then(za a.2.2.2.2 a.2.1).bind λb=>(za a.2.2.2.2 a.2.1).bind λc=>(C (a.2.2.1.F_,c)).bind λd=>(zo 8 a.2.2.2.1 [d]).bind λe=>f (Step.next (a.1,U8 (a.2.1+1),a.2.2.1,e,a.2.2.2.2)) else f (Step.done a.2.2.2.1)
def qaz(A:zcO)(B:zhg)(C:vm)(x:ql×Int):U7 Uf:=(A x).bind λa=>(if a.2=g then(B a.1).bind λb=>(lpO (q6d A B C) (b.len,0,x.1,O [] N,b)).bind λc=>f c else f (O [] N)).bind λb=>f b
def q2e:ZB:=qaz q1q q8v q1o
theorem qh8:q2e=zpz.F:=by delta q2e;rw[q8w,qm1,q7h];kernel_rfl
def qgu(A:zeR)(B:ZB)(C:ZB):zvJ->U7 (Step zvJ zwi):=λa=>if q (a.2.2.2.2.2.1 < a.2.2.2.2.1)=g then(za a.2.2.2.2.2.2.2.2.2 a.2.2.2.2.2.1).bind λb=>(za a.2.2.2.2.2.2.2.2.2 a.2.2.2.2.2.1).bind λc=>(za a.2.2.2.2.2.2.2.1 a.2.1).bind λd=>(za d c).bind λe=>(za a.2.2.2.2.2.2.2.1 a.2.1).bind λi=>(za i c).bind λj=>if(!j)=g then(za a.2.2.2.2.2.2.1.c_.L_ a.1).bind λl=>f (Step.done (y (l.a_,52))) else f (Step.next (a.1,a.2.1,a.2.2.1,a.2.2.2.1,a.2.2.2.2.1,U8 (a.2.2.2.2.2.1+1),a.2.2.2.2.2.2.1,a.2.2.2.2.2.2.2.1,(a.2.2.2.2.2.2.2.2.1.1,O (Yd c (U8 (yj c 0 a.2.2.2.2.2.2.2.2.1.2.xs+1)) a.2.2.2.2.2.2.2.2.1.2.xs) g),a.2.2.2.2.2.2.2.2.2)) else f (Step.done (M (a.1,a.2.2.1,a.2.2.2.1,a.2.2.2.2.2.2.1,a.2.2.2.2.2.2.2.2.1,a.2.2.2.2.2.2.2.1)))
def qgv(A:zeR)(B:ZB)(C:ZB):zqc->U7 (Step zqc zwX):=λa=>if q (a.2.2.2.2.1 < a.2.2.2.1)=g then(za a.2.2.2.2.2.2.2.2 a.2.2.2.2.1).bind λb=>(za a.2.2.2.2.2.2.2.2 a.2.2.2.2.1).bind λc=>if q (1 < yj c 0 a.2.2.2.2.2.2.1.2.xs)=g then(za a.2.2.2.2.2.1.c_.L_ a.1).bind λd=>f (Step.done (y (d.a_,52))) else f (Step.next (a.1,a.2.1,a.2.2.1,a.2.2.2.1,U8 (a.2.2.2.2.1+1),a.2.2.2.2.2)) else f (Step.done (M (a.2.1,a.2.2.1,a.2.2.2.2.2.1,a.2.2.2.2.2.2.2.1)))
def qgw(A:zeR)(B:ZB)(C:ZB):zaJ->U7 (Step zaJ Yn):=λa=>if q (a.2.1 < a.1)=g then((za a.2.2.2 a.2.1).bind λb=>(za a.2.2.2 a.2.1).bind λc=>(za a.2.2.2 a.2.1).bind λd=>if(!d.nn)=g then f (y a) else(B (a.2.2.1,a.2.1)).bind λe=>(lpO (qgu A B C) (a.2.1,a.2.1,a.1,a.2.1,e.len,0,a.2.2.1,a.2.2.2,(lit [],O [] g),e)).bind λi=>F (λj=>f (M j)) (λj=>(C (j.2.2.2.1,j.1)).bind λl=>(lpO (qgv A B C) (j.1,j.2.1,j.2.2.1,l.len,0,j.2.2.2.1,j.2.2.2.2.1,j.2.2.2.2.2,l)).bind λm=>F (λn=>f (M n)) (λn=>f (y n)) m) i).bind λb=>F (λc=>f (Step.next (c.1,U8 (c.2.1+1),c.2.2))) (λc=>f (Step.done (y c))) b else f (Step.done (M ()))
def qdw(A:zeR)(B:ZB)(C:ZB)(x:ql):U7 zQ:=(A x).bind λa=>(lpO (qgw A B C) (a.len,0,x,a)).bind λb=>F (λc=>f c) (λc=>f (0,0)) b
def qbs:zrc:=qdw qci q2e q1l
theorem ql1:qbs=zuJ.F:=by delta qbs;rw[qld,qh8,qbv];kernel_rfl
def qca(A:zcI)(B:zrc)(C:ZB)(D:Vf)(x:Unit):Ul:=(A (lit [116,121,112,101,32,118,101,99,32,111,119,110,32,123,32,110,32,125,59,32,102,110,32,109,107,40,110,58,32,105,110,116,41,32,45,62,32,111,119,110,32,118,101,99,32,123,32,125,32,102,110,32,100,101,108,40,118,58,32,111,119,110,32,118,101,99,41,32,123,32,125],lit [102,110,32,109,97,105,110,40,41,32,123,32,118,32,61,32,109,107,40,51,41,59,32,119,32,61,32,118,59,32,100,101,108,40,118,41,59,32,125])).bind λa=>if(!a.1)=g then f N else(za a.2.1 0).bind λb=>(za a.2.1 0).bind λc=>(B c).bind λd=>(if q (d.2=52)=g then if q (d.1=30)=g then(za a.2.1 0).bind λe=>(za a.2.1 0).bind λi=>(C (i,1)).bind λj=>if q (j.len=1)=g then(za a.2.1 0).bind λl=>(za a.2.1 0).bind λm=>(D (m,1)).bind λn=>f (q (n=1)) else f N else f N else f N).bind λe=>f e
def q22:zaL:=qca q1x qbs q1l q24
theorem qjd:q22=zuK.F:=by delta q22;rw[qg5,ql1,qbv,qee];kernel_rfl
def qdq(A:zqL)(x:ql×Int):U7 we:=(A x).bind λa=>(if(!a.2.2.2)=g then f (a.2.2.1,g,a.1) else if q (a.2.1.M_≠2)=g then f (a.2.2.1,g,a.1) else if q (a.1.M_≠3)=g then f (a.2.2.1,q (a.1.M_≠4),a.1) else f (a.2.2.1,N,a.1)).bind λb=>if b.2.1=g then f (-1,N) else f (b.1,q (b.2.2.M_=4))
def q3o:ql×Int->U7 we:=qdq q31
theorem ql2:q3o=zuL.F:=by delta q3o;rw[qh7];kernel_rfl
def q3z(A:zcI)(B:zaL)(C:ZB)(D:ZB)(E:ZB)(G:zeM)(H:Vf):vZ->U7 (Step vZ zex):=λa=>if q (a.2.2.2.2.2.2.1 < a.2.2.2.2.2.1)=g then(za a.2.2.2.2.2.2.2.2.2.2 a.2.2.2.2.2.2.1).bind λb=>(za a.2.2.2.2.2.2.2.2.2.2 a.2.2.2.2.2.2.1).bind λc=>(if q (c < 0)=g then f (a.1,a.2.1,a.2.2.1,a.2.2.2.1,a.2.2.2.2.1,a.2.2.2.2.2.1,a.2.2.2.2.2.2.1,g,a.2.2.2.2.2.2.2.1,(a.2.2.2.2.2.2.2.2.1.1,O (Yd c (U8 (yj c 0 a.2.2.2.2.2.2.2.2.1.2.xs+1)) a.2.2.2.2.2.2.2.2.1.2.xs) g),a.2.2.2.2.2.2.2.2.2) else f (a.1,a.2.1,a.2.2.1,a.2.2.2.1,a.2.2.2.2.1,a.2.2.2.2.2.1,a.2.2.2.2.2.2.1,q (a.2.2.2.2.2.2.2.1.F_.V_.len<=c),a.2.2.2.2.2.2.2.1,(a.2.2.2.2.2.2.2.2.1.1,O (Yd c (U8 (yj c 0 a.2.2.2.2.2.2.2.2.1.2.xs+1)) a.2.2.2.2.2.2.2.2.1.2.xs) g),a.2.2.2.2.2.2.2.2.2)).bind λd=>if d.2.2.2.2.2.2.2.1=g then f (Step.done (y N)) else f (Step.next (d.1,d.2.1,d.2.2.1,d.2.2.2.1,d.2.2.2.2.1,d.2.2.2.2.2.1,U8 (d.2.2.2.2.2.2.1+1),d.2.2.2.2.2.2.2.2)) else f (Step.done (M (a.1,a.2.1,a.2.2.1,a.2.2.2.1,a.2.2.2.2.1,a.2.2.2.2.2.2.2.1,a.2.2.2.2.2.2.2.2.1,a.2.2.2.2.2.2.2.2.2.1)))
def q40(A:zcI)(B:zaL)(C:ZB)(D:ZB)(E:ZB)(G:zeM)(H:Vf):vZ->U7 (Step vZ zex):=λa=>if q (a.2.2.2.2.2.2.1 < a.2.2.2.2.2.1)=g then(za a.2.2.2.2.2.2.2.2.2.2 a.2.2.2.2.2.2.1).bind λb=>(za a.2.2.2.2.2.2.2.2.2.2 a.2.2.2.2.2.2.1).bind λc=>if q (yj c 0 a.2.2.2.2.2.2.2.2.1.2.xs=0)=g then f (Step.done (y N)) else f (Step.next (a.1,a.2.1,a.2.2.1,a.2.2.2.1,a.2.2.2.2.1,a.2.2.2.2.2.1,U8 (a.2.2.2.2.2.2.1+1),a.2.2.2.2.2.2.2)) else f (Step.done (M (a.1,a.2.1,a.2.2.1,a.2.2.2.1,a.2.2.2.2.1,a.2.2.2.2.2.2.2.1,a.2.2.2.2.2.2.2.2.1,a.2.2.2.2.2.2.2.2.2.1)))
def q41(A:zcI)(B:zaL)(C:ZB)(D:ZB)(E:ZB)(G:zeM)(H:Vf):vZ->U7 (Step vZ zex):=λa=>if q (a.2.2.2.2.2.2.1 < a.2.2.2.2.2.1)=g then(za a.2.2.2.2.2.2.2.2.2.2 a.2.2.2.2.2.2.1).bind λb=>(za a.2.2.2.2.2.2.2.2.2.2 a.2.2.2.2.2.2.1).bind λc=>(if q (c < 0)=g then f (a.1,a.2.1,a.2.2.1,a.2.2.2.1,a.2.2.2.2.1,a.2.2.2.2.2.1,a.2.2.2.2.2.2.1,g,a.2.2.2.2.2.2.2) else f (a.1,a.2.1,a.2.2.1,a.2.2.2.1,a.2.2.2.2.1,a.2.2.2.2.2.1,a.2.2.2.2.2.2.1,q (a.2.2.2.2.2.2.2.1.c_.L_.len<=c),a.2.2.2.2.2.2.2)).bind λd=>if d.2.2.2.2.2.2.2.1=g then f (Step.done (y N)) else f (Step.next (d.1,d.2.1,d.2.2.1,d.2.2.2.1,d.2.2.2.2.1,d.2.2.2.2.2.1,U8 (d.2.2.2.2.2.2.1+1),d.2.2.2.2.2.2.2.2)) else f (Step.done (M (a.1,a.2.1,a.2.2.1,a.2.2.2.1,a.2.2.2.2.1,a.2.2.2.2.2.2.2.1,a.2.2.2.2.2.2.2.2.1,a.2.2.2.2.2.2.2.2.2.1)))
def q42(A:zcI)(B:zaL)(C:ZB)(D:ZB)(E:ZB)(G:zeM)(H:Vf):zjT->U7 (Step zjT (Bool⊕zki)):=λa=>if q (a.2.2.2.1 < a.2.2.1)=g then((C (a.2.2.2.2.1,a.2.2.2.1)).bind λb=>(lpO (q3z A B C D E G H) (a.2.2.2.1,a.1,a.2.1,a.2.2.1,a.2.2.2.1,b.len,0,a.2.2.2.2.1,(lit [],O [] g),a.2.2.2.2.2,b)).bind λc=>F (λd=>f (y d)) (λd=>(D (d.2.2.2.2.2.1,d.1)).bind λe=>(lpO (q40 A B C D E G H) (d.1,d.2.1,d.2.2.1,d.2.2.2.1,d.2.2.2.2.1,e.len,0,d.2.2.2.2.2.1,d.2.2.2.2.2.2.1,d.2.2.2.2.2.2.2,e)).bind λi=>F (λj=>f (y j)) (λj=>(E (j.2.2.2.2.2.1,j.1)).bind λl=>(lpO (q41 A B C D E G H) (j.1,j.2.1,j.2.2.1,j.2.2.2.1,j.2.2.2.2.1,l.len,0,j.2.2.2.2.2.1,j.2.2.2.2.2.2.1,j.2.2.2.2.2.2.2,l)).bind λm=>F (λn=>f (y n)) (λn=>(G (n.2.2.2.2.2.1,n.1)).bind λo=>(if q (0<=o.1)=g then if q (yj o.1 0 n.2.2.2.2.2.2.1.2.xs=0)=g then f (n.1,n.2.1,n.2.2.1,n.2.2.2.1,n.2.2.2.2.1,g,n.2.2.2.2.2.1,n.2.2.2.2.2.2.2) else(za n.2.2.2.2.2.1.F_.V_ o.1).bind λp=>if q (p.M_≠2)=g then f (n.1,n.2.1,n.2.2.1,n.2.2.2.1,n.2.2.2.2.1,g,n.2.2.2.2.2.1,n.2.2.2.2.2.2.2) else(D (n.2.2.2.2.2.1,n.1)).bind λr=>f (n.1,n.2.1,n.2.2.1,n.2.2.2.1,n.2.2.2.2.1,q (0 < r.len),n.2.2.2.2.2.1,n.2.2.2.2.2.2.2) else f (n.1,n.2.1,n.2.2.1,n.2.2.2.1,n.2.2.2.2.1,N,n.2.2.2.2.2.1,n.2.2.2.2.2.2.2)).bind λp=>if p.2.2.2.2.2.1=g then f (y N) else(H (p.2.2.2.2.2.2.1,p.1)).bind λr=>if q (p.2.2.2.2.2.2.1.F_.V_.len<=r)=g then f (y N) else f (M (p.2.1,p.2.2.1,p.2.2.2.1,p.2.2.2.2.1,p.2.2.2.2.2.2))) m) i) c).bind λb=>F (λc=>f (Step.done (y c))) (λc=>f (Step.next (c.1,c.2.1,c.2.2.1,U8 (c.2.2.2.1+1),c.2.2.2.2))) b else f (Step.done (M (a.1,a.2.1,a.2.2.2.2.2)))
def q39(A:zcI)(B:zaL)(C:ZB)(D:ZB)(E:ZB)(G:zeM)(H:Vf):zki->U7 (Step zki (Bool⊕Unit)):=λa=>if q (a.2.1 < a.1)=g then(za a.2.2 a.2.1).bind λb=>(za a.2.2 a.2.1).bind λc=>(lpO (q42 A B C D E G H) (a.1,a.2.1,c.c_.L_.len,0,c,a.2.2)).bind λd=>F (λe=>f (Step.done (y e))) (λe=>f (Step.next (e.1,U8 (e.2.1+1),e.2.2))) d else f (Step.done (M ()))
def qa1(A:zcI)(B:zaL)(C:ZB)(D:ZB)(E:ZB)(G:zeM)(H:Vf)(x:xp):Ul:=(A x).bind λa=>((B ()).bind λb=>if(!b)=g then f (g,a.2.1) else f (!a.1,a.2.1)).bind λb=>if b.1=g then(B ()).bind λc=>f c else(lpO (q39 A B C D E G H) (Sl.len b.2,0,b.2)).bind λd=>F (λe=>f e) (λe=>f g) d
def qag:xp->Ul:=qa1 q1x q22 q2e q1l q2n q3o q24
theorem qhl:qag=zfI.F:=by delta qag;rw[qg5,qjd,qh8,qbv,qhj,ql2,qee];kernel_rfl
end
end Go.Px
